/- The program's functions as abstract code. -/
import Derived.Test.YthnddhfpkmbacaaDoorPayQ
set_option maxRecDepth 20000
namespace Pay
def g_law07_LexExact.o5 : List AOper :=
  [⟨some 40, .pick (.t 38) (.t 39) (.c (.d (.bool false))), [], [], none, none⟩,
     ⟨some 2, .mv (.t 40), [], [], none, none⟩]
def g_law07_LexExact.o4 : List AOper :=
  (⟨some 39, .call 73 [], [], [], (some (12, 38, true)), (some ([38, 39], (some [])))⟩ ::
     g_law07_LexExact.o5)
def g_law07_LexExact.o3 : List AOper :=
  (⟨some 37, .pick (.t 34) (.t 36) (.c (.d (.bool false))), [], [], none, none⟩ ::
     ⟨some 38, .mv (.t 37), [], [], none, (some ([38], (some [])))⟩ ::
     g_law07_LexExact.o4)
def g_law07_LexExact.o2 : List AOper :=
  (⟨some 35, .mv (.t 5), [], [], (some (8, 34, true)), none⟩ ::
     ⟨some 36, .bin .eql (.t 35) (.c (.d (.int .i64 2))), [], [], (some (8, 34, true)), (some ([34, 36], (some [])))⟩ ::
     g_law07_LexExact.o3)
def g_law07_LexExact.o1 : List AOper :=
  (⟨some 33, .pick (.t 29) (.t 32) (.c (.d (.bool false))), [], [], none, none⟩ ::
     ⟨some 34, .mv (.t 33), [], [], none, (some ([5, 34], (some [])))⟩ ::
     g_law07_LexExact.o2)
def g_law07_LexExact.o0 : List AOper :=
  (⟨some 30, .mv (.t 4), [], [], (some (3, 29, true)), none⟩ ::
     ⟨some 31, .mv (.t 7), [], [], (some (3, 29, true)), none⟩ ::
     ⟨some 32, .bin .eql (.t 30) (.t 31), [], [], (some (3, 29, true)), (some ([5, 29, 32], (some [])))⟩ ::
     g_law07_LexExact.o1)
def g_law07_LexExact.c0 : ACode :=
  .ret
def g_law07_LexExact.o9 : List AOper :=
  [⟨some 53, .pick (.t 50) (.c (.d (.bool true))) (.t 52), [], [], none, none⟩]
def g_law07_LexExact.o8 : List AOper :=
  (⟨some 51, .mv (.t 5), [], [], (some (9, 50, false)), none⟩ ::
     ⟨some 52, .bin .neq (.t 51) (.c (.d (.int .i64 0))), [], [], (some (9, 50, false)), (some ([3, 6, 50, 52], (some [])))⟩ ::
     g_law07_LexExact.o9)
def g_law07_LexExact.o7 : List AOper :=
  (⟨some 49, .pick (.t 46) (.c (.d (.bool true))) (.t 48), [], [], none, none⟩ ::
     ⟨some 50, .mv (.t 49), [], [], none, (some ([3, 5, 6, 50], (some [])))⟩ ::
     g_law07_LexExact.o8)
def g_law07_LexExact.o6 : List AOper :=
  (⟨some 47, .mv (.t 4), [], [], (some (5, 46, false)), none⟩ ::
     ⟨some 48, .bin .neq (.t 47) (.c (.d (.int .i64 0))), [], [], (some (5, 46, false)), (some ([3, 5, 6, 46, 48], (some [])))⟩ ::
     g_law07_LexExact.o7)
def g_law07_LexExact.c1 : ACode :=
  .cond (.t 53) (.seq (.region [2] (some []) none
      [⟨some 2, .mv (.c (.d (.bool false))), [], [], none, none⟩])
   (.ret))
  (.skip)
def g_law07_LexExact.c2 : ACode :=
  .region [3, 6, 55, 56] (some []) none
    [⟨some 68, .bin .add (.t 56) (.c (.d (.int .i64 1))), [], [], none, none⟩,
     ⟨some 56, .mv (.t 68), [], [], none, none⟩]
def g_law07_LexExact.l0 : ACode :=
  .loop [3, 6, 55, 56] (some []) (.seq (.region [3, 6, 55, 56, 57] (some []) none
     [⟨some 57, .bin .lss (.t 56) (.t 55), [], [], none, none⟩])
  (.seq (.cond (.t 57) (.skip)
    (.exit 0))
   (.seq (.block 1 [3, 6, 55, 56] (some []) (.seq (.region [3, 6, 8, 55, 56] (some []) none
         [⟨some 58, .mv (.t 56), [], [], none, none⟩,
          ⟨some 8, .mv (.t 58), [], [], none, none⟩])
      (.seq (.region [3, 6, 55, 56, 67] (some []) (some ([0, 1, 2, 3, 4, 5, 6, 7, 8], .done))
          [⟨some 59, .mv (.t 3), [], [], none, none⟩,
           ⟨some 60, .mv (.t 8), [], [], none, none⟩,
           ⟨some 61, .iaddr 3 (.t 59) (.t 60), [], [0, 1], none, none⟩,
           ⟨some 62, .load (some 3) (.t 61), [], [2], none, none⟩,
           ⟨some 63, .mv (.t 6), [], [], none, none⟩,
           ⟨some 64, .mv (.t 8), [], [], none, none⟩,
           ⟨some 65, .iaddr 3 (.t 63) (.t 64), [], [4, 5], none, none⟩,
           ⟨some 66, .load (some 3) (.t 65), [], [6], none, none⟩,
           ⟨some 67, .eqs true [0, 2, 0] (.t 62) (.t 66), [], [3, 7], none, none⟩])
       (.cond (.t 67) (.seq (.region [2] (some []) none
            [⟨some 2, .mv (.c (.d (.bool false))), [], [], none, none⟩])
         (.ret))
        (.skip)))))
    (g_law07_LexExact.c2))))
def g_law07_LexExact.c3 : ACode :=
  .seq (.region [2] (some []) none
     [⟨some 69, .call 73 [], [], [], none, none⟩,
      ⟨some 2, .mv (.t 69), [], [], none, none⟩])
  (.ret)
def g_law07_LexExact.c4 : ACode :=
  .seq (.seq (.region [3, 6, 55, 56] (some []) none
      [⟨some 54, .mv (.t 3), [], [], none, none⟩,
       ⟨some 55, .len (.t 54), [], [], none, none⟩,
       ⟨some 56, .mv (.c (.d (.int .i64 0))), [], [], none, none⟩])
   (.block 0 [] (some []) (g_law07_LexExact.l0)))
  (g_law07_LexExact.c3)
def g_law07_LexExact.c5 : ACode :=
  .seq (.seq (.region [3, 6, 53] (some []) none
      (⟨some 41, .mv (.t 3), [], [], none, none⟩ ::
       ⟨some 42, .len (.t 41), [], [], none, none⟩ ::
       ⟨some 43, .mv (.t 6), [], [], none, none⟩ ::
       ⟨some 44, .len (.t 43), [], [], none, none⟩ ::
       ⟨some 45, .bin .neq (.t 42) (.t 44), [], [], none, none⟩ ::
       ⟨some 46, .mv (.t 45), [], [], none, (some ([3, 4, 5, 6, 46], (some [])))⟩ ::
       g_law07_LexExact.o6))
   (g_law07_LexExact.c1))
  (g_law07_LexExact.c4)
def g_law07_LexExact.c6 : ACode :=
  .seq (.seq (.region [3, 4, 5, 6, 7, 25] (some []) none
      [⟨some 24, .mv (.t 7), [], [], none, none⟩,
       ⟨some 25, .bin .geq (.t 24) (.c (.d (.int .i64 0))), [], [], none, none⟩])
   (.cond (.t 25) (.seq (.region [2] (some []) none
        (⟨some 26, .mv (.t 3), [], [], none, none⟩ ::
         ⟨some 27, .len (.t 26), [], [], none, none⟩ ::
         ⟨some 28, .bin .eql (.t 27) (.c (.d (.int .i64 0))), [], [], none, none⟩ ::
         ⟨some 29, .mv (.t 28), [], [], none, (some ([4, 5, 7, 29], (some [])))⟩ ::
         g_law07_LexExact.o0))
     (g_law07_LexExact.c0))
    (.skip)))
  (g_law07_LexExact.c5)
def g_law07_LexExact.c7 : ACode :=
  .seq (.region [3, 4, 5, 6, 7] (some []) none
     [⟨some 20, .mv (.t 0), [], [], none, none⟩,
      ⟨some 21, .call 75 [(.t 20)], [], [], none, none⟩,
      ⟨some 19, .mv (.t 21), [], [], none, none⟩,
      ⟨some 22, .ext (.t 19) 0, [], [], none, none⟩,
      ⟨some 23, .ext (.t 19) 1, [], [], none, none⟩,
      ⟨some 6, .mv (.t 22), [], [], none, none⟩,
      ⟨some 7, .mv (.t 23), [], [], none, none⟩])
  (g_law07_LexExact.c6)
def g_law07_LexExact.c8 : ACode :=
  .seq (.region [0, 3, 4, 5] (some []) none
     [⟨some 14, .mv (.t 0), [], [], none, none⟩,
      ⟨some 15, .call 74 [(.t 14)], [], [], none, none⟩,
      ⟨some 13, .mv (.t 15), [], [], none, none⟩,
      ⟨some 16, .ext (.t 13) 0, [], [], none, none⟩,
      ⟨some 17, .ext (.t 13) 1, [], [], none, none⟩,
      ⟨some 18, .ext (.t 13) 2, [], [], none, none⟩,
      ⟨some 3, .mv (.t 16), [], [], none, none⟩,
      ⟨some 4, .mv (.t 17), [], [], none, none⟩,
      ⟨some 5, .mv (.t 18), [], [], none, none⟩])
  (g_law07_LexExact.c7)
def g_law07_LexExact.code : ACode :=
  .seq (.region [0] (some []) none
     [⟨some 2, .mv (.c (.d (.bool false))), [], [], none, none⟩])
  (.seq (.seq (.region [0, 11] (some []) none
       [⟨some 9, .mv (.t 0), [], [], none, none⟩,
        ⟨some 10, .lenS (.t 9), [], [], none, none⟩,
        ⟨some 11, .bin .gtr (.t 10) (.c (.d (.int .i64 600))), [], [], none, none⟩])
    (.cond (.t 11) (.seq (.region [2] (some []) none
         [⟨some 12, .call 73 [], [], [], none, none⟩,
          ⟨some 2, .mv (.t 12), [], [], none, none⟩])
      (.ret))
     (.skip)))
   (g_law07_LexExact.c8))
def g_law07_LexExact : AFn := { N := 70, res := [.slot 2], own := [], frz := [], code := g_law07_LexExact.code }
def g_law07_LexAgain.o1 : List AOper :=
  [⟨some 35, .pick (.t 33) (.t 34) (.c (.d (.bool false))), [], [], none, none⟩,
     ⟨some 2, .mv (.t 35), [], [], none, none⟩]
def g_law07_LexAgain.o0 : List AOper :=
  (⟨some 34, .call 73 [], [], [], (some (3, 33, true)), (some ([33, 34], (some [])))⟩ ::
     g_law07_LexAgain.o1)
def g_law07_LexAgain.c0 : ACode :=
  .ret
def g_law07_LexAgain.c1 : ACode :=
  .region [3, 6, 7, 36, 37, 38] (some []) none
    [⟨some 47, .mv (.t 7), [], [], none, none⟩,
     ⟨some 48, .faddr 1 (.t 9), [], [], none, none⟩,
     ⟨some 49, .load none (.t 48), [], [], none, none⟩,
     ⟨some 50, .bin .add (.c (.d (.str [10, 32, 32]))) (.t 49), [], [], none, none⟩,
     ⟨some 51, .bin .add (.t 50) (.c (.d (.str [32, 35, 32, 61, 32, 63, 10]))), [], [], none, none⟩,
     ⟨some 52, .bin .add (.t 47) (.t 51), [], [], none, none⟩,
     ⟨some 7, .mv (.t 52), [], [], none, none⟩]
def g_law07_LexAgain.c2 : ACode :=
  .seq (.region [3, 6, 7, 9, 36, 37, 38] (some [9]) none
     [⟨some 42, .mv (.t 6), [], [], none, none⟩,
      ⟨some 43, .faddr 1 (.t 9), [], [], none, none⟩,
      ⟨some 44, .load none (.t 43), [], [], none, none⟩,
      ⟨some 45, .bin .add (.t 44) (.c (.d (.str [32]))), [], [], none, none⟩,
      ⟨some 46, .bin .add (.t 42) (.t 45), [], [], none, none⟩,
      ⟨some 6, .mv (.t 46), [], [], none, none⟩])
  (g_law07_LexAgain.c1)
def g_law07_LexAgain.c3 : ACode :=
  .region [3, 6, 7, 36, 37, 38] (some []) none
    [⟨some 53, .bin .add (.t 38) (.c (.d (.int .i64 1))), [], [], none, none⟩,
     ⟨some 38, .mv (.t 53), [], [], none, none⟩]
def g_law07_LexAgain.l0 : ACode :=
  .loop [3, 6, 7, 36, 37, 38] (some []) (.seq (.region [3, 6, 7, 36, 37, 38, 39] (some []) none
     [⟨some 39, .bin .lss (.t 38) (.t 37), [], [], none, none⟩])
  (.seq (.cond (.t 39) (.skip)
    (.exit 0))
   (.seq (.block 1 [3, 6, 7, 36, 37, 38] (some []) (.seq (.region [3, 6, 7, 9, 36, 37, 38] (some [9]) none
         [⟨some 40, .iaddr 3 (.t 36) (.t 38), [], [], none, none⟩,
          ⟨some 41, .load (some 3) (.t 40), [], [], none, none⟩,
          ⟨some 9, .alloc 9 [.d (.int .i64 0), .d (.str []), .d (.int .i64 0)], [], [], none, none⟩,
          ⟨none, .store 3 (.t 9) (.t 41), [], [], none, none⟩])
      (g_law07_LexAgain.c2)))
    (g_law07_LexAgain.c3))))
def g_law07_LexAgain.o7 : List AOper :=
  [⟨some 85, .pick (.t 82) (.c (.d (.bool true))) (.t 84), [], [], none, none⟩]
def g_law07_LexAgain.o6 : List AOper :=
  (⟨some 83, .mv (.t 15), [], [], (some (16, 82, false)), none⟩ ::
     ⟨some 84, .bin .neq (.t 83) (.c (.d (.int .i64 0))), [], [], (some (16, 82, false)), (some ([3, 10, 13, 82, 84], (some [])))⟩ ::
     g_law07_LexAgain.o7)
def g_law07_LexAgain.o5 : List AOper :=
  (⟨some 81, .pick (.t 78) (.c (.d (.bool true))) (.t 80), [], [], none, none⟩ ::
     ⟨some 82, .mv (.t 81), [], [], none, (some ([3, 10, 13, 15, 82], (some [])))⟩ ::
     g_law07_LexAgain.o6)
def g_law07_LexAgain.o4 : List AOper :=
  (⟨some 79, .mv (.t 12), [], [], (some (12, 78, false)), none⟩ ::
     ⟨some 80, .bin .neq (.t 79) (.c (.d (.int .i64 0))), [], [], (some (12, 78, false)), (some ([3, 10, 13, 15, 78, 80], (some [])))⟩ ::
     g_law07_LexAgain.o5)
def g_law07_LexAgain.o3 : List AOper :=
  (⟨some 77, .pick (.t 71) (.c (.d (.bool true))) (.t 76), [], [], none, none⟩ ::
     ⟨some 78, .mv (.t 77), [], [], none, (some ([3, 10, 12, 13, 15, 78], (some [])))⟩ ::
     g_law07_LexAgain.o4)
def g_law07_LexAgain.o2 : List AOper :=
  (⟨some 72, .mv (.t 13), [], [], (some (5, 71, false)), none⟩ ::
     ⟨some 73, .len (.t 72), [], [], (some (5, 71, false)), none⟩ ::
     ⟨some 74, .mv (.t 3), [], [], (some (5, 71, false)), none⟩ ::
     ⟨some 75, .len (.t 74), [], [], (some (5, 71, false)), none⟩ ::
     ⟨some 76, .bin .neq (.t 73) (.t 75), [], [], (some (5, 71, false)), (some ([3, 10, 12, 13, 15, 71, 76], (some [])))⟩ ::
     g_law07_LexAgain.o3)
def g_law07_LexAgain.c4 : ACode :=
  .cond (.t 85) (.seq (.region [2] (some []) none
      [⟨some 2, .mv (.c (.d (.bool false))), [], [], none, none⟩])
   (.ret))
  (.skip)
def g_law07_LexAgain.a8 : List AOper :=
  [⟨some 93, .mv (.t 10), [], [], none, none⟩,
     ⟨some 94, .mv (.t 16), [], [], none, none⟩,
     ⟨some 95, .iaddr 3 (.t 93) (.t 94), [], [0, 1], none, none⟩,
     ⟨some 96, .faddr 0 (.t 95), [], [2], none, none⟩,
     ⟨some 97, .load none (.t 96), [], [3], none, none⟩,
     ⟨some 98, .faddr 0 (.t 17), [], [], none, none⟩,
     ⟨some 99, .load none (.t 98), [], [5], none, none⟩,
     ⟨some 100, .bin .neq (.t 97) (.t 99), [], [4, 6], none, none⟩,
     ⟨some 101, .mv (.t 100), [], [7], none, none⟩,
     ⟨some 102, .mv (.t 10), [], [8], (some (8, 101, false)), none⟩,
     ⟨some 103, .mv (.t 16), [], [8], (some (8, 101, false)), none⟩,
     ⟨some 104, .iaddr 3 (.t 102) (.t 103), [], [9, 10, 8], (some (8, 101, false)), none⟩,
     ⟨some 105, .faddr 1 (.t 104), [], [11, 8], (some (8, 101, false)), none⟩,
     ⟨some 106, .load none (.t 105), [], [12, 8], (some (8, 101, false)), none⟩,
     ⟨some 107, .faddr 1 (.t 17), [], [8], (some (8, 101, false)), none⟩,
     ⟨some 108, .load none (.t 107), [], [14, 8], (some (8, 101, false)), none⟩,
     ⟨some 109, .bin .neq (.t 106) (.t 108), [], [13, 15, 8], (some (8, 101, false)), none⟩,
     ⟨some 110, .pick (.t 101) (.c (.d (.bool true))) (.t 109), [], [8, 16], none, none⟩,
     ⟨some 111, .mv (.t 110), [], [17, 8], none, none⟩,
     ⟨some 112, .mv (.t 13), [], [18], (some (18, 111, false)), none⟩,
     ⟨some 113, .mv (.t 16), [], [18], (some (18, 111, false)), none⟩,
     ⟨some 114, .iaddr 3 (.t 112) (.t 113), [], [19, 20, 18], (some (18, 111, false)), none⟩,
     ⟨some 115, .faddr 0 (.t 114), [], [21, 18], (some (18, 111, false)), none⟩,
     ⟨some 116, .load none (.t 115), [], [22, 18], (some (18, 111, false)), none⟩,
     ⟨some 117, .faddr 0 (.t 17), [], [18], (some (18, 111, false)), none⟩,
     ⟨some 118, .load none (.t 117), [], [24, 18], (some (18, 111, false)), none⟩,
     ⟨some 119, .bin .neq (.t 116) (.t 118), [], [23, 25, 18], (some (18, 111, false)), none⟩,
     ⟨some 120, .pick (.t 111) (.c (.d (.bool true))) (.t 119), [], [18, 26], none, none⟩,
     ⟨some 121, .mv (.t 120), [], [27, 18], none, none⟩,
     ⟨some 122, .mv (.t 13), [], [28], (some (28, 121, false)), none⟩,
     ⟨some 123, .mv (.t 16), [], [28], (some (28, 121, false)), none⟩,
     ⟨some 124, .iaddr 3 (.t 122) (.t 123), [], [29, 30, 28], (some (28, 121, false)), none⟩,
     ⟨some 125, .faddr 1 (.t 124), [], [31, 28], (some (28, 121, false)), none⟩,
     ⟨some 126, .load none (.t 125), [], [32, 28], (some (28, 121, false)), none⟩,
     ⟨some 127, .faddr 1 (.t 17), [], [28], (some (28, 121, false)), none⟩,
     ⟨some 128, .load none (.t 127), [], [34, 28], (some (28, 121, false)), none⟩,
     ⟨some 129, .bin .neq (.t 126) (.t 128), [], [33, 35, 28], (some (28, 121, false)), none⟩,
     ⟨some 130, .pick (.t 121) (.c (.d (.bool true))) (.t 129), [], [28, 36], none, none⟩]
def g_law07_LexAgain.i45 : List Nat := 37 :: []
def g_law07_LexAgain.i44 : List Nat := 36 :: g_law07_LexAgain.i45
def g_law07_LexAgain.i43 : List Nat := 35 :: g_law07_LexAgain.i44
def g_law07_LexAgain.i42 : List Nat := 34 :: g_law07_LexAgain.i43
def g_law07_LexAgain.i41 : List Nat := 33 :: g_law07_LexAgain.i42
def g_law07_LexAgain.i40 : List Nat := 32 :: g_law07_LexAgain.i41
def g_law07_LexAgain.i39 : List Nat := 31 :: g_law07_LexAgain.i40
def g_law07_LexAgain.i38 : List Nat := 30 :: g_law07_LexAgain.i39
def g_law07_LexAgain.i37 : List Nat := 29 :: g_law07_LexAgain.i38
def g_law07_LexAgain.i36 : List Nat := 28 :: g_law07_LexAgain.i37
def g_law07_LexAgain.i35 : List Nat := 27 :: g_law07_LexAgain.i36
def g_law07_LexAgain.i34 : List Nat := 26 :: g_law07_LexAgain.i35
def g_law07_LexAgain.i33 : List Nat := 25 :: g_law07_LexAgain.i34
def g_law07_LexAgain.i32 : List Nat := 24 :: g_law07_LexAgain.i33
def g_law07_LexAgain.i31 : List Nat := 23 :: g_law07_LexAgain.i32
def g_law07_LexAgain.i30 : List Nat := 22 :: g_law07_LexAgain.i31
def g_law07_LexAgain.i29 : List Nat := 21 :: g_law07_LexAgain.i30
def g_law07_LexAgain.i28 : List Nat := 20 :: g_law07_LexAgain.i29
def g_law07_LexAgain.i27 : List Nat := 19 :: g_law07_LexAgain.i28
def g_law07_LexAgain.i26 : List Nat := 18 :: g_law07_LexAgain.i27
def g_law07_LexAgain.i25 : List Nat := 17 :: g_law07_LexAgain.i26
def g_law07_LexAgain.i24 : List Nat := 16 :: g_law07_LexAgain.i25
def g_law07_LexAgain.i23 : List Nat := 15 :: g_law07_LexAgain.i24
def g_law07_LexAgain.i22 : List Nat := 14 :: g_law07_LexAgain.i23
def g_law07_LexAgain.i21 : List Nat := 13 :: g_law07_LexAgain.i22
def g_law07_LexAgain.i20 : List Nat := 12 :: g_law07_LexAgain.i21
def g_law07_LexAgain.i19 : List Nat := 11 :: g_law07_LexAgain.i20
def g_law07_LexAgain.i18 : List Nat := 10 :: g_law07_LexAgain.i19
def g_law07_LexAgain.i17 : List Nat := 9 :: g_law07_LexAgain.i18
def g_law07_LexAgain.i16 : List Nat := 8 :: g_law07_LexAgain.i17
def g_law07_LexAgain.i15 : List Nat := 7 :: g_law07_LexAgain.i16
def g_law07_LexAgain.i14 : List Nat := 6 :: g_law07_LexAgain.i15
def g_law07_LexAgain.i13 : List Nat := 5 :: g_law07_LexAgain.i14
def g_law07_LexAgain.i12 : List Nat := 4 :: g_law07_LexAgain.i13
def g_law07_LexAgain.i11 : List Nat := 3 :: g_law07_LexAgain.i12
def g_law07_LexAgain.i10 : List Nat := 2 :: g_law07_LexAgain.i11
def g_law07_LexAgain.i9 : List Nat := 1 :: g_law07_LexAgain.i10
def g_law07_LexAgain.c5 : ACode :=
  .cond (.t 130) (.seq (.region [2] (some []) none
      [⟨some 2, .mv (.c (.d (.bool false))), [], [], none, none⟩])
   (.ret))
  (.skip)
def g_law07_LexAgain.c6 : ACode :=
  .seq (.region [10, 13, 86, 87, 88, 130] (some []) (some (0 :: g_law07_LexAgain.i9, .done)) g_law07_LexAgain.a8)
  (g_law07_LexAgain.c5)
def g_law07_LexAgain.c7 : ACode :=
  .region [10, 13, 86, 87, 88] (some []) none
    [⟨some 131, .bin .add (.t 88) (.c (.d (.int .i64 1))), [], [], none, none⟩,
     ⟨some 88, .mv (.t 131), [], [], none, none⟩]
def g_law07_LexAgain.l1 : ACode :=
  .loop [10, 13, 86, 87, 88] (some []) (.seq (.region [10, 13, 86, 87, 88, 89] (some []) none
     [⟨some 89, .bin .lss (.t 88) (.t 87), [], [], none, none⟩])
  (.seq (.cond (.t 89) (.skip)
    (.exit 2))
   (.seq (.block 3 [10, 13, 86, 87, 88] (some []) (.seq (.region [10, 13, 16, 17, 86, 87, 88] (some [17]) none
         [⟨some 90, .mv (.t 88), [], [], none, none⟩,
          ⟨some 91, .iaddr 3 (.t 86) (.t 88), [], [], none, none⟩,
          ⟨some 92, .load (some 3) (.t 91), [], [], none, none⟩,
          ⟨some 17, .alloc 17 [.d (.int .i64 0), .d (.str []), .d (.int .i64 0)], [], [], none, none⟩,
          ⟨some 16, .mv (.t 90), [], [], none, none⟩,
          ⟨none, .store 3 (.t 17) (.t 92), [], [], none, none⟩])
      (g_law07_LexAgain.c6)))
    (g_law07_LexAgain.c7))))
def g_law07_LexAgain.c8 : ACode :=
  .seq (.region [2] (some []) none
     [⟨some 132, .call 73 [], [], [], none, none⟩,
      ⟨some 2, .mv (.t 132), [], [], none, none⟩])
  (.ret)
def g_law07_LexAgain.c9 : ACode :=
  .seq (.seq (.region [10, 13, 86, 87, 88] (some []) none
      [⟨some 86, .mv (.t 3), [], [], none, none⟩,
       ⟨some 87, .len (.t 86), [], [], none, none⟩,
       ⟨some 88, .mv (.c (.d (.int .i64 0))), [], [], none, none⟩])
   (.block 2 [] (some []) (g_law07_LexAgain.l1)))
  (g_law07_LexAgain.c8)
def g_law07_LexAgain.c10 : ACode :=
  .seq (.seq (.region [3, 10, 13, 85] (some []) none
      (⟨some 66, .mv (.t 10), [], [], none, none⟩ ::
       ⟨some 67, .len (.t 66), [], [], none, none⟩ ::
       ⟨some 68, .mv (.t 3), [], [], none, none⟩ ::
       ⟨some 69, .len (.t 68), [], [], none, none⟩ ::
       ⟨some 70, .bin .neq (.t 67) (.t 69), [], [], none, none⟩ ::
       ⟨some 71, .mv (.t 70), [], [], none, (some ([3, 10, 12, 13, 15, 71], (some [])))⟩ ::
       g_law07_LexAgain.o2))
   (g_law07_LexAgain.c4))
  (g_law07_LexAgain.c9)
def g_law07_LexAgain.c11 : ACode :=
  .seq (.region [3, 10, 12, 13, 15] (some []) none
     [⟨some 61, .mv (.t 7), [], [], none, none⟩,
      ⟨some 62, .call 74 [(.t 61)], [], [], none, none⟩,
      ⟨some 60, .mv (.t 62), [], [], none, none⟩,
      ⟨some 63, .ext (.t 60) 0, [], [], none, none⟩,
      ⟨some 64, .ext (.t 60) 1, [], [], none, none⟩,
      ⟨some 65, .ext (.t 60) 2, [], [], none, none⟩,
      ⟨some 13, .mv (.t 63), [], [], none, none⟩,
      ⟨some 14, .mv (.t 64), [], [], none, none⟩,
      ⟨some 15, .mv (.t 65), [], [], none, none⟩])
  (g_law07_LexAgain.c10)
def g_law07_LexAgain.c12 : ACode :=
  .seq (.region [3, 7, 10, 12] (some []) none
     [⟨some 55, .mv (.t 6), [], [], none, none⟩,
      ⟨some 56, .call 74 [(.t 55)], [], [], none, none⟩,
      ⟨some 54, .mv (.t 56), [], [], none, none⟩,
      ⟨some 57, .ext (.t 54) 0, [], [], none, none⟩,
      ⟨some 58, .ext (.t 54) 1, [], [], none, none⟩,
      ⟨some 59, .ext (.t 54) 2, [], [], none, none⟩,
      ⟨some 10, .mv (.t 57), [], [], none, none⟩,
      ⟨some 11, .mv (.t 58), [], [], none, none⟩,
      ⟨some 12, .mv (.t 59), [], [], none, none⟩])
  (g_law07_LexAgain.c11)
def g_law07_LexAgain.c13 : ACode :=
  .seq (.region [3, 6, 7] (some []) none
     [⟨some 6, .mv (.c (.d (.str []))), [], [], none, none⟩,
      ⟨some 7, .mv (.c (.d (.str [35, 32, 97, 108, 108, 10]))), [], [], none, none⟩])
  (.seq (.seq (.region [3, 6, 7, 36, 37, 38] (some []) none
       [⟨some 36, .mv (.t 3), [], [], none, none⟩,
        ⟨some 37, .len (.t 36), [], [], none, none⟩,
        ⟨some 38, .mv (.c (.d (.int .i64 0))), [], [], none, none⟩])
    (.block 0 [3, 6, 7] (some []) (g_law07_LexAgain.l0)))
   (g_law07_LexAgain.c12))
def g_law07_LexAgain.c14 : ACode :=
  .seq (.seq (.region [3, 29] (some []) none
      [⟨some 28, .mv (.t 5), [], [], none, none⟩,
       ⟨some 29, .bin .neq (.t 28) (.c (.d (.int .i64 0))), [], [], none, none⟩])
   (.cond (.t 29) (.seq (.region [2] (some []) none
        (⟨some 30, .mv (.t 3), [], [], none, none⟩ ::
         ⟨some 31, .len (.t 30), [], [], none, none⟩ ::
         ⟨some 32, .bin .eql (.t 31) (.c (.d (.int .i64 0))), [], [], none, none⟩ ::
         ⟨some 33, .mv (.t 32), [], [], none, (some ([33], (some [])))⟩ ::
         g_law07_LexAgain.o0))
     (g_law07_LexAgain.c0))
    (.skip)))
  (g_law07_LexAgain.c13)
def g_law07_LexAgain.c15 : ACode :=
  .seq (.region [3, 5] (some []) none
     [⟨some 23, .mv (.t 0), [], [], none, none⟩,
      ⟨some 24, .call 74 [(.t 23)], [], [], none, none⟩,
      ⟨some 22, .mv (.t 24), [], [], none, none⟩,
      ⟨some 25, .ext (.t 22) 0, [], [], none, none⟩,
      ⟨some 26, .ext (.t 22) 1, [], [], none, none⟩,
      ⟨some 27, .ext (.t 22) 2, [], [], none, none⟩,
      ⟨some 3, .mv (.t 25), [], [], none, none⟩,
      ⟨some 4, .mv (.t 26), [], [], none, none⟩,
      ⟨some 5, .mv (.t 27), [], [], none, none⟩])
  (g_law07_LexAgain.c14)
def g_law07_LexAgain.code : ACode :=
  .seq (.region [0] (some []) none
     [⟨some 2, .mv (.c (.d (.bool false))), [], [], none, none⟩])
  (.seq (.seq (.region [0, 20] (some []) none
       [⟨some 18, .mv (.t 0), [], [], none, none⟩,
        ⟨some 19, .lenS (.t 18), [], [], none, none⟩,
        ⟨some 20, .bin .gtr (.t 19) (.c (.d (.int .i64 600))), [], [], none, none⟩])
    (.cond (.t 20) (.seq (.region [2] (some []) none
         [⟨some 21, .call 73 [], [], [], none, none⟩,
          ⟨some 2, .mv (.t 21), [], [], none, none⟩])
      (.ret))
     (.skip)))
   (g_law07_LexAgain.c15))
def g_law07_LexAgain : AFn := { N := 133, res := [.slot 2], own := [], frz := [], code := g_law07_LexAgain.code }
def g_law07_LexPlaces.o1 : List AOper :=
  [⟨some 29, .pick (.t 27) (.t 28) (.c (.d (.bool false))), [], [], none, none⟩,
     ⟨some 2, .mv (.t 29), [], [], none, none⟩]
def g_law07_LexPlaces.o0 : List AOper :=
  (⟨some 28, .call 73 [], [], [], (some (3, 27, true)), (some ([27, 28], (some [])))⟩ ::
     g_law07_LexPlaces.o1)
def g_law07_LexPlaces.c0 : ACode :=
  .ret
def g_law07_LexPlaces.a2 : List AOper :=
  [⟨some 36, .faddr 2 (.t 8), [], [], none, none⟩,
     ⟨some 37, .load none (.t 36), [], [0], none, none⟩,
     ⟨some 38, .mv (.t 6), [], [], none, none⟩,
     ⟨some 39, .bin .lss (.t 37) (.t 38), [], [1, 2], none, none⟩,
     ⟨some 40, .mv (.t 39), [], [3], none, none⟩,
     ⟨some 41, .faddr 1 (.t 8), [], [4], (some (4, 40, false)), none⟩,
     ⟨some 42, .load none (.t 41), [], [5, 4], (some (4, 40, false)), none⟩,
     ⟨some 43, .bin .eql (.t 42) (.c (.d (.str []))), [], [6, 4], (some (4, 40, false)), none⟩,
     ⟨some 44, .pick (.t 40) (.c (.d (.bool true))) (.t 43), [], [4, 7], none, none⟩,
     ⟨some 45, .mv (.t 44), [], [8, 4], none, none⟩,
     ⟨some 46, .faddr 2 (.t 8), [], [9], (some (9, 45, false)), none⟩,
     ⟨some 47, .load none (.t 46), [], [10, 9], (some (9, 45, false)), none⟩,
     ⟨some 48, .faddr 1 (.t 8), [], [9], (some (9, 45, false)), none⟩,
     ⟨some 49, .load none (.t 48), [], [12, 9], (some (9, 45, false)), none⟩,
     ⟨some 50, .lenS (.t 49), [], [13, 9], (some (9, 45, false)), none⟩,
     ⟨some 51, .bin .add (.t 47) (.t 50), [], [11, 14, 9], (some (9, 45, false)), none⟩,
     ⟨some 52, .mv (.t 0), [], [9], (some (9, 45, false)), none⟩,
     ⟨some 53, .lenS (.t 52), [], [16, 9], (some (9, 45, false)), none⟩,
     ⟨some 54, .bin .gtr (.t 51) (.t 53), [], [15, 17, 9], (some (9, 45, false)), none⟩,
     ⟨some 55, .pick (.t 45) (.c (.d (.bool true))) (.t 54), [], [9, 18], none, none⟩,
     ⟨some 56, .mv (.t 55), [], [19, 9], none, none⟩,
     ⟨some 57, .mv (.t 0), [], [20], (some (20, 56, false)), none⟩,
     ⟨some 58, .faddr 2 (.t 8), [], [20], (some (20, 56, false)), none⟩,
     ⟨some 59, .load none (.t 58), [], [22, 20], (some (20, 56, false)), none⟩,
     ⟨some 60, .faddr 2 (.t 8), [], [20], (some (20, 56, false)), none⟩,
     ⟨some 61, .load none (.t 60), [], [24, 20], (some (20, 56, false)), none⟩,
     ⟨some 62, .faddr 1 (.t 8), [], [20], (some (20, 56, false)), none⟩,
     ⟨some 63, .load none (.t 62), [], [26, 20], (some (20, 56, false)), none⟩,
     ⟨some 64, .lenS (.t 63), [], [27, 20], (some (20, 56, false)), none⟩,
     ⟨some 65, .bin .add (.t 61) (.t 64), [], [25, 28, 20], (some (20, 56, false)), none⟩,
     ⟨some 66, .slcS (.t 57) (some (.t 59)) (some (.t 65)), [], [21, 23, 29, 20], (some (20, 56, false)), none⟩,
     ⟨some 67, .faddr 1 (.t 8), [], [20], (some (20, 56, false)), none⟩,
     ⟨some 68, .load none (.t 67), [], [31, 20], (some (20, 56, false)), none⟩,
     ⟨some 69, .bin .neq (.t 66) (.t 68), [], [30, 32, 20], (some (20, 56, false)), none⟩,
     ⟨some 70, .pick (.t 56) (.c (.d (.bool true))) (.t 69), [], [20, 33], none, none⟩]
def g_law07_LexPlaces.i36 : List Nat := 34 :: []
def g_law07_LexPlaces.i35 : List Nat := 33 :: g_law07_LexPlaces.i36
def g_law07_LexPlaces.i34 : List Nat := 32 :: g_law07_LexPlaces.i35
def g_law07_LexPlaces.i33 : List Nat := 31 :: g_law07_LexPlaces.i34
def g_law07_LexPlaces.i32 : List Nat := 30 :: g_law07_LexPlaces.i33
def g_law07_LexPlaces.i31 : List Nat := 29 :: g_law07_LexPlaces.i32
def g_law07_LexPlaces.i30 : List Nat := 28 :: g_law07_LexPlaces.i31
def g_law07_LexPlaces.i29 : List Nat := 27 :: g_law07_LexPlaces.i30
def g_law07_LexPlaces.i28 : List Nat := 26 :: g_law07_LexPlaces.i29
def g_law07_LexPlaces.i27 : List Nat := 25 :: g_law07_LexPlaces.i28
def g_law07_LexPlaces.i26 : List Nat := 24 :: g_law07_LexPlaces.i27
def g_law07_LexPlaces.i25 : List Nat := 23 :: g_law07_LexPlaces.i26
def g_law07_LexPlaces.i24 : List Nat := 22 :: g_law07_LexPlaces.i25
def g_law07_LexPlaces.i23 : List Nat := 21 :: g_law07_LexPlaces.i24
def g_law07_LexPlaces.i22 : List Nat := 20 :: g_law07_LexPlaces.i23
def g_law07_LexPlaces.i21 : List Nat := 19 :: g_law07_LexPlaces.i22
def g_law07_LexPlaces.i20 : List Nat := 18 :: g_law07_LexPlaces.i21
def g_law07_LexPlaces.i19 : List Nat := 17 :: g_law07_LexPlaces.i20
def g_law07_LexPlaces.i18 : List Nat := 16 :: g_law07_LexPlaces.i19
def g_law07_LexPlaces.i17 : List Nat := 15 :: g_law07_LexPlaces.i18
def g_law07_LexPlaces.i16 : List Nat := 14 :: g_law07_LexPlaces.i17
def g_law07_LexPlaces.i15 : List Nat := 13 :: g_law07_LexPlaces.i16
def g_law07_LexPlaces.i14 : List Nat := 12 :: g_law07_LexPlaces.i15
def g_law07_LexPlaces.i13 : List Nat := 11 :: g_law07_LexPlaces.i14
def g_law07_LexPlaces.i12 : List Nat := 10 :: g_law07_LexPlaces.i13
def g_law07_LexPlaces.i11 : List Nat := 9 :: g_law07_LexPlaces.i12
def g_law07_LexPlaces.i10 : List Nat := 8 :: g_law07_LexPlaces.i11
def g_law07_LexPlaces.i9 : List Nat := 7 :: g_law07_LexPlaces.i10
def g_law07_LexPlaces.i8 : List Nat := 6 :: g_law07_LexPlaces.i9
def g_law07_LexPlaces.i7 : List Nat := 5 :: g_law07_LexPlaces.i8
def g_law07_LexPlaces.i6 : List Nat := 4 :: g_law07_LexPlaces.i7
def g_law07_LexPlaces.i5 : List Nat := 3 :: g_law07_LexPlaces.i6
def g_law07_LexPlaces.i4 : List Nat := 2 :: g_law07_LexPlaces.i5
def g_law07_LexPlaces.i3 : List Nat := 1 :: g_law07_LexPlaces.i4
def g_law07_LexPlaces.c1 : ACode :=
  .cond (.t 70) (.seq (.region [2] (some []) none
      [⟨some 2, .mv (.c (.d (.bool false))), [], [], none, none⟩])
   (.ret))
  (.skip)
def g_law07_LexPlaces.c2 : ACode :=
  .region [0, 6, 30, 31, 32] (some []) none
    [⟨some 71, .faddr 2 (.t 8), [], [], none, none⟩,
     ⟨some 72, .load none (.t 71), [], [], none, none⟩,
     ⟨some 73, .faddr 1 (.t 8), [], [], none, none⟩,
     ⟨some 74, .load none (.t 73), [], [], none, none⟩,
     ⟨some 75, .lenS (.t 74), [], [], none, none⟩,
     ⟨some 76, .bin .add (.t 72) (.t 75), [], [], none, none⟩,
     ⟨some 6, .mv (.t 76), [], [], none, none⟩]
def g_law07_LexPlaces.c3 : ACode :=
  .seq (.seq (.region [0, 8, 30, 31, 32, 70] (some [8]) (some (0 :: g_law07_LexPlaces.i3, .done)) g_law07_LexPlaces.a2)
   (g_law07_LexPlaces.c1))
  (g_law07_LexPlaces.c2)
def g_law07_LexPlaces.c4 : ACode :=
  .region [0, 6, 30, 31, 32] (some []) none
    [⟨some 77, .bin .add (.t 32) (.c (.d (.int .i64 1))), [], [], none, none⟩,
     ⟨some 32, .mv (.t 77), [], [], none, none⟩]
def g_law07_LexPlaces.l0 : ACode :=
  .loop [0, 6, 30, 31, 32] (some []) (.seq (.region [0, 6, 30, 31, 32, 33] (some []) none
     [⟨some 33, .bin .lss (.t 32) (.t 31), [], [], none, none⟩])
  (.seq (.cond (.t 33) (.skip)
    (.exit 0))
   (.seq (.block 1 [0, 6, 30, 31, 32] (some []) (.seq (.region [0, 6, 8, 30, 31, 32] (some [8]) none
         [⟨some 34, .iaddr 3 (.t 30) (.t 32), [], [], none, none⟩,
          ⟨some 35, .load (some 3) (.t 34), [], [], none, none⟩,
          ⟨some 8, .alloc 8 [.d (.int .i64 0), .d (.str []), .d (.int .i64 0)], [], [], none, none⟩,
          ⟨none, .store 3 (.t 8) (.t 35), [], [], none, none⟩])
      (g_law07_LexPlaces.c3)))
    (g_law07_LexPlaces.c4))))
def g_law07_LexPlaces.o42 : List AOper :=
  [⟨some 101, .pick (.t 99) (.t 100) (.c (.d (.bool false))), [], [], none, none⟩,
     ⟨some 2, .mv (.t 101), [], [], none, none⟩]
def g_law07_LexPlaces.o41 : List AOper :=
  (⟨some 100, .call 73 [], [], [], (some (14, 99, true)), (some ([99, 100], (some [])))⟩ ::
     g_law07_LexPlaces.o42)
def g_law07_LexPlaces.o40 : List AOper :=
  (⟨some 98, .pick (.t 95) (.t 97) (.c (.d (.bool false))), [], [], none, none⟩ ::
     ⟨some 99, .mv (.t 98), [], [], none, (some ([99], (some [])))⟩ ::
     g_law07_LexPlaces.o41)
def g_law07_LexPlaces.o39 : List AOper :=
  (⟨some 96, .mv (.t 11), [], [], (some (10, 95, true)), none⟩ ::
     ⟨some 97, .bin .eql (.t 96) (.c (.d (.int .i64 2))), [], [], (some (10, 95, true)), (some ([95, 97], (some [])))⟩ ::
     g_law07_LexPlaces.o40)
def g_law07_LexPlaces.o38 : List AOper :=
  (⟨some 94, .pick (.t 88) (.t 93) (.c (.d (.bool false))), [], [], none, none⟩ ::
     ⟨some 95, .mv (.t 94), [], [], none, (some ([11, 95], (some [])))⟩ ::
     g_law07_LexPlaces.o39)
def g_law07_LexPlaces.o37 : List AOper :=
  (⟨some 89, .mv (.t 10), [], [], (some (3, 88, true)), none⟩ ::
     ⟨some 90, .mv (.t 0), [], [], (some (3, 88, true)), none⟩ ::
     ⟨some 91, .lenS (.t 90), [], [], (some (3, 88, true)), none⟩ ::
     ⟨some 92, .bin .add (.t 91) (.c (.d (.int .i64 1))), [], [], (some (3, 88, true)), none⟩ ::
     ⟨some 93, .bin .eql (.t 89) (.t 92), [], [], (some (3, 88, true)), (some ([11, 88, 93], (some [])))⟩ ::
     g_law07_LexPlaces.o38)
def g_law07_LexPlaces.c5 : ACode :=
  .ret
def g_law07_LexPlaces.c6 : ACode :=
  .seq (.region [2] (some []) none
     (⟨some 85, .mv (.t 9), [], [], none, none⟩ ::
      ⟨some 86, .len (.t 85), [], [], none, none⟩ ::
      ⟨some 87, .bin .eql (.t 86) (.c (.d (.int .i64 0))), [], [], none, none⟩ ::
      ⟨some 88, .mv (.t 87), [], [], none, (some ([0, 10, 11, 88], (some [])))⟩ ::
      g_law07_LexPlaces.o37))
  (g_law07_LexPlaces.c5)
def g_law07_LexPlaces.c7 : ACode :=
  .seq (.region [0, 9, 10, 11] (some []) none
     [⟨some 79, .mv (.t 0), [], [], none, none⟩,
      ⟨some 80, .bin .add (.t 79) (.c (.d (.str [10, 63]))), [], [], none, none⟩,
      ⟨some 81, .call 74 [(.t 80)], [], [], none, none⟩,
      ⟨some 78, .mv (.t 81), [], [], none, none⟩,
      ⟨some 82, .ext (.t 78) 0, [], [], none, none⟩,
      ⟨some 83, .ext (.t 78) 1, [], [], none, none⟩,
      ⟨some 84, .ext (.t 78) 2, [], [], none, none⟩,
      ⟨some 9, .mv (.t 82), [], [], none, none⟩,
      ⟨some 10, .mv (.t 83), [], [], none, none⟩,
      ⟨some 11, .mv (.t 84), [], [], none, none⟩])
  (g_law07_LexPlaces.c6)
def g_law07_LexPlaces.c8 : ACode :=
  .seq (.region [0, 3, 6] (some []) none
     [⟨some 6, .mv (.c (.d (.int .i64 0))), [], [], none, none⟩])
  (.seq (.seq (.region [0, 6, 30, 31, 32] (some []) none
       [⟨some 30, .mv (.t 3), [], [], none, none⟩,
        ⟨some 31, .len (.t 30), [], [], none, none⟩,
        ⟨some 32, .mv (.c (.d (.int .i64 0))), [], [], none, none⟩])
    (.block 0 [0] (some []) (g_law07_LexPlaces.l0)))
   (g_law07_LexPlaces.c7))
def g_law07_LexPlaces.c9 : ACode :=
  .seq (.seq (.region [0, 3, 23] (some []) none
      [⟨some 22, .mv (.t 5), [], [], none, none⟩,
       ⟨some 23, .bin .neq (.t 22) (.c (.d (.int .i64 0))), [], [], none, none⟩])
   (.cond (.t 23) (.seq (.region [2] (some []) none
        (⟨some 24, .mv (.t 3), [], [], none, none⟩ ::
         ⟨some 25, .len (.t 24), [], [], none, none⟩ ::
         ⟨some 26, .bin .eql (.t 25) (.c (.d (.int .i64 0))), [], [], none, none⟩ ::
         ⟨some 27, .mv (.t 26), [], [], none, (some ([27], (some [])))⟩ ::
         g_law07_LexPlaces.o0))
     (g_law07_LexPlaces.c0))
    (.skip)))
  (g_law07_LexPlaces.c8)
def g_law07_LexPlaces.c10 : ACode :=
  .seq (.region [0, 3, 5] (some []) none
     [⟨some 17, .mv (.t 0), [], [], none, none⟩,
      ⟨some 18, .call 74 [(.t 17)], [], [], none, none⟩,
      ⟨some 16, .mv (.t 18), [], [], none, none⟩,
      ⟨some 19, .ext (.t 16) 0, [], [], none, none⟩,
      ⟨some 20, .ext (.t 16) 1, [], [], none, none⟩,
      ⟨some 21, .ext (.t 16) 2, [], [], none, none⟩,
      ⟨some 3, .mv (.t 19), [], [], none, none⟩,
      ⟨some 4, .mv (.t 20), [], [], none, none⟩,
      ⟨some 5, .mv (.t 21), [], [], none, none⟩])
  (g_law07_LexPlaces.c9)
def g_law07_LexPlaces.code : ACode :=
  .seq (.region [0] (some []) none
     [⟨some 2, .mv (.c (.d (.bool false))), [], [], none, none⟩])
  (.seq (.seq (.region [0, 14] (some []) none
       [⟨some 12, .mv (.t 0), [], [], none, none⟩,
        ⟨some 13, .lenS (.t 12), [], [], none, none⟩,
        ⟨some 14, .bin .gtr (.t 13) (.c (.d (.int .i64 600))), [], [], none, none⟩])
    (.cond (.t 14) (.seq (.region [2] (some []) none
         [⟨some 15, .call 73 [], [], [], none, none⟩,
          ⟨some 2, .mv (.t 15), [], [], none, none⟩])
      (.ret))
     (.skip)))
   (g_law07_LexPlaces.c10))
def g_law07_LexPlaces : AFn := { N := 102, res := [.slot 2], own := [], frz := [], code := g_law07_LexPlaces.code }
def g_law07_LexJoins.o1 : List AOper :=
  [⟨some 25, .pick (.t 21) (.c (.d (.bool true))) (.t 24), [], [], none, none⟩]
def g_law07_LexJoins.o0 : List AOper :=
  (⟨some 22, .mv (.t 1), [], [], (some (3, 21, false)), none⟩ ::
     ⟨some 23, .lenS (.t 22), [], [], (some (3, 21, false)), none⟩ ::
     ⟨some 24, .bin .gtr (.t 23) (.c (.d (.int .i64 300))), [], [], (some (3, 21, false)), (some ([0, 1, 21, 24], (some [])))⟩ ::
     g_law07_LexJoins.o1)
def g_law07_LexJoins.c0 : ACode :=
  .cond (.t 25) (.seq (.region [4] (some []) none
      [⟨some 26, .call 73 [], [], [], none, none⟩,
       ⟨some 4, .mv (.t 26), [], [], none, none⟩])
   (.ret))
  (.skip)
def g_law07_LexJoins.o7 : List AOper :=
  [⟨some 66, .pick (.t 64) (.t 65) (.c (.d (.bool false))), [], [], none, none⟩,
     ⟨some 4, .mv (.t 66), [], [], none, none⟩]
def g_law07_LexJoins.o6 : List AOper :=
  (⟨some 65, .call 73 [], [], [], (some (13, 64, true)), (some ([64, 65], (some [])))⟩ ::
     g_law07_LexJoins.o7)
def g_law07_LexJoins.o5 : List AOper :=
  (⟨some 63, .pick (.t 59) (.t 62) (.c (.d (.bool false))), [], [], none, none⟩ ::
     ⟨some 64, .mv (.t 63), [], [], none, (some ([64], (some [])))⟩ ::
     g_law07_LexJoins.o6)
def g_law07_LexJoins.o4 : List AOper :=
  (⟨some 60, .mv (.t 11), [], [], (some (8, 59, true)), none⟩ ::
     ⟨some 61, .len (.t 60), [], [], (some (8, 59, true)), none⟩ ::
     ⟨some 62, .bin .eql (.t 61) (.c (.d (.int .i64 0))), [], [], (some (8, 59, true)), (some ([59, 62], (some [])))⟩ ::
     g_law07_LexJoins.o5)
def g_law07_LexJoins.o3 : List AOper :=
  (⟨some 58, .pick (.t 54) (.t 57) (.c (.d (.bool false))), [], [], none, none⟩ ::
     ⟨some 59, .mv (.t 58), [], [], none, (some ([11, 59], (some [])))⟩ ::
     g_law07_LexJoins.o4)
def g_law07_LexJoins.o2 : List AOper :=
  (⟨some 55, .mv (.t 12), [], [], (some (3, 54, true)), none⟩ ::
     ⟨some 56, .mv (.t 6), [], [], (some (3, 54, true)), none⟩ ::
     ⟨some 57, .bin .eql (.t 55) (.t 56), [], [], (some (3, 54, true)), (some ([11, 54, 57], (some [])))⟩ ::
     g_law07_LexJoins.o3)
def g_law07_LexJoins.c1 : ACode :=
  .ret
def g_law07_LexJoins.o13 : List AOper :=
  [⟨some 89, .pick (.t 87) (.t 88) (.c (.d (.bool false))), [], [], none, none⟩,
     ⟨some 4, .mv (.t 89), [], [], none, none⟩]
def g_law07_LexJoins.o12 : List AOper :=
  (⟨some 88, .call 73 [], [], [], (some (17, 87, true)), (some ([87, 88], (some [])))⟩ ::
     g_law07_LexJoins.o13)
def g_law07_LexJoins.o11 : List AOper :=
  (⟨some 86, .pick (.t 82) (.t 85) (.c (.d (.bool false))), [], [], none, none⟩ ::
     ⟨some 87, .mv (.t 86), [], [], none, (some ([87], (some [])))⟩ ::
     g_law07_LexJoins.o12)
def g_law07_LexJoins.o10 : List AOper :=
  (⟨some 83, .mv (.t 11), [], [], (some (12, 82, true)), none⟩ ::
     ⟨some 84, .len (.t 83), [], [], (some (12, 82, true)), none⟩ ::
     ⟨some 85, .bin .eql (.t 84) (.c (.d (.int .i64 0))), [], [], (some (12, 82, true)), (some ([82, 85], (some [])))⟩ ::
     g_law07_LexJoins.o11)
def g_law07_LexJoins.o9 : List AOper :=
  (⟨some 81, .pick (.t 73) (.t 80) (.c (.d (.bool false))), [], [], none, none⟩ ::
     ⟨some 82, .mv (.t 81), [], [], none, (some ([11, 82], (some [])))⟩ ::
     g_law07_LexJoins.o10)
def g_law07_LexJoins.o8 : List AOper :=
  (⟨some 74, .mv (.t 12), [], [], (some (3, 73, true)), none⟩ ::
     ⟨some 75, .mv (.t 9), [], [], (some (3, 73, true)), none⟩ ::
     ⟨some 76, .mv (.t 0), [], [], (some (3, 73, true)), none⟩ ::
     ⟨some 77, .lenS (.t 76), [], [], (some (3, 73, true)), none⟩ ::
     ⟨some 78, .bin .add (.t 75) (.t 77), [], [], (some (3, 73, true)), none⟩ ::
     ⟨some 79, .bin .add (.t 78) (.c (.d (.int .i64 1))), [], [], (some (3, 73, true)), none⟩ ::
     ⟨some 80, .bin .eql (.t 74) (.t 79), [], [], (some (3, 73, true)), (some ([11, 73, 80], (some [])))⟩ ::
     g_law07_LexJoins.o9)
def g_law07_LexJoins.c2 : ACode :=
  .ret
def g_law07_LexJoins.o15 : List AOper :=
  [⟨some 102, .pick (.t 93) (.c (.d (.bool true))) (.t 101), [], [], none, none⟩,
     ⟨some 90, .mv (.t 102), [], [], none, none⟩]
def g_law07_LexJoins.o14 : List AOper :=
  (⟨some 94, .mv (.t 11), [], [], (some (2, 93, false)), none⟩ ::
     ⟨some 95, .len (.t 94), [], [], (some (2, 93, false)), none⟩ ::
     ⟨some 96, .mv (.t 5), [], [], (some (2, 93, false)), none⟩ ::
     ⟨some 97, .len (.t 96), [], [], (some (2, 93, false)), none⟩ ::
     ⟨some 98, .mv (.t 8), [], [], (some (2, 93, false)), none⟩ ::
     ⟨some 99, .len (.t 98), [], [], (some (2, 93, false)), none⟩ ::
     ⟨some 100, .bin .add (.t 97) (.t 99), [], [], (some (2, 93, false)), none⟩ ::
     ⟨some 101, .bin .neq (.t 95) (.t 100), [], [], (some (2, 93, false)), (some ([0, 5, 8, 11, 93, 101], (some [])))⟩ ::
     g_law07_LexJoins.o15)
def g_law07_LexJoins.c3 : ACode :=
  .cond (.t 90) (.seq (.region [4] (some []) none
      [⟨some 4, .mv (.c (.d (.bool false))), [], [], none, none⟩])
   (.ret))
  (.skip)
def g_law07_LexJoins.c4 : ACode :=
  .seq (.region [0, 5, 8, 11, 103, 104, 105, 115] (some []) (some ([0, 1, 2, 3, 4, 5], .done))
     [⟨some 110, .mv (.t 11), [], [], none, none⟩,
      ⟨some 111, .mv (.t 14), [], [], none, none⟩,
      ⟨some 112, .iaddr 3 (.t 110) (.t 111), [], [0, 1], none, none⟩,
      ⟨some 113, .load (some 3) (.t 112), [], [2], none, none⟩,
      ⟨some 114, .load (some 3) (.t 15), [], [], none, none⟩,
      ⟨some 115, .eqs true [0, 2, 0] (.t 113) (.t 114), [], [3, 4], none, none⟩])
  (.cond (.t 115) (.seq (.region [4] (some []) none
       [⟨some 4, .mv (.c (.d (.bool false))), [], [], none, none⟩])
    (.ret))
   (.skip))
def g_law07_LexJoins.c5 : ACode :=
  .region [0, 5, 8, 11, 103, 104, 105] (some []) none
    [⟨some 116, .bin .add (.t 105) (.c (.d (.int .i64 1))), [], [], none, none⟩,
     ⟨some 105, .mv (.t 116), [], [], none, none⟩]
def g_law07_LexJoins.l0 : ACode :=
  .loop [0, 5, 8, 11, 103, 104, 105] (some []) (.seq (.region [0, 5, 8, 11, 103, 104, 105, 106] (some []) none
     [⟨some 106, .bin .lss (.t 105) (.t 104), [], [], none, none⟩])
  (.seq (.cond (.t 106) (.skip)
    (.exit 1))
   (.seq (.block 2 [0, 5, 8, 11, 103, 104, 105] (some []) (.seq (.region [0, 5, 8, 11, 14, 15, 103, 104, 105] (some [15]) none
         [⟨some 107, .mv (.t 105), [], [], none, none⟩,
          ⟨some 108, .iaddr 3 (.t 103) (.t 105), [], [], none, none⟩,
          ⟨some 109, .load (some 3) (.t 108), [], [], none, none⟩,
          ⟨some 15, .alloc 15 [.d (.int .i64 0), .d (.str []), .d (.int .i64 0)], [], [], none, none⟩,
          ⟨some 14, .mv (.t 107), [], [], none, none⟩,
          ⟨none, .store 3 (.t 15) (.t 109), [], [], none, none⟩])
      (g_law07_LexJoins.c4)))
    (g_law07_LexJoins.c5))))
def g_law07_LexJoins.c6 : ACode :=
  .seq (.region [0, 5, 11, 117, 118, 119, 139] (some []) (some ([0, 1, 2, 3, 4, 5, 6, 7, 8], .done))
     [⟨some 131, .mv (.t 11), [], [], none, none⟩,
      ⟨some 132, .mv (.t 5), [], [], none, none⟩,
      ⟨some 133, .len (.t 132), [], [1], none, none⟩,
      ⟨some 134, .mv (.t 16), [], [], none, none⟩,
      ⟨some 135, .bin .add (.t 133) (.t 134), [], [2, 3], none, none⟩,
      ⟨some 136, .iaddr 3 (.t 131) (.t 135), [], [0, 4], none, none⟩,
      ⟨some 137, .load (some 3) (.t 136), [], [5], none, none⟩,
      ⟨some 138, .load (some 3) (.t 17), [], [], none, none⟩,
      ⟨some 139, .eqs true [0, 2, 0] (.t 137) (.t 138), [], [6, 7], none, none⟩])
  (.cond (.t 139) (.seq (.region [4] (some []) none
       [⟨some 4, .mv (.c (.d (.bool false))), [], [], none, none⟩])
    (.ret))
   (.skip))
def g_law07_LexJoins.c7 : ACode :=
  .seq (.region [0, 5, 11, 16, 17, 117, 118, 119] (some [17]) none
     [⟨some 124, .faddr 2 (.t 17), [], [], none, none⟩,
      ⟨some 125, .load none (.t 124), [], [], none, none⟩,
      ⟨some 126, .mv (.t 0), [], [], none, none⟩,
      ⟨some 127, .lenS (.t 126), [], [], none, none⟩,
      ⟨some 128, .bin .add (.t 127) (.c (.d (.int .i64 1))), [], [], none, none⟩,
      ⟨some 129, .bin .add (.t 125) (.t 128), [], [], none, none⟩,
      ⟨some 130, .faddr 2 (.t 17), [], [], none, none⟩,
      ⟨none, .store 1 (.t 130) (.t 129), [], [], none, none⟩])
  (g_law07_LexJoins.c6)
def g_law07_LexJoins.c8 : ACode :=
  .region [0, 5, 11, 117, 118, 119] (some []) none
    [⟨some 140, .bin .add (.t 119) (.c (.d (.int .i64 1))), [], [], none, none⟩,
     ⟨some 119, .mv (.t 140), [], [], none, none⟩]
def g_law07_LexJoins.l1 : ACode :=
  .loop [0, 5, 11, 117, 118, 119] (some []) (.seq (.region [0, 5, 11, 117, 118, 119, 120] (some []) none
     [⟨some 120, .bin .lss (.t 119) (.t 118), [], [], none, none⟩])
  (.seq (.cond (.t 120) (.skip)
    (.exit 3))
   (.seq (.block 4 [0, 5, 11, 117, 118, 119] (some []) (.seq (.region [0, 5, 11, 16, 17, 117, 118, 119] (some [17]) none
         [⟨some 121, .mv (.t 119), [], [], none, none⟩,
          ⟨some 122, .iaddr 3 (.t 117) (.t 119), [], [], none, none⟩,
          ⟨some 123, .load (some 3) (.t 122), [], [], none, none⟩,
          ⟨some 17, .alloc 17 [.d (.int .i64 0), .d (.str []), .d (.int .i64 0)], [], [], none, none⟩,
          ⟨some 16, .mv (.t 121), [], [], none, none⟩,
          ⟨none, .store 3 (.t 17) (.t 123), [], [], none, none⟩])
      (g_law07_LexJoins.c7)))
    (g_law07_LexJoins.c8))))
def g_law07_LexJoins.c9 : ACode :=
  .seq (.region [4] (some []) none
     [⟨some 141, .call 73 [], [], [], none, none⟩,
      ⟨some 4, .mv (.t 141), [], [], none, none⟩])
  (.ret)
def g_law07_LexJoins.c10 : ACode :=
  .seq (.seq (.region [0, 5, 11, 117, 118, 119] (some []) none
      [⟨some 117, .mv (.t 8), [], [], none, none⟩,
       ⟨some 118, .len (.t 117), [], [], none, none⟩,
       ⟨some 119, .mv (.c (.d (.int .i64 0))), [], [], none, none⟩])
   (.block 3 [] (some []) (g_law07_LexJoins.l1)))
  (g_law07_LexJoins.c9)
def g_law07_LexJoins.c11 : ACode :=
  .seq (.seq (.region [0, 5, 8, 11, 103, 104, 105] (some []) none
      [⟨some 103, .mv (.t 5), [], [], none, none⟩,
       ⟨some 104, .len (.t 103), [], [], none, none⟩,
       ⟨some 105, .mv (.c (.d (.int .i64 0))), [], [], none, none⟩])
   (.block 1 [0, 5, 8, 11] (some []) (g_law07_LexJoins.l0)))
  (g_law07_LexJoins.c10)
def g_law07_LexJoins.c12 : ACode :=
  .seq (.block 0 [0, 5, 8, 11] (some []) (.seq (.region [0, 5, 6, 7, 8, 9, 10, 11, 12, 13, 48] (some []) none
       [⟨some 49, .mv (.t 7), [], [], none, none⟩,
        ⟨some 50, .bin .neq (.t 49) (.c (.d (.int .i64 0))), [], [], none, none⟩,
        ⟨some 48, .mv (.t 50), [], [], none, none⟩])
    (.cond (.t 48) (.seq (.region [4] (some []) none
         (⟨some 51, .mv (.t 13), [], [], none, none⟩ ::
          ⟨some 52, .mv (.t 7), [], [], none, none⟩ ::
          ⟨some 53, .bin .eql (.t 51) (.t 52), [], [], none, none⟩ ::
          ⟨some 54, .mv (.t 53), [], [], none, (some ([6, 11, 12, 54], (some [])))⟩ ::
          g_law07_LexJoins.o2))
      (g_law07_LexJoins.c1))
     (.seq (.region [0, 5, 8, 9, 10, 11, 12, 13, 67] (some []) none
         [⟨some 68, .mv (.t 10), [], [], none, none⟩,
          ⟨some 69, .bin .neq (.t 68) (.c (.d (.int .i64 0))), [], [], none, none⟩,
          ⟨some 67, .mv (.t 69), [], [], none, none⟩])
      (.cond (.t 67) (.seq (.region [4] (some []) none
           (⟨some 70, .mv (.t 13), [], [], none, none⟩ ::
            ⟨some 71, .mv (.t 10), [], [], none, none⟩ ::
            ⟨some 72, .bin .eql (.t 70) (.t 71), [], [], none, none⟩ ::
            ⟨some 73, .mv (.t 72), [], [], none, (some ([0, 9, 11, 12, 73], (some [])))⟩ ::
            g_law07_LexJoins.o8))
        (g_law07_LexJoins.c2))
       (.seq (.region [0, 5, 8, 11, 90] (some []) none
           (⟨some 91, .mv (.t 13), [], [], none, none⟩ ::
            ⟨some 92, .bin .neq (.t 91) (.c (.d (.int .i64 0))), [], [], none, none⟩ ::
            ⟨some 93, .mv (.t 92), [], [], none, (some ([0, 5, 8, 11, 93], (some [])))⟩ ::
            g_law07_LexJoins.o14))
        (g_law07_LexJoins.c3)))))))
  (g_law07_LexJoins.c11)
def g_law07_LexJoins.c13 : ACode :=
  .seq (.region [0, 5, 6, 7, 8, 9, 10, 11, 12, 13] (some []) none
     [⟨some 40, .mv (.t 0), [], [], none, none⟩,
      ⟨some 41, .bin .add (.t 40) (.c (.d (.str [10]))), [], [], none, none⟩,
      ⟨some 42, .mv (.t 1), [], [], none, none⟩,
      ⟨some 43, .bin .add (.t 41) (.t 42), [], [], none, none⟩,
      ⟨some 44, .call 74 [(.t 43)], [], [], none, none⟩,
      ⟨some 39, .mv (.t 44), [], [], none, none⟩,
      ⟨some 45, .ext (.t 39) 0, [], [], none, none⟩,
      ⟨some 46, .ext (.t 39) 1, [], [], none, none⟩,
      ⟨some 47, .ext (.t 39) 2, [], [], none, none⟩,
      ⟨some 11, .mv (.t 45), [], [], none, none⟩,
      ⟨some 12, .mv (.t 46), [], [], none, none⟩,
      ⟨some 13, .mv (.t 47), [], [], none, none⟩])
  (g_law07_LexJoins.c12)
def g_law07_LexJoins.c14 : ACode :=
  .seq (.region [0, 1, 5, 6, 7, 8, 9, 10] (some []) none
     [⟨some 34, .mv (.t 1), [], [], none, none⟩,
      ⟨some 35, .call 74 [(.t 34)], [], [], none, none⟩,
      ⟨some 33, .mv (.t 35), [], [], none, none⟩,
      ⟨some 36, .ext (.t 33) 0, [], [], none, none⟩,
      ⟨some 37, .ext (.t 33) 1, [], [], none, none⟩,
      ⟨some 38, .ext (.t 33) 2, [], [], none, none⟩,
      ⟨some 8, .mv (.t 36), [], [], none, none⟩,
      ⟨some 9, .mv (.t 37), [], [], none, none⟩,
      ⟨some 10, .mv (.t 38), [], [], none, none⟩])
  (g_law07_LexJoins.c13)
def g_law07_LexJoins.c15 : ACode :=
  .seq (.region [0, 1, 5, 6, 7] (some []) none
     [⟨some 28, .mv (.t 0), [], [], none, none⟩,
      ⟨some 29, .call 74 [(.t 28)], [], [], none, none⟩,
      ⟨some 27, .mv (.t 29), [], [], none, none⟩,
      ⟨some 30, .ext (.t 27) 0, [], [], none, none⟩,
      ⟨some 31, .ext (.t 27) 1, [], [], none, none⟩,
      ⟨some 32, .ext (.t 27) 2, [], [], none, none⟩,
      ⟨some 5, .mv (.t 30), [], [], none, none⟩,
      ⟨some 6, .mv (.t 31), [], [], none, none⟩,
      ⟨some 7, .mv (.t 32), [], [], none, none⟩])
  (g_law07_LexJoins.c14)
def g_law07_LexJoins.code : ACode :=
  .seq (.region [0, 1] (some []) none
     [⟨some 4, .mv (.c (.d (.bool false))), [], [], none, none⟩])
  (.seq (.seq (.region [0, 1, 25] (some []) none
       (⟨some 18, .mv (.t 0), [], [], none, none⟩ ::
        ⟨some 19, .lenS (.t 18), [], [], none, none⟩ ::
        ⟨some 20, .bin .gtr (.t 19) (.c (.d (.int .i64 300))), [], [], none, none⟩ ::
        ⟨some 21, .mv (.t 20), [], [], none, (some ([0, 1, 21], (some [])))⟩ ::
        g_law07_LexJoins.o0))
    (g_law07_LexJoins.c0))
   (g_law07_LexJoins.c15))
def g_law07_LexJoins : AFn := { N := 142, res := [.slot 4], own := [], frz := [], code := g_law07_LexJoins.code }
def g_law07_LexKinds.o1 : List AOper :=
  [⟨some 29, .pick (.t 27) (.t 28) (.c (.d (.bool false))), [], [], none, none⟩,
     ⟨some 2, .mv (.t 29), [], [], none, none⟩]
def g_law07_LexKinds.o0 : List AOper :=
  (⟨some 28, .call 73 [], [], [], (some (3, 27, true)), (some ([27, 28], (some [])))⟩ ::
     g_law07_LexKinds.o1)
def g_law07_LexKinds.c0 : ACode :=
  .ret
def g_law07_LexKinds.a2 : List AOper :=
  [⟨some 43, .faddr 1 (.t 7), [], [], none, none⟩,
     ⟨some 44, .load none (.t 43), [], [0], none, none⟩,
     ⟨some 45, .bin .eql (.t 44) (.c (.d (.str []))), [], [1], none, none⟩,
     ⟨some 46, .mv (.t 45), [], [2], none, none⟩,
     ⟨some 47, .mv (.t 10), [], [3], (some (3, 46, false)), none⟩,
     ⟨some 48, .bin .neq (.t 47) (.c (.d (.int .i64 0))), [], [4, 3], (some (3, 46, false)), none⟩,
     ⟨some 49, .pick (.t 46) (.c (.d (.bool true))) (.t 48), [], [3, 5], none, none⟩,
     ⟨some 50, .mv (.t 49), [], [6, 3], none, none⟩,
     ⟨some 51, .mv (.t 9), [], [7], (some (7, 50, false)), none⟩,
     ⟨some 52, .bin .neq (.t 51) (.c (.d (.int .i64 0))), [], [8, 7], (some (7, 50, false)), none⟩,
     ⟨some 53, .pick (.t 50) (.c (.d (.bool true))) (.t 52), [], [7, 9], none, none⟩,
     ⟨some 54, .mv (.t 53), [], [10, 7], none, none⟩,
     ⟨some 55, .mv (.t 8), [], [11], (some (11, 54, false)), none⟩,
     ⟨some 56, .len (.t 55), [], [12, 11], (some (11, 54, false)), none⟩,
     ⟨some 57, .bin .neq (.t 56) (.c (.d (.int .i64 1))), [], [13, 11], (some (11, 54, false)), none⟩,
     ⟨some 58, .pick (.t 54) (.c (.d (.bool true))) (.t 57), [], [11, 14], none, none⟩,
     ⟨some 59, .mv (.t 58), [], [15, 11], none, none⟩,
     ⟨some 60, .mv (.t 8), [], [16], (some (16, 59, false)), none⟩,
     ⟨some 61, .iaddr 3 (.t 60) (.c (.d (.int .i64 0))), [], [17, 16], (some (16, 59, false)), none⟩,
     ⟨some 62, .faddr 0 (.t 61), [], [18, 16], (some (16, 59, false)), none⟩,
     ⟨some 63, .load none (.t 62), [], [19, 16], (some (16, 59, false)), none⟩,
     ⟨some 64, .faddr 0 (.t 7), [], [16], (some (16, 59, false)), none⟩,
     ⟨some 65, .load none (.t 64), [], [21, 16], (some (16, 59, false)), none⟩,
     ⟨some 66, .bin .neq (.t 63) (.t 65), [], [20, 22, 16], (some (16, 59, false)), none⟩,
     ⟨some 67, .pick (.t 59) (.c (.d (.bool true))) (.t 66), [], [16, 23], none, none⟩,
     ⟨some 68, .mv (.t 67), [], [24, 16], none, none⟩,
     ⟨some 69, .mv (.t 8), [], [25], (some (25, 68, false)), none⟩,
     ⟨some 70, .iaddr 3 (.t 69) (.c (.d (.int .i64 0))), [], [26, 25], (some (25, 68, false)), none⟩,
     ⟨some 71, .faddr 1 (.t 70), [], [27, 25], (some (25, 68, false)), none⟩,
     ⟨some 72, .load none (.t 71), [], [28, 25], (some (25, 68, false)), none⟩,
     ⟨some 73, .faddr 1 (.t 7), [], [25], (some (25, 68, false)), none⟩,
     ⟨some 74, .load none (.t 73), [], [30, 25], (some (25, 68, false)), none⟩,
     ⟨some 75, .bin .neq (.t 72) (.t 74), [], [29, 31, 25], (some (25, 68, false)), none⟩,
     ⟨some 76, .pick (.t 68) (.c (.d (.bool true))) (.t 75), [], [25, 32], none, none⟩,
     ⟨some 77, .mv (.t 76), [], [33, 25], none, none⟩,
     ⟨some 78, .mv (.t 8), [], [34], (some (34, 77, false)), none⟩,
     ⟨some 79, .iaddr 3 (.t 78) (.c (.d (.int .i64 0))), [], [35, 34], (some (34, 77, false)), none⟩,
     ⟨some 80, .faddr 2 (.t 79), [], [36, 34], (some (34, 77, false)), none⟩,
     ⟨some 81, .load none (.t 80), [], [37, 34], (some (34, 77, false)), none⟩,
     ⟨some 82, .bin .neq (.t 81) (.c (.d (.int .i64 0))), [], [38, 34], (some (34, 77, false)), none⟩,
     ⟨some 83, .pick (.t 77) (.c (.d (.bool true))) (.t 82), [], [34, 39], none, none⟩]
def g_law07_LexKinds.i42 : List Nat := 40 :: []
def g_law07_LexKinds.i41 : List Nat := 39 :: g_law07_LexKinds.i42
def g_law07_LexKinds.i40 : List Nat := 38 :: g_law07_LexKinds.i41
def g_law07_LexKinds.i39 : List Nat := 37 :: g_law07_LexKinds.i40
def g_law07_LexKinds.i38 : List Nat := 36 :: g_law07_LexKinds.i39
def g_law07_LexKinds.i37 : List Nat := 35 :: g_law07_LexKinds.i38
def g_law07_LexKinds.i36 : List Nat := 34 :: g_law07_LexKinds.i37
def g_law07_LexKinds.i35 : List Nat := 33 :: g_law07_LexKinds.i36
def g_law07_LexKinds.i34 : List Nat := 32 :: g_law07_LexKinds.i35
def g_law07_LexKinds.i33 : List Nat := 31 :: g_law07_LexKinds.i34
def g_law07_LexKinds.i32 : List Nat := 30 :: g_law07_LexKinds.i33
def g_law07_LexKinds.i31 : List Nat := 29 :: g_law07_LexKinds.i32
def g_law07_LexKinds.i30 : List Nat := 28 :: g_law07_LexKinds.i31
def g_law07_LexKinds.i29 : List Nat := 27 :: g_law07_LexKinds.i30
def g_law07_LexKinds.i28 : List Nat := 26 :: g_law07_LexKinds.i29
def g_law07_LexKinds.i27 : List Nat := 25 :: g_law07_LexKinds.i28
def g_law07_LexKinds.i26 : List Nat := 24 :: g_law07_LexKinds.i27
def g_law07_LexKinds.i25 : List Nat := 23 :: g_law07_LexKinds.i26
def g_law07_LexKinds.i24 : List Nat := 22 :: g_law07_LexKinds.i25
def g_law07_LexKinds.i23 : List Nat := 21 :: g_law07_LexKinds.i24
def g_law07_LexKinds.i22 : List Nat := 20 :: g_law07_LexKinds.i23
def g_law07_LexKinds.i21 : List Nat := 19 :: g_law07_LexKinds.i22
def g_law07_LexKinds.i20 : List Nat := 18 :: g_law07_LexKinds.i21
def g_law07_LexKinds.i19 : List Nat := 17 :: g_law07_LexKinds.i20
def g_law07_LexKinds.i18 : List Nat := 16 :: g_law07_LexKinds.i19
def g_law07_LexKinds.i17 : List Nat := 15 :: g_law07_LexKinds.i18
def g_law07_LexKinds.i16 : List Nat := 14 :: g_law07_LexKinds.i17
def g_law07_LexKinds.i15 : List Nat := 13 :: g_law07_LexKinds.i16
def g_law07_LexKinds.i14 : List Nat := 12 :: g_law07_LexKinds.i15
def g_law07_LexKinds.i13 : List Nat := 11 :: g_law07_LexKinds.i14
def g_law07_LexKinds.i12 : List Nat := 10 :: g_law07_LexKinds.i13
def g_law07_LexKinds.i11 : List Nat := 9 :: g_law07_LexKinds.i12
def g_law07_LexKinds.i10 : List Nat := 8 :: g_law07_LexKinds.i11
def g_law07_LexKinds.i9 : List Nat := 7 :: g_law07_LexKinds.i10
def g_law07_LexKinds.i8 : List Nat := 6 :: g_law07_LexKinds.i9
def g_law07_LexKinds.i7 : List Nat := 5 :: g_law07_LexKinds.i8
def g_law07_LexKinds.i6 : List Nat := 4 :: g_law07_LexKinds.i7
def g_law07_LexKinds.i5 : List Nat := 3 :: g_law07_LexKinds.i6
def g_law07_LexKinds.i4 : List Nat := 2 :: g_law07_LexKinds.i5
def g_law07_LexKinds.i3 : List Nat := 1 :: g_law07_LexKinds.i4
def g_law07_LexKinds.c1 : ACode :=
  .cond (.t 83) (.seq (.region [2] (some []) none
      [⟨some 2, .mv (.c (.d (.bool false))), [], [], none, none⟩])
   (.ret))
  (.skip)
def g_law07_LexKinds.o56 : List AOper :=
  [⟨some 128, .pick (.t 118) (.c (.d (.bool true))) (.t 127), [], [], none, none⟩]
def g_law07_LexKinds.o55 : List AOper :=
  (⟨some 127, .pick (.t 122) (.t 126) (.c (.d (.bool false))), [], [], (some (31, 118, false)), (some ([30, 31, 32, 118, 127], (some [])))⟩ ::
     g_law07_LexKinds.o56)
def g_law07_LexKinds.o54 : List AOper :=
  (⟨some 123, .faddr 1 (.t 7), [], [], (some (35, 122, true)), none⟩ ::
     ⟨some 124, .load none (.t 123), [], [], (some (35, 122, true)), none⟩ ::
     ⟨some 125, .lenS (.t 124), [], [], (some (35, 122, true)), none⟩ ::
     ⟨some 126, .bin .gtr (.t 125) (.c (.d (.int .i64 12))), [], [], (some (35, 122, true)), (some ([30, 31, 32, 118, 122, 126], (some [])))⟩ ::
     g_law07_LexKinds.o55)
def g_law07_LexKinds.o53 : List AOper :=
  (⟨some 119, .faddr 0 (.t 7), [], [], (some (31, 118, false)), none⟩ ::
     ⟨some 120, .load none (.t 119), [], [], (some (31, 118, false)), none⟩ ::
     ⟨some 121, .bin .eql (.t 120) (.c (.d (.int .i64 1))), [], [], (some (31, 118, false)), none⟩ ::
     ⟨some 122, .mv (.t 121), [], [], (some (31, 118, false)), (some ([7, 30, 31, 32, 118, 122], (some [7])))⟩ ::
     g_law07_LexKinds.o54)
def g_law07_LexKinds.o52 : List AOper :=
  (⟨some 117, .pick (.t 97) (.c (.d (.bool true))) (.t 116), [], [], none, none⟩ ::
     ⟨some 118, .mv (.t 117), [], [], none, (some ([7, 30, 31, 32, 118], (some [7])))⟩ ::
     g_law07_LexKinds.o53)
def g_law07_LexKinds.o51 : List AOper :=
  (⟨some 114, .pick (.t 107) (.c (.d (.bool true))) (.t 113), [], [], (some (10, 97, false)), none⟩ ::
     ⟨some 115, .un .not (.t 114), [], [], (some (10, 97, false)), none⟩ ::
     ⟨some 116, .beq true (.t 100) (.t 115), [], [], (some (10, 97, false)), (some ([7, 30, 31, 32, 97, 116], (some [7])))⟩ ::
     g_law07_LexKinds.o52)
def g_law07_LexKinds.o50 : List AOper :=
  (⟨some 113, .pick (.t 110) (.t 112) (.c (.d (.bool false))), [], [], (some (20, 107, false)), (some ([7, 30, 31, 32, 97, 100, 107, 113], (some [7])))⟩ ::
     g_law07_LexKinds.o51)
def g_law07_LexKinds.o49 : List AOper :=
  (⟨some 111, .mv (.t 11), [], [], (some (23, 110, true)), none⟩ ::
     ⟨some 112, .bin .leq (.t 111) (.c (.d (.int .u8 57))), [], [], (some (23, 110, true)), (some ([7, 30, 31, 32, 97, 100, 107, 110, 112], (some [7])))⟩ ::
     g_law07_LexKinds.o50)
def g_law07_LexKinds.o48 : List AOper :=
  (⟨some 108, .mv (.t 11), [], [], (some (20, 107, false)), none⟩ ::
     ⟨some 109, .bin .geq (.t 108) (.c (.d (.int .u8 48))), [], [], (some (20, 107, false)), none⟩ ::
     ⟨some 110, .mv (.t 109), [], [], (some (20, 107, false)), (some ([7, 11, 30, 31, 32, 97, 100, 107, 110], (some [7])))⟩ ::
     g_law07_LexKinds.o49)
def g_law07_LexKinds.o47 : List AOper :=
  (⟨some 106, .pick (.t 103) (.t 105) (.c (.d (.bool false))), [], [], (some (10, 97, false)), none⟩ ::
     ⟨some 107, .mv (.t 106), [], [], (some (10, 97, false)), (some ([7, 11, 30, 31, 32, 97, 100, 107], (some [7])))⟩ ::
     g_law07_LexKinds.o48)
def g_law07_LexKinds.o46 : List AOper :=
  (⟨some 104, .mv (.t 11), [], [], (some (16, 103, true)), none⟩ ::
     ⟨some 105, .bin .leq (.t 104) (.c (.d (.int .u8 122))), [], [], (some (16, 103, true)), (some ([7, 11, 30, 31, 32, 97, 100, 103, 105], (some [7])))⟩ ::
     g_law07_LexKinds.o47)
def g_law07_LexKinds.o45 : List AOper :=
  (⟨some 98, .faddr 0 (.t 7), [], [], (some (10, 97, false)), none⟩ ::
     ⟨some 99, .load none (.t 98), [], [], (some (10, 97, false)), none⟩ ::
     ⟨some 100, .bin .eql (.t 99) (.c (.d (.int .i64 5))), [], [], (some (10, 97, false)), none⟩ ::
     ⟨some 101, .mv (.t 11), [], [], (some (10, 97, false)), none⟩ ::
     ⟨some 102, .bin .geq (.t 101) (.c (.d (.int .u8 97))), [], [], (some (10, 97, false)), none⟩ ::
     ⟨some 103, .mv (.t 102), [], [], (some (10, 97, false)), (some ([7, 11, 30, 31, 32, 97, 100, 103], (some [7])))⟩ ::
     g_law07_LexKinds.o46)
def g_law07_LexKinds.o44 : List AOper :=
  (⟨some 95, .pick (.t 92) (.t 94) (.c (.d (.bool false))), [], [], none, none⟩ ::
     ⟨some 96, .beq true (.t 89) (.t 95), [], [], none, none⟩ ::
     ⟨some 97, .mv (.t 96), [], [], none, (some ([7, 11, 30, 31, 32, 97], (some [7])))⟩ ::
     g_law07_LexKinds.o45)
def g_law07_LexKinds.o43 : List AOper :=
  (⟨some 93, .mv (.t 11), [], [], (some (5, 92, true)), none⟩ ::
     ⟨some 94, .bin .leq (.t 93) (.c (.d (.int .u8 122))), [], [], (some (5, 92, true)), (some ([7, 11, 30, 31, 32, 89, 92, 94], (some [7])))⟩ ::
     g_law07_LexKinds.o44)
def g_law07_LexKinds.c2 : ACode :=
  .cond (.t 128) (.seq (.region [2] (some []) none
      [⟨some 2, .mv (.c (.d (.bool false))), [], [], none, none⟩])
   (.ret))
  (.skip)
def g_law07_LexKinds.c3 : ACode :=
  .seq (.region [30, 31, 32, 128] (some []) none
     (⟨some 87, .faddr 0 (.t 7), [], [], none, none⟩ ::
      ⟨some 88, .load none (.t 87), [], [], none, none⟩ ::
      ⟨some 89, .bin .eql (.t 88) (.c (.d (.int .i64 1))), [], [], none, none⟩ ::
      ⟨some 90, .mv (.t 11), [], [], none, none⟩ ::
      ⟨some 91, .bin .geq (.t 90) (.c (.d (.int .u8 97))), [], [], none, none⟩ ::
      ⟨some 92, .mv (.t 91), [], [], none, (some ([7, 11, 30, 31, 32, 89, 92], (some [7])))⟩ ::
      g_law07_LexKinds.o43))
  (g_law07_LexKinds.c2)
def g_law07_LexKinds.c4 : ACode :=
  .seq (.region [7, 11, 30, 31, 32] (some [7]) none
     [⟨some 84, .faddr 1 (.t 7), [], [], none, none⟩,
      ⟨some 85, .load none (.t 84), [], [], none, none⟩,
      ⟨some 86, .idx (.t 85) (.c (.d (.int .i64 0))), [], [], none, none⟩,
      ⟨some 11, .mv (.t 86), [], [], none, none⟩])
  (g_law07_LexKinds.c3)
def g_law07_LexKinds.c5 : ACode :=
  .seq (.seq (.region [7, 30, 31, 32, 83] (some [7]) (some (0 :: g_law07_LexKinds.i3, .done)) g_law07_LexKinds.a2)
   (g_law07_LexKinds.c1))
  (g_law07_LexKinds.c4)
def g_law07_LexKinds.c6 : ACode :=
  .seq (.region [7, 8, 9, 10, 30, 31, 32] (some [7]) none
     [⟨some 37, .faddr 1 (.t 7), [], [], none, none⟩,
      ⟨some 38, .load none (.t 37), [], [], none, none⟩,
      ⟨some 39, .call 74 [(.t 38)], [], [], none, none⟩,
      ⟨some 36, .mv (.t 39), [], [], none, none⟩,
      ⟨some 40, .ext (.t 36) 0, [], [], none, none⟩,
      ⟨some 41, .ext (.t 36) 1, [], [], none, none⟩,
      ⟨some 42, .ext (.t 36) 2, [], [], none, none⟩,
      ⟨some 8, .mv (.t 40), [], [], none, none⟩,
      ⟨some 9, .mv (.t 41), [], [], none, none⟩,
      ⟨some 10, .mv (.t 42), [], [], none, none⟩])
  (g_law07_LexKinds.c5)
def g_law07_LexKinds.c7 : ACode :=
  .region [30, 31, 32] (some []) none
    [⟨some 129, .bin .add (.t 32) (.c (.d (.int .i64 1))), [], [], none, none⟩,
     ⟨some 32, .mv (.t 129), [], [], none, none⟩]
def g_law07_LexKinds.l0 : ACode :=
  .loop [30, 31, 32] (some []) (.seq (.region [30, 31, 32, 33] (some []) none
     [⟨some 33, .bin .lss (.t 32) (.t 31), [], [], none, none⟩])
  (.seq (.cond (.t 33) (.skip)
    (.exit 0))
   (.seq (.block 1 [30, 31, 32] (some []) (.seq (.region [7, 30, 31, 32] (some [7]) none
         [⟨some 34, .iaddr 3 (.t 30) (.t 32), [], [], none, none⟩,
          ⟨some 35, .load (some 3) (.t 34), [], [], none, none⟩,
          ⟨some 7, .alloc 7 [.d (.int .i64 0), .d (.str []), .d (.int .i64 0)], [], [], none, none⟩,
          ⟨none, .store 3 (.t 7) (.t 35), [], [], none, none⟩])
      (g_law07_LexKinds.c6)))
    (g_law07_LexKinds.c7))))
def g_law07_LexKinds.c8 : ACode :=
  .seq (.region [2] (some []) none
     [⟨some 130, .call 73 [], [], [], none, none⟩,
      ⟨some 2, .mv (.t 130), [], [], none, none⟩])
  (.ret)
def g_law07_LexKinds.c9 : ACode :=
  .seq (.seq (.region [30, 31, 32] (some []) none
      [⟨some 30, .mv (.t 3), [], [], none, none⟩,
       ⟨some 31, .len (.t 30), [], [], none, none⟩,
       ⟨some 32, .mv (.c (.d (.int .i64 0))), [], [], none, none⟩])
   (.block 0 [] (some []) (g_law07_LexKinds.l0)))
  (g_law07_LexKinds.c8)
def g_law07_LexKinds.c10 : ACode :=
  .seq (.seq (.region [3, 23] (some []) none
      [⟨some 22, .mv (.t 5), [], [], none, none⟩,
       ⟨some 23, .bin .neq (.t 22) (.c (.d (.int .i64 0))), [], [], none, none⟩])
   (.cond (.t 23) (.seq (.region [2] (some []) none
        (⟨some 24, .mv (.t 3), [], [], none, none⟩ ::
         ⟨some 25, .len (.t 24), [], [], none, none⟩ ::
         ⟨some 26, .bin .eql (.t 25) (.c (.d (.int .i64 0))), [], [], none, none⟩ ::
         ⟨some 27, .mv (.t 26), [], [], none, (some ([27], (some [])))⟩ ::
         g_law07_LexKinds.o0))
     (g_law07_LexKinds.c0))
    (.skip)))
  (g_law07_LexKinds.c9)
def g_law07_LexKinds.c11 : ACode :=
  .seq (.region [3, 5] (some []) none
     [⟨some 17, .mv (.t 0), [], [], none, none⟩,
      ⟨some 18, .call 74 [(.t 17)], [], [], none, none⟩,
      ⟨some 16, .mv (.t 18), [], [], none, none⟩,
      ⟨some 19, .ext (.t 16) 0, [], [], none, none⟩,
      ⟨some 20, .ext (.t 16) 1, [], [], none, none⟩,
      ⟨some 21, .ext (.t 16) 2, [], [], none, none⟩,
      ⟨some 3, .mv (.t 19), [], [], none, none⟩,
      ⟨some 4, .mv (.t 20), [], [], none, none⟩,
      ⟨some 5, .mv (.t 21), [], [], none, none⟩])
  (g_law07_LexKinds.c10)
def g_law07_LexKinds.code : ACode :=
  .seq (.region [0] (some []) none
     [⟨some 2, .mv (.c (.d (.bool false))), [], [], none, none⟩])
  (.seq (.seq (.region [0, 14] (some []) none
       [⟨some 12, .mv (.t 0), [], [], none, none⟩,
        ⟨some 13, .lenS (.t 12), [], [], none, none⟩,
        ⟨some 14, .bin .gtr (.t 13) (.c (.d (.int .i64 600))), [], [], none, none⟩])
    (.cond (.t 14) (.seq (.region [2] (some []) none
         [⟨some 15, .call 73 [], [], [], none, none⟩,
          ⟨some 2, .mv (.t 15), [], [], none, none⟩])
      (.ret))
     (.skip)))
   (g_law07_LexKinds.c11))
def g_law07_LexKinds : AFn := { N := 131, res := [.slot 2], own := [], frz := [], code := g_law07_LexKinds.code }
def g_law07_awake.o9 : List AOper :=
  [⟨some 45, .pick (.t 42) (.t 44) (.c (.d (.bool false))), [], [], none, none⟩,
     ⟨some 46, .mv (.t 45), [], [], none, none⟩,
     ⟨some 47, .pick (.t 46) (.c (.d (.bool true))) (.c (.d (.bool false))), [], [], none, none⟩,
     ⟨some 48, .mv (.t 47), [], [], none, none⟩,
     ⟨some 49, .pick (.t 48) (.c (.d (.bool true))) (.c (.d (.bool false))), [], [], none, none⟩,
     ⟨some 50, .mv (.t 49), [], [], none, none⟩,
     ⟨some 51, .pick (.t 50) (.c (.d (.bool true))) (.c (.d (.bool false))), [], [], none, none⟩,
     ⟨some 52, .mv (.t 51), [], [], none, none⟩,
     ⟨some 53, .pick (.t 52) (.c (.d (.bool true))) (.c (.d (.bool false))), [], [], none, none⟩,
     ⟨some 0, .mv (.t 53), [], [], none, none⟩]
def g_law07_awake.o8 : List AOper :=
  (⟨some 43, .mv (.t 6), [], [], (some (25, 42, true)), none⟩ ::
     ⟨some 44, .bin .eql (.t 43) (.c (.d (.int .i64 2))), [], [], (some (25, 42, true)), (some ([42, 44], (some [])))⟩ ::
     g_law07_awake.o9)
def g_law07_awake.o7 : List AOper :=
  (⟨some 41, .pick (.t 38) (.t 40) (.c (.d (.bool false))), [], [], none, none⟩ ::
     ⟨some 42, .mv (.t 41), [], [], none, (some ([6, 42], (some [])))⟩ ::
     g_law07_awake.o8)
def g_law07_awake.o6 : List AOper :=
  (⟨some 39, .mv (.t 5), [], [], (some (21, 38, true)), none⟩ ::
     ⟨some 40, .bin .eql (.t 39) (.c (.d (.int .i64 3))), [], [], (some (21, 38, true)), (some ([6, 38, 40], (some [])))⟩ ::
     g_law07_awake.o7)
def g_law07_awake.o5 : List AOper :=
  (⟨some 37, .pick (.t 34) (.t 36) (.c (.d (.bool false))), [], [], none, none⟩ ::
     ⟨some 38, .mv (.t 37), [], [], none, (some ([5, 6, 38], (some [])))⟩ ::
     g_law07_awake.o6)
def g_law07_awake.o4 : List AOper :=
  (⟨some 35, .mv (.t 3), [], [], (some (17, 34, true)), none⟩ ::
     ⟨some 36, .bin .eql (.t 35) (.c (.d (.int .i64 0))), [], [], (some (17, 34, true)), (some ([5, 6, 34, 36], (some [])))⟩ ::
     g_law07_awake.o5)
def g_law07_awake.o3 : List AOper :=
  (⟨some 33, .pick (.t 27) (.t 32) (.c (.d (.bool false))), [], [], none, none⟩ ::
     ⟨some 34, .mv (.t 33), [], [], none, (some ([3, 5, 6, 34], (some [])))⟩ ::
     g_law07_awake.o4)
def g_law07_awake.o2 : List AOper :=
  (⟨some 28, .mv (.t 1), [], [], (some (10, 27, true)), none⟩ ::
     ⟨some 29, .iaddr 3 (.t 28) (.c (.d (.int .i64 3))), [], [], (some (10, 27, true)), none⟩ ::
     ⟨some 30, .faddr 2 (.t 29), [], [], (some (10, 27, true)), none⟩ ::
     ⟨some 31, .load none (.t 30), [], [], (some (10, 27, true)), none⟩ ::
     ⟨some 32, .bin .eql (.t 31) (.c (.d (.int .i64 9))), [], [], (some (10, 27, true)), (some ([3, 5, 6, 27, 32], (some [])))⟩ ::
     g_law07_awake.o3)
def g_law07_awake.o1 : List AOper :=
  (⟨some 26, .pick (.t 20) (.t 25) (.c (.d (.bool false))), [], [], none, none⟩ ::
     ⟨some 27, .mv (.t 26), [], [], none, (some ([1, 3, 5, 6, 27], (some [])))⟩ ::
     g_law07_awake.o2)
def g_law07_awake.o0 : List AOper :=
  (⟨some 21, .mv (.t 1), [], [], (some (3, 20, true)), none⟩ ::
     ⟨some 22, .iaddr 3 (.t 21) (.c (.d (.int .i64 3))), [], [], (some (3, 20, true)), none⟩ ::
     ⟨some 23, .faddr 0 (.t 22), [], [], (some (3, 20, true)), none⟩ ::
     ⟨some 24, .load none (.t 23), [], [], (some (3, 20, true)), none⟩ ::
     ⟨some 25, .bin .eql (.t 24) (.c (.d (.int .i64 3))), [], [], (some (3, 20, true)), (some ([1, 3, 5, 6, 20, 25], (some [])))⟩ ::
     g_law07_awake.o1)
def g_law07_awake.c0 : ACode :=
  .ret
def g_law07_awake.c1 : ACode :=
  .seq (.region [0] (some []) none
     (⟨some 17, .mv (.t 1), [], [], none, none⟩ ::
      ⟨some 18, .len (.t 17), [], [], none, none⟩ ::
      ⟨some 19, .bin .eql (.t 18) (.c (.d (.int .i64 5))), [], [], none, none⟩ ::
      ⟨some 20, .mv (.t 19), [], [], none, (some ([1, 3, 5, 6, 20], (some [])))⟩ ::
      g_law07_awake.o0))
  (g_law07_awake.c0)
def g_law07_awake.c2 : ACode :=
  .seq (.region [1, 3, 5, 6] (some []) none
     [⟨some 13, .call 74 [(.c (.d (.str [97, 32, 32, 63])))], [], [], none, none⟩,
      ⟨some 12, .mv (.t 13), [], [], none, none⟩,
      ⟨some 14, .ext (.t 12) 0, [], [], none, none⟩,
      ⟨some 15, .ext (.t 12) 1, [], [], none, none⟩,
      ⟨some 16, .ext (.t 12) 2, [], [], none, none⟩,
      ⟨some 4, .mv (.t 14), [], [], none, none⟩,
      ⟨some 5, .mv (.t 15), [], [], none, none⟩,
      ⟨some 6, .mv (.t 16), [], [], none, none⟩])
  (g_law07_awake.c1)
def g_law07_awake.code : ACode :=
  .seq (.region [] (some []) none
     [⟨some 0, .mv (.c (.d (.bool false))), [], [], none, none⟩])
  (.seq (.region [1, 3] (some []) none
      [⟨some 8, .call 74 [(.c (.d (.str [101, 97, 114, 110, 32, 97, 32, 61, 32, 49, 46, 53, 48, 59, 32, 35, 32, 120])))], [], [], none, none⟩,
       ⟨some 7, .mv (.t 8), [], [], none, none⟩,
       ⟨some 9, .ext (.t 7) 0, [], [], none, none⟩,
       ⟨some 10, .ext (.t 7) 1, [], [], none, none⟩,
       ⟨some 11, .ext (.t 7) 2, [], [], none, none⟩,
       ⟨some 1, .mv (.t 9), [], [], none, none⟩,
       ⟨some 2, .mv (.t 10), [], [], none, none⟩,
       ⟨some 3, .mv (.t 11), [], [], none, none⟩])
   (g_law07_awake.c2))
def g_law07_awake : AFn := { N := 54, res := [.slot 0], own := [], frz := [], code := g_law07_awake.code }
def g_lex_All.o1 : List AOper :=
  [⟨some 23, .pick (.t 18) (.c (.d (.bool true))) (.t 22), [], [], none, none⟩]
def g_lex_All.o0 : List AOper :=
  (⟨some 19, .mv (.t 0), [], [], (some (4, 18, false)), none⟩ ::
     ⟨some 20, .mv (.t 6), [], [], (some (4, 18, false)), none⟩ ::
     ⟨some 21, .idx (.t 19) (.t 20), [], [], (some (4, 18, false)), none⟩ ::
     ⟨some 22, .bin .eql (.t 21) (.c (.d (.int .u8 10))), [], [], (some (4, 18, false)), (some ([0, 5, 6, 18, 22], (some [55])))⟩ ::
     g_lex_All.o1)
def g_lex_All.c0 : ACode :=
  .cond (.t 23) (.seq (.region [0, 5, 6] (some [55]) none
      [⟨some 24, .mv (.t 6), [], [], none, none⟩,
       ⟨some 25, .bin .add (.t 24) (.c (.d (.int .i64 1))), [], [], none, none⟩,
       ⟨some 6, .mv (.t 25), [], [], none, none⟩])
   (.exit 1000000))
  (.skip)
def g_lex_All.c1 : ACode :=
  .seq (.region [0, 5, 6] (some [55]) none
     [⟨some 56, .mv (.t 6), [], [], none, none⟩,
      ⟨some 57, .mv (.t 8), [], [], none, none⟩,
      ⟨some 58, .bin .add (.t 56) (.t 57), [], [], none, none⟩,
      ⟨some 6, .mv (.t 58), [], [], none, none⟩])
  (.exit 1000000)
def g_lex_All.c2 : ACode :=
  .seq (.region [0, 5, 6, 8] (some [55]) none
     [⟨some 44, .mv (.t 5), [], [], none, none⟩,
      ⟨some 45, .mv (.t 7), [], [], none, none⟩,
      ⟨some 46, .mv (.t 0), [], [], none, none⟩,
      ⟨some 47, .mv (.t 6), [], [], none, none⟩,
      ⟨some 48, .mv (.t 6), [], [], none, none⟩,
      ⟨some 49, .mv (.t 8), [], [], none, none⟩,
      ⟨some 50, .bin .add (.t 48) (.t 49), [], [], none, none⟩,
      ⟨some 51, .slcS (.t 46) (some (.t 47)) (some (.t 50)), [], [], none, none⟩,
      ⟨some 52, .mv (.t 6), [], [], none, none⟩,
      ⟨some 53, .build [.d (.int .i64 0), .d (.str []), .d (.int .i64 0)] [(0, 1, (.t 45)), (1, 1, (.t 51)), (2, 1, (.t 52))], [], [], none, none⟩,
      ⟨some 54, .bsl none 3 [] 1 [(0, (.t 53))], [], [], none, none⟩,
      ⟨some 55, .app (some 55) 3 32 (.t 44) (.t 54), [], [], none, none⟩,
      ⟨some 5, .mv (.t 55), [], [], none, none⟩])
  (g_lex_All.c1)
def g_lex_All.c3 : ACode :=
  .seq (.seq (.region [0, 5, 6, 7, 8, 42] (some [55]) none
      [⟨some 41, .mv (.t 7), [], [], none, none⟩,
       ⟨some 42, .bin .eql (.t 41) (.c (.d (.int .i64 0))), [], [], none, none⟩])
   (.cond (.t 42) (.seq (.region [2, 3, 4] (some [55]) none
        [⟨some 43, .mv (.t 6), [], [], none, none⟩,
         ⟨some 2, .mv (.c (.cap0)), [], [], none, none⟩,
         ⟨some 3, .mv (.t 43), [], [], none, none⟩,
         ⟨some 4, .mv (.c (.d (.int .i64 2))), [], [], none, none⟩])
     (.ret))
    (.skip)))
  (g_lex_All.c2)
def g_lex_All.c4 : ACode :=
  .seq (.region [0, 5, 6, 7, 8] (some [55]) none
     [⟨some 36, .mv (.t 0), [], [], none, none⟩,
      ⟨some 37, .mv (.t 6), [], [], none, none⟩,
      ⟨some 38, .call 104 [(.t 36), (.t 37)], [], [], none, none⟩,
      ⟨some 35, .mv (.t 38), [], [], none, none⟩,
      ⟨some 39, .ext (.t 35) 0, [], [], none, none⟩,
      ⟨some 40, .ext (.t 35) 1, [], [], none, none⟩,
      ⟨some 7, .mv (.t 39), [], [], none, none⟩,
      ⟨some 8, .mv (.t 40), [], [], none, none⟩])
  (g_lex_All.c3)
def g_lex_All.c5 : ACode :=
  .seq (.seq (.region [0, 5, 6, 29] (some [55]) none
      [⟨some 26, .mv (.t 0), [], [], none, none⟩,
       ⟨some 27, .mv (.t 6), [], [], none, none⟩,
       ⟨some 28, .idx (.t 26) (.t 27), [], [], none, none⟩,
       ⟨some 29, .bin .eql (.t 28) (.c (.d (.int .u8 35))), [], [], none, none⟩])
   (.cond (.t 29) (.seq (.region [0, 5, 6] (some [55]) none
        [⟨some 30, .mv (.t 6), [], [], none, none⟩,
         ⟨some 31, .mv (.t 0), [], [], none, none⟩,
         ⟨some 32, .mv (.t 6), [], [], none, none⟩,
         ⟨some 33, .call 102 [(.t 31), (.t 32), (.f 103)], [], [], none, none⟩,
         ⟨some 34, .bin .add (.t 30) (.t 33), [], [], none, none⟩,
         ⟨some 6, .mv (.t 34), [], [], none, none⟩])
     (.exit 1000000))
    (.skip)))
  (g_lex_All.c4)
def g_lex_All.c6 : ACode :=
  .seq (.seq (.region [0, 5, 6, 23] (some [55]) none
      (⟨some 14, .mv (.t 0), [], [], none, none⟩ ::
       ⟨some 15, .mv (.t 6), [], [], none, none⟩ ::
       ⟨some 16, .idx (.t 14) (.t 15), [], [], none, none⟩ ::
       ⟨some 17, .bin .eql (.t 16) (.c (.d (.int .u8 32))), [], [], none, none⟩ ::
       ⟨some 18, .mv (.t 17), [], [], none, (some ([0, 5, 6, 18], (some [55])))⟩ ::
       g_lex_All.o0))
   (g_lex_All.c0))
  (g_lex_All.c5)
def g_lex_All.c7 : ACode :=
  .seq (.seq (.region [0, 5, 6, 12] (some [55]) none
      [⟨some 9, .mv (.t 6), [], [], none, none⟩,
       ⟨some 10, .mv (.t 0), [], [], none, none⟩,
       ⟨some 11, .lenS (.t 10), [], [], none, none⟩,
       ⟨some 12, .bin .geq (.t 9) (.t 11), [], [], none, none⟩])
   (.cond (.t 12) (.seq (.region [2, 3, 4] (some [55]) none
        [⟨some 13, .mv (.t 5), [], [], none, none⟩,
         ⟨some 2, .mv (.t 13), [], [], none, none⟩,
         ⟨some 3, .mv (.c (.d (.int .i64 0))), [], [], none, none⟩,
         ⟨some 4, .mv (.c (.d (.int .i64 0))), [], [], none, none⟩])
     (.ret))
    (.skip)))
  (g_lex_All.c6)
def g_lex_All.code : ACode :=
  .seq (.region [0] (some []) none
     [⟨some 2, .mv (.c (.cap0)), [], [], none, none⟩,
      ⟨some 3, .mv (.c (.d (.int .i64 0))), [], [], none, none⟩,
      ⟨some 4, .mv (.c (.d (.int .i64 0))), [], [], none, none⟩])
  (.scope 0 [0, 5, 6] (some [55]) (.seq (.region [0, 5] (some [55]) none
       [⟨some 5, .mv (.c (.cap0)), [], [], none, none⟩])
    (.seq (.region [0, 5, 6] (some [55]) none
        [⟨some 6, .mv (.c (.d (.int .i64 0))), [], [], none, none⟩,
         ⟨some 7, .mv (.c (.d (.int .i64 0))), [], [], none, none⟩,
         ⟨some 8, .mv (.c (.d (.int .i64 0))), [], [], none, none⟩])
     (.seq (.skip)
      (g_lex_All.c7))))
   (.seq .skip g_lex_All.c7))
def g_lex_All : AFn := { N := 59, res := [.slot 2, .slot 3, .slot 4], own := [], frz := [2], code := g_lex_All.code }
def g_ref07_All.o1 : List AOper :=
  [⟨some 24, .pick (.t 21) (.c (.d (.bool true))) (.t 23), [], [], none, none⟩,
     ⟨some 18, .mv (.t 24), [], [], none, none⟩]
def g_ref07_All.o0 : List AOper :=
  (⟨some 22, .mv (.t 6), [], [], (some (2, 21, false)), none⟩ ::
     ⟨some 23, .bin .eql (.t 22) (.c (.d (.int .u8 10))), [], [], (some (2, 21, false)), (some ([0, 4, 5, 6, 7, 8, 21, 23], (some [110])))⟩ ::
     g_ref07_All.o1)
def g_ref07_All.o3 : List AOper :=
  [⟨some 37, .pick (.t 32) (.t 36) (.c (.d (.bool false))), [], [], none, none⟩]
def g_ref07_All.o2 : List AOper :=
  (⟨some 33, .mv (.t 0), [], [], (some (4, 32, true)), none⟩ ::
     ⟨some 34, .mv (.t 7), [], [], (some (4, 32, true)), none⟩ ::
     ⟨some 35, .idx (.t 33) (.t 34), [], [], (some (4, 32, true)), none⟩ ::
     ⟨some 36, .bin .neq (.t 35) (.c (.d (.int .u8 10))), [], [], (some (4, 32, true)), (some ([0, 4, 5, 7, 32, 36], (some [110])))⟩ ::
     g_ref07_All.o3)
def g_ref07_All.c0 : ACode :=
  .cond (.t 37) (.skip)
  (.exit 3)
def g_ref07_All.c1 : ACode :=
  .block 4 [0, 4, 5, 7] (some [110]) (.region [0, 4, 5, 7] (some [110]) none
     [⟨some 38, .mv (.t 7), [], [], none, none⟩,
      ⟨some 39, .bin .add (.t 38) (.c (.d (.int .i64 1))), [], [], none, none⟩,
      ⟨some 7, .mv (.t 39), [], [], none, none⟩])
def g_ref07_All.l1 : ACode :=
  .loop [0, 4, 5, 7] (some [110]) (.seq (.seq (.region [0, 4, 5, 7, 37] (some [110]) none
      (⟨some 28, .mv (.t 7), [], [], none, none⟩ ::
       ⟨some 29, .mv (.t 0), [], [], none, none⟩ ::
       ⟨some 30, .lenS (.t 29), [], [], none, none⟩ ::
       ⟨some 31, .bin .lss (.t 28) (.t 30), [], [], none, none⟩ ::
       ⟨some 32, .mv (.t 31), [], [], none, (some ([0, 4, 5, 7, 32], (some [110])))⟩ ::
       g_ref07_All.o2))
   (g_ref07_All.c0))
  (g_ref07_All.c1))
def g_ref07_All.c2 : ACode :=
  .region [0, 4, 5, 7, 8] (some [110]) none
    [⟨some 8, .mv (.c (.d (.int .i64 (-1)))), [], [], none, none⟩]
def g_ref07_All.c3 : ACode :=
  .seq (.region [0, 4, 5, 7, 8, 49] (some [110]) none
     [⟨some 46, .mv (.t 7), [], [], none, none⟩,
      ⟨some 47, .mv (.t 5), [], [], none, none⟩,
      ⟨some 48, .bin .sub (.t 46) (.t 47), [], [], none, none⟩,
      ⟨some 49, .bin .lss (.t 48) (.c (.d (.int .i64 13))), [], [], none, none⟩])
  (.cond (.t 49) (.region [0, 4, 5, 7, 8] (some [110]) none
      [⟨some 8, .mv (.c (.d (.int .i64 1))), [], [], none, none⟩])
   (.skip))
def g_ref07_All.c4 : ACode :=
  .region [0, 4, 5, 7, 8] (some [110]) none
    [⟨some 56, .mv (.t 0), [], [], none, none⟩,
     ⟨some 57, .mv (.t 5), [], [], none, none⟩,
     ⟨some 58, .mv (.t 7), [], [], none, none⟩,
     ⟨some 59, .slcS (.t 56) (some (.t 57)) (some (.t 58)), [], [], none, none⟩,
     ⟨some 60, .call 98 [(.t 59)], [], [], none, none⟩,
     ⟨some 8, .mv (.t 60), [], [], none, none⟩]
def g_ref07_All.o13 : List AOper :=
  [⟨some 93, .pick (.t 68) (.t 92) (.c (.d (.bool false))), [], [], none, none⟩]
def g_ref07_All.o12 : List AOper :=
  (⟨some 92, .pick (.t 83) (.c (.d (.bool true))) (.t 91), [], [], (some (4, 68, true)), (some ([0, 4, 5, 7, 8, 68, 92], (some [110])))⟩ ::
     g_ref07_All.o13)
def g_ref07_All.o11 : List AOper :=
  (⟨some 91, .pick (.t 86) (.t 90) (.c (.d (.bool false))), [], [], (some (19, 83, false)), (some ([0, 4, 5, 7, 8, 68, 83, 91], (some [110])))⟩ ::
     g_ref07_All.o12)
def g_ref07_All.o10 : List AOper :=
  (⟨some 87, .mv (.t 0), [], [], (some (22, 86, true)), none⟩ ::
     ⟨some 88, .mv (.t 7), [], [], (some (22, 86, true)), none⟩ ::
     ⟨some 89, .idx (.t 87) (.t 88), [], [], (some (22, 86, true)), none⟩ ::
     ⟨some 90, .bin .eql (.t 89) (.c (.d (.int .u8 61))), [], [], (some (22, 86, true)), (some ([0, 4, 5, 7, 8, 68, 83, 86, 90], (some [110])))⟩ ::
     g_ref07_All.o11)
def g_ref07_All.o9 : List AOper :=
  (⟨some 84, .mv (.t 6), [], [], (some (19, 83, false)), none⟩ ::
     ⟨some 85, .bin .eql (.t 84) (.c (.d (.int .u8 62))), [], [], (some (19, 83, false)), none⟩ ::
     ⟨some 86, .mv (.t 85), [], [], (some (19, 83, false)), (some ([0, 4, 5, 7, 8, 68, 83, 86], (some [110])))⟩ ::
     g_ref07_All.o10)
def g_ref07_All.o8 : List AOper :=
  (⟨some 82, .pick (.t 71) (.t 81) (.c (.d (.bool false))), [], [], (some (4, 68, true)), none⟩ ::
     ⟨some 83, .mv (.t 82), [], [], (some (4, 68, true)), (some ([0, 4, 5, 6, 7, 8, 68, 83], (some [110])))⟩ ::
     g_ref07_All.o9)
def g_ref07_All.o7 : List AOper :=
  (⟨some 81, .pick (.t 76) (.c (.d (.bool true))) (.t 80), [], [], (some (7, 71, true)), (some ([0, 4, 5, 6, 7, 8, 68, 71, 81], (some [110])))⟩ ::
     g_ref07_All.o8)
def g_ref07_All.o6 : List AOper :=
  (⟨some 77, .mv (.t 0), [], [], (some (12, 76, false)), none⟩ ::
     ⟨some 78, .mv (.t 7), [], [], (some (12, 76, false)), none⟩ ::
     ⟨some 79, .idx (.t 77) (.t 78), [], [], (some (12, 76, false)), none⟩ ::
     ⟨some 80, .bin .eql (.t 79) (.c (.d (.int .u8 62))), [], [], (some (12, 76, false)), (some ([0, 4, 5, 6, 7, 8, 68, 71, 76, 80], (some [110])))⟩ ::
     g_ref07_All.o7)
def g_ref07_All.o5 : List AOper :=
  (⟨some 72, .mv (.t 0), [], [], (some (7, 71, true)), none⟩ ::
     ⟨some 73, .mv (.t 7), [], [], (some (7, 71, true)), none⟩ ::
     ⟨some 74, .idx (.t 72) (.t 73), [], [], (some (7, 71, true)), none⟩ ::
     ⟨some 75, .bin .eql (.t 74) (.c (.d (.int .u8 61))), [], [], (some (7, 71, true)), none⟩ ::
     ⟨some 76, .mv (.t 75), [], [], (some (7, 71, true)), (some ([0, 4, 5, 6, 7, 8, 68, 71, 76], (some [110])))⟩ ::
     g_ref07_All.o6)
def g_ref07_All.o4 : List AOper :=
  (⟨some 69, .mv (.t 6), [], [], (some (4, 68, true)), none⟩ ::
     ⟨some 70, .bin .eql (.t 69) (.c (.d (.int .u8 60))), [], [], (some (4, 68, true)), none⟩ ::
     ⟨some 71, .mv (.t 70), [], [], (some (4, 68, true)), (some ([0, 4, 5, 6, 7, 8, 68, 71], (some [110])))⟩ ::
     g_ref07_All.o5)
def g_ref07_All.c5 : ACode :=
  .cond (.t 93) (.region [0, 4, 5, 7, 8] (some [110]) none
     [⟨some 94, .mv (.t 7), [], [], none, none⟩,
      ⟨some 95, .bin .add (.t 94) (.c (.d (.int .i64 1))), [], [], none, none⟩,
      ⟨some 7, .mv (.t 95), [], [], none, none⟩])
  (.skip)
def g_ref07_All.c6 : ACode :=
  .cond (.t 18) (.region [0, 4, 5, 7, 8] (some [110]) none
     [⟨some 8, .mv (.c (.d (.int .i64 (-1)))), [], [], none, none⟩])
  (.seq (.region [0, 4, 5, 6, 7, 8, 25] (some [110]) none
      [⟨some 26, .mv (.t 6), [], [], none, none⟩,
       ⟨some 27, .bin .eql (.t 26) (.c (.d (.int .u8 35))), [], [], none, none⟩,
       ⟨some 25, .mv (.t 27), [], [], none, none⟩])
   (.cond (.t 25) (.seq (.block 3 [0, 4, 5, 7] (some [110]) (g_ref07_All.l1))
     (g_ref07_All.c2))
    (.seq (.region [0, 4, 5, 6, 7, 8, 40] (some [110]) none
        [⟨some 41, .mv (.t 6), [], [], none, none⟩,
         ⟨some 42, .call 96 [(.t 41), (.c (.d (.str [97, 98, 99, 100, 101, 102, 103, 104, 105, 106, 107, 108, 109, 110, 111, 112, 113, 114, 115, 116, 117, 118, 119, 120, 121, 122])))], [], [], none, none⟩,
         ⟨some 40, .mv (.t 42), [], [], none, none⟩])
     (.cond (.t 40) (.seq (.region [0, 4, 5, 7, 8] (some [110]) none
          [⟨some 43, .mv (.t 0), [], [], none, none⟩,
           ⟨some 44, .mv (.t 5), [], [], none, none⟩,
           ⟨some 45, .call 97 [(.t 43), (.t 44), (.c (.d (.str [97, 98, 99, 100, 101, 102, 103, 104, 105, 106, 107, 108, 109, 110, 111, 112, 113, 114, 115, 116, 117, 118, 119, 120, 121, 122, 48, 49, 50, 51, 52, 53, 54, 55, 56, 57])))], [], [], none, none⟩,
           ⟨some 7, .mv (.t 45), [], [], none, none⟩])
       (g_ref07_All.c3))
      (.seq (.region [0, 4, 5, 6, 7, 8, 50] (some [110]) none
          [⟨some 51, .mv (.t 6), [], [], none, none⟩,
           ⟨some 52, .call 96 [(.t 51), (.c (.d (.str [48, 49, 50, 51, 52, 53, 54, 55, 56, 57])))], [], [], none, none⟩,
           ⟨some 50, .mv (.t 52), [], [], none, none⟩])
       (.cond (.t 50) (.seq (.region [0, 4, 5, 7] (some [110]) none
            [⟨some 53, .mv (.t 0), [], [], none, none⟩,
             ⟨some 54, .mv (.t 5), [], [], none, none⟩,
             ⟨some 55, .call 97 [(.t 53), (.t 54), (.c (.d (.str [48, 49, 50, 51, 52, 53, 54, 55, 56, 57, 46, 37])))], [], [], none, none⟩,
             ⟨some 7, .mv (.t 55), [], [], none, none⟩])
         (g_ref07_All.c4))
        (.seq (.region [0, 4, 5, 6, 7, 8, 61] (some [110]) none
            [⟨some 62, .mv (.t 6), [], [], none, none⟩,
             ⟨some 63, .call 96 [(.t 62), (.c (.d (.str [61, 60, 62, 43, 45, 42, 40, 41, 44, 59])))], [], [], none, none⟩,
             ⟨some 61, .mv (.t 63), [], [], none, none⟩])
         (.cond (.t 61) (.seq (.region [0, 4, 5, 6, 7, 8] (some [110]) none
              [⟨some 8, .mv (.c (.d (.int .i64 5))), [], [], none, none⟩])
           (.seq (.region [0, 4, 5, 7, 8, 93] (some [110]) none
               (⟨some 64, .mv (.t 7), [], [], none, none⟩ ::
                ⟨some 65, .mv (.t 0), [], [], none, none⟩ ::
                ⟨some 66, .lenS (.t 65), [], [], none, none⟩ ::
                ⟨some 67, .bin .lss (.t 64) (.t 66), [], [], none, none⟩ ::
                ⟨some 68, .mv (.t 67), [], [], none, (some ([0, 4, 5, 6, 7, 8, 68], (some [110])))⟩ ::
                g_ref07_All.o4))
            (g_ref07_All.c5)))
          (.skip)))))))))
def g_ref07_All.c7 : ACode :=
  .region [0, 4, 5] (some [110]) none
    [⟨some 111, .mv (.t 7), [], [], none, none⟩,
     ⟨some 5, .mv (.t 111), [], [], none, none⟩]
def g_ref07_All.c8 : ACode :=
  .seq (.seq (.region [0, 4, 5, 7, 8, 100] (some [110]) none
      [⟨some 99, .mv (.t 8), [], [], none, none⟩,
       ⟨some 100, .bin .gtr (.t 99) (.c (.d (.int .i64 0))), [], [], none, none⟩])
   (.cond (.t 100) (.region [0, 4, 7] (some [110]) none
       [⟨some 101, .mv (.t 4), [], [], none, none⟩,
        ⟨some 102, .mv (.t 8), [], [], none, none⟩,
        ⟨some 103, .mv (.t 0), [], [], none, none⟩,
        ⟨some 104, .mv (.t 5), [], [], none, none⟩,
        ⟨some 105, .mv (.t 7), [], [], none, none⟩,
        ⟨some 106, .slcS (.t 103) (some (.t 104)) (some (.t 105)), [], [], none, none⟩,
        ⟨some 107, .mv (.t 5), [], [], none, none⟩,
        ⟨some 108, .build [.d (.int .i64 0), .d (.str []), .d (.int .i64 0)] [(0, 1, (.t 102)), (1, 1, (.t 106)), (2, 1, (.t 107))], [], [], none, none⟩,
        ⟨some 109, .bsl none 3 [] 1 [(0, (.t 108))], [], [], none, none⟩,
        ⟨some 110, .app (some 110) 3 32 (.t 101) (.t 109), [], [], none, none⟩,
        ⟨some 4, .mv (.t 110), [], [], none, none⟩])
    (.skip)))
  (g_ref07_All.c7)
def g_ref07_All.c9 : ACode :=
  .seq (.seq (.region [0, 4, 5, 7, 8, 97] (some [110]) none
      [⟨some 96, .mv (.t 8), [], [], none, none⟩,
       ⟨some 97, .bin .eql (.t 96) (.c (.d (.int .i64 0))), [], [], none, none⟩])
   (.cond (.t 97) (.seq (.region [2, 3] (some [110]) none
        [⟨some 98, .mv (.t 5), [], [], none, none⟩,
         ⟨some 2, .mv (.c (.cap0)), [], [], none, none⟩,
         ⟨some 3, .mv (.t 98), [], [], none, none⟩])
     (.ret))
    (.skip)))
  (g_ref07_All.c8)
def g_ref07_All.c10 : ACode :=
  .seq (.block 2 [0, 4, 5, 7, 8] (some [110]) (.seq (.region [0, 4, 5, 6, 7, 8, 18] (some [110]) none
       (⟨some 19, .mv (.t 6), [], [], none, none⟩ ::
        ⟨some 20, .bin .eql (.t 19) (.c (.d (.int .u8 32))), [], [], none, none⟩ ::
        ⟨some 21, .mv (.t 20), [], [], none, (some ([0, 4, 5, 6, 7, 8, 21], (some [110])))⟩ ::
        g_ref07_All.o0))
    (g_ref07_All.c6)))
  (g_ref07_All.c9)
def g_ref07_All.c11 : ACode :=
  .seq (.region [0, 4, 5, 6, 7, 8] (some [110]) none
     [⟨some 16, .mv (.t 5), [], [], none, none⟩,
      ⟨some 17, .bin .add (.t 16) (.c (.d (.int .i64 1))), [], [], none, none⟩,
      ⟨some 7, .mv (.t 17), [], [], none, none⟩,
      ⟨some 8, .mv (.c (.d (.int .i64 0))), [], [], none, none⟩])
  (g_ref07_All.c10)
def g_ref07_All.c12 : ACode :=
  .block 1 [0, 4, 5] (some [110]) (.seq (.region [0, 4, 5, 6] (some [110]) none
      [⟨some 13, .mv (.t 0), [], [], none, none⟩,
       ⟨some 14, .mv (.t 5), [], [], none, none⟩,
       ⟨some 15, .idx (.t 13) (.t 14), [], [], none, none⟩,
       ⟨some 6, .mv (.t 15), [], [], none, none⟩])
   (g_ref07_All.c11))
def g_ref07_All.l0 : ACode :=
  .loop [0, 4, 5] (some [110]) (.seq (.seq (.region [0, 4, 5, 12] (some [110]) none
      [⟨some 9, .mv (.t 5), [], [], none, none⟩,
       ⟨some 10, .mv (.t 0), [], [], none, none⟩,
       ⟨some 11, .lenS (.t 10), [], [], none, none⟩,
       ⟨some 12, .bin .lss (.t 9) (.t 11), [], [], none, none⟩])
   (.cond (.t 12) (.skip)
    (.exit 0)))
  (g_ref07_All.c12))
def g_ref07_All.c13 : ACode :=
  .seq (.region [2, 3] (some [110]) none
     [⟨some 112, .mv (.t 4), [], [], none, none⟩,
      ⟨some 2, .mv (.t 112), [], [], none, none⟩,
      ⟨some 3, .mv (.c (.d (.int .i64 (-1)))), [], [], none, none⟩])
  (.ret)
def g_ref07_All.code : ACode :=
  .seq (.region [0] (some []) none
     [⟨some 2, .mv (.c (.cap0)), [], [], none, none⟩,
      ⟨some 3, .mv (.c (.d (.int .i64 0))), [], [], none, none⟩])
  (.seq (.region [0, 4] (some [110]) none
      [⟨some 4, .mv (.c (.cap0)), [], [], none, none⟩])
   (.seq (.seq (.region [0, 4, 5] (some [110]) none
        [⟨some 5, .mv (.c (.d (.int .i64 0))), [], [], none, none⟩])
     (.block 0 [4] (some [110]) (g_ref07_All.l0)))
    (g_ref07_All.c13)))
def g_ref07_All : AFn := { N := 113, res := [.slot 2, .slot 3], own := [], frz := [2], code := g_ref07_All.code }
def g_rate_Right.o1 : List AOper :=
  [⟨some 8, .pick (.t 5) (.t 7) (.c (.d (.bool false))), [], [], none, none⟩,
     ⟨some 2, .mv (.t 8), [], [], none, none⟩]
def g_rate_Right.o0 : List AOper :=
  (⟨some 6, .mv (.t 0), [], [], (some (2, 5, true)), none⟩ ::
     ⟨some 7, .bin .leq (.t 6) (.c (.d (.int .i64 10000))), [], [], (some (2, 5, true)), (some ([5, 7], (some [])))⟩ ::
     g_rate_Right.o1)
def g_rate_Right.c0 : ACode :=
  .ret
def g_rate_Right.code : ACode :=
  .seq (.region [0] (some []) none
     [⟨some 2, .mv (.c (.d (.bool false))), [], [], none, none⟩])
  (.seq (.region [2] (some []) none
      (⟨some 3, .mv (.t 0), [], [], none, none⟩ ::
       ⟨some 4, .bin .geq (.t 3) (.c (.d (.int .i64 0))), [], [], none, none⟩ ::
       ⟨some 5, .mv (.t 4), [], [], none, (some ([0, 5], (some [])))⟩ ::
       g_rate_Right.o0))
   (g_rate_Right.c0))
def g_rate_Right : AFn := { N := 9, res := [.slot 2], own := [], frz := [], code := g_rate_Right.code }
def g_rate_Parse.o3 : List AOper :=
  [⟨some 28, .pick (.t 24) (.c (.d (.bool true))) (.t 27), [], [], none, none⟩]
def g_rate_Parse.o2 : List AOper :=
  (⟨some 25, .mv (.t 6), [], [], (some (6, 24, false)), none⟩ ::
     ⟨some 26, .call 88 [(.t 25)], [], [], (some (6, 24, false)), none⟩ ::
     ⟨some 27, .un .not (.t 26), [], [], (some (6, 24, false)), (some ([6, 24, 27], (some [])))⟩ ::
     g_rate_Parse.o3)
def g_rate_Parse.o1 : List AOper :=
  (⟨some 23, .pick (.t 20) (.c (.d (.bool true))) (.t 22), [], [], none, none⟩ ::
     ⟨some 24, .mv (.t 23), [], [], none, (some ([6, 24], (some [])))⟩ ::
     g_rate_Parse.o2)
def g_rate_Parse.o0 : List AOper :=
  (⟨some 21, .mv (.t 7), [], [], (some (2, 20, false)), none⟩ ::
     ⟨some 22, .un .not (.t 21), [], [], (some (2, 20, false)), (some ([6, 20, 22], (some [])))⟩ ::
     g_rate_Parse.o1)
def g_rate_Parse.c0 : ACode :=
  .cond (.t 28) (.seq (.region [2, 3] (some []) none
      [⟨some 2, .mv (.c (.d (.int .i64 0))), [], [], none, none⟩,
       ⟨some 3, .mv (.c (.d (.bool false))), [], [], none, none⟩])
   (.ret))
  (.skip)
def g_rate_Parse.c1 : ACode :=
  .seq (.region [2, 3] (some []) none
     [⟨some 29, .mv (.t 6), [], [], none, none⟩,
      ⟨some 2, .mv (.t 29), [], [], none, none⟩,
      ⟨some 3, .mv (.c (.d (.bool true))), [], [], none, none⟩])
  (.ret)
def g_rate_Parse.c2 : ACode :=
  .seq (.seq (.region [6, 28] (some []) none
      (⟨some 18, .mv (.t 5), [], [], none, none⟩ ::
       ⟨some 19, .un .not (.t 18), [], [], none, none⟩ ::
       ⟨some 20, .mv (.t 19), [], [], none, (some ([6, 7, 20], (some [])))⟩ ::
       g_rate_Parse.o0))
   (g_rate_Parse.c0))
  (g_rate_Parse.c1)
def g_rate_Parse.c3 : ACode :=
  .seq (.region [5, 6, 7] (some []) none
     [⟨some 14, .mv (.t 4), [], [], none, none⟩,
      ⟨some 15, .call 51 [(.t 14)], [], [], none, none⟩,
      ⟨some 13, .mv (.t 15), [], [], none, none⟩,
      ⟨some 16, .ext (.t 13) 0, [], [], none, none⟩,
      ⟨some 17, .ext (.t 13) 1, [], [], none, none⟩,
      ⟨some 6, .mv (.t 16), [], [], none, none⟩,
      ⟨some 7, .mv (.t 17), [], [], none, none⟩])
  (g_rate_Parse.c2)
def g_rate_Parse.code : ACode :=
  .seq (.region [0] (some []) none
     [⟨some 2, .mv (.c (.d (.int .i64 0))), [], [], none, none⟩,
      ⟨some 3, .mv (.c (.d (.bool false))), [], [], none, none⟩])
  (.seq (.region [4, 5] (some []) none
      [⟨some 9, .mv (.t 0), [], [], none, none⟩,
       ⟨some 10, .call 101 [(.t 9), (.c (.d (.str [37])))], [], [], none, none⟩,
       ⟨some 8, .mv (.t 10), [], [], none, none⟩,
       ⟨some 11, .ext (.t 8) 0, [], [], none, none⟩,
       ⟨some 12, .ext (.t 8) 1, [], [], none, none⟩,
       ⟨some 4, .mv (.t 11), [], [], none, none⟩,
       ⟨some 5, .mv (.t 12), [], [], none, none⟩])
   (g_rate_Parse.c3))
def g_rate_Parse : AFn := { N := 30, res := [.slot 2, .slot 3], own := [], frz := [], code := g_rate_Parse.code }
def g_ref03_Parse.o1 : List AOper :=
  [⟨some 17, .pick (.t 12) (.t 16) (.c (.d (.bool false))), [], [], none, none⟩]
def g_ref03_Parse.o0 : List AOper :=
  (⟨some 13, .mv (.t 4), [], [], (some (3, 12, true)), none⟩ ::
     ⟨some 14, .call 94 [(.t 13)], [], [], (some (3, 12, true)), none⟩ ::
     ⟨some 15, .mv (.t 0), [], [], (some (3, 12, true)), none⟩ ::
     ⟨some 16, .bin .eql (.t 14) (.t 15), [], [], (some (3, 12, true)), (some ([0, 4, 12, 16], (some [])))⟩ ::
     g_ref03_Parse.o1)
def g_ref03_Parse.c0 : ACode :=
  .cond (.t 17) (.seq (.region [2, 3] (some []) none
      [⟨some 18, .mv (.t 4), [], [], none, none⟩,
       ⟨some 2, .mv (.t 18), [], [], none, none⟩,
       ⟨some 3, .mv (.c (.d (.bool true))), [], [], none, none⟩])
   (.ret))
  (.skip)
def g_ref03_Parse.c1 : ACode :=
  .region [0, 4] (some []) none
    [⟨some 7, .mv (.t 4), [], [], none, none⟩,
     ⟨some 8, .bin .add (.t 7) (.c (.d (.int .i64 1))), [], [], none, none⟩,
     ⟨some 4, .mv (.t 8), [], [], none, none⟩]
def g_ref03_Parse.l0 : ACode :=
  .loop [0, 4] (some []) (.seq (.seq (.region [0, 4, 6] (some []) none
      [⟨some 5, .mv (.t 4), [], [], none, none⟩,
       ⟨some 6, .bin .leq (.t 5) (.c (.d (.int .i64 10000))), [], [], none, none⟩])
   (.cond (.t 6) (.skip)
    (.exit 0)))
  (.seq (.block 1 [0, 4] (some []) (.seq (.region [0, 4, 17] (some []) none
        (⟨some 9, .mv (.t 0), [], [], none, none⟩ ::
         ⟨some 10, .lenS (.t 9), [], [], none, none⟩ ::
         ⟨some 11, .bin .lss (.t 10) (.c (.d (.int .i64 9))), [], [], none, none⟩ ::
         ⟨some 12, .mv (.t 11), [], [], none, (some ([0, 4, 12], (some [])))⟩ ::
         g_ref03_Parse.o0))
     (g_ref03_Parse.c0)))
   (g_ref03_Parse.c1)))
def g_ref03_Parse.c2 : ACode :=
  .seq (.region [2, 3] (some []) none
     [⟨some 2, .mv (.c (.d (.int .i64 0))), [], [], none, none⟩,
      ⟨some 3, .mv (.c (.d (.bool false))), [], [], none, none⟩])
  (.ret)
def g_ref03_Parse.code : ACode :=
  .seq (.region [0] (some []) none
     [⟨some 2, .mv (.c (.d (.int .i64 0))), [], [], none, none⟩,
      ⟨some 3, .mv (.c (.d (.bool false))), [], [], none, none⟩])
  (.seq (.seq (.region [0, 4] (some []) none
       [⟨some 4, .mv (.c (.d (.int .i64 0))), [], [], none, none⟩])
    (.block 0 [] (some []) (g_ref03_Parse.l0)))
   (g_ref03_Parse.c2))
def g_ref03_Parse : AFn := { N := 19, res := [.slot 2, .slot 3], own := [], frz := [], code := g_ref03_Parse.code }
def g_ref03_Text.code : ACode :=
  .seq (.region [0] (some []) none
     [⟨some 2, .mv (.c (.d (.str []))), [], [], none, none⟩])
  (.seq (.region [2] (some []) none
      [⟨some 3, .mv (.t 0), [], [], none, none⟩,
       ⟨some 4, .call 54 [(.t 3)], [], [], none, none⟩,
       ⟨some 5, .bin .add (.t 4) (.c (.d (.str [37]))), [], [], none, none⟩,
       ⟨some 2, .mv (.t 5), [], [], none, none⟩])
   (.ret))
def g_ref03_Text : AFn := { N := 6, res := [.slot 2], own := [], frz := [], code := g_ref03_Text.code }
def g_lex_run.o1 : List AOper :=
  [⟨some 19, .pick (.t 13) (.t 18) (.c (.d (.bool false))), [], [], none, none⟩]
def g_lex_run.o0 : List AOper :=
  (⟨some 14, .mv (.t 2), [], [], (some (4, 13, true)), none⟩ ::
     ⟨some 15, .mv (.t 0), [], [], (some (4, 13, true)), none⟩ ::
     ⟨some 16, .mv (.t 7), [], [], (some (4, 13, true)), none⟩ ::
     ⟨some 17, .idx (.t 15) (.t 16), [], [], (some (4, 13, true)), none⟩ ::
     ⟨some 18, .callv (.t 14) [(.t 17)], [], [], (some (4, 13, true)), (some ([0, 1, 2, 7, 13, 18], none))⟩ ::
     g_lex_run.o1)
def g_lex_run.c0 : ACode :=
  .cond (.t 19) (.skip)
  (.exit 0)
def g_lex_run.c1 : ACode :=
  .block 1 [0, 1, 2, 7] none (.region [0, 1, 2, 7] none none
     [⟨some 20, .mv (.t 7), [], [], none, none⟩,
      ⟨some 21, .bin .add (.t 20) (.c (.d (.int .i64 1))), [], [], none, none⟩,
      ⟨some 7, .mv (.t 21), [], [], none, none⟩])
def g_lex_run.l0 : ACode :=
  .loop [0, 1, 2, 7] none (.seq (.seq (.region [0, 1, 2, 7, 19] none none
      (⟨some 9, .mv (.t 7), [], [], none, none⟩ ::
       ⟨some 10, .mv (.t 0), [], [], none, none⟩ ::
       ⟨some 11, .lenS (.t 10), [], [], none, none⟩ ::
       ⟨some 12, .bin .lss (.t 9) (.t 11), [], [], none, none⟩ ::
       ⟨some 13, .mv (.t 12), [], [], none, (some ([0, 1, 2, 7, 13], none))⟩ ::
       g_lex_run.o0))
   (g_lex_run.c0))
  (g_lex_run.c1))
def g_lex_run.c2 : ACode :=
  .seq (.region [6] none none
     [⟨some 22, .mv (.t 7), [], [], none, none⟩,
      ⟨some 23, .mv (.t 1), [], [], none, none⟩,
      ⟨some 24, .bin .sub (.t 22) (.t 23), [], [], none, none⟩,
      ⟨some 6, .mv (.t 24), [], [], none, none⟩])
  (.ret)
def g_lex_run.code : ACode :=
  .seq (.region [0, 1, 2] none none
     [⟨some 6, .mv (.c (.d (.int .i64 0))), [], [], none, none⟩])
  (.seq (.region [0, 1, 2, 7] none none
      [⟨some 8, .mv (.t 1), [], [], none, none⟩,
       ⟨some 7, .mv (.t 8), [], [], none, none⟩])
   (.seq (.block 0 [1, 7] none (g_lex_run.l0))
    (g_lex_run.c2)))
def g_lex_run : AFn := { N := 25, res := [.slot 6], own := [], frz := [], code := g_lex_run.code }
def g_lex_All_1.code : ACode :=
  .seq (.region [0] (some []) none
     [⟨some 2, .mv (.c (.d (.bool false))), [], [], none, none⟩])
  (.seq (.region [2] (some []) none
      [⟨some 3, .mv (.t 0), [], [], none, none⟩,
       ⟨some 4, .bin .neq (.t 3) (.c (.d (.int .u8 10))), [], [], none, none⟩,
       ⟨some 2, .mv (.t 4), [], [], none, none⟩])
   (.ret))
def g_lex_All_1 : AFn := { N := 5, res := [.slot 2], own := [], frz := [], code := g_lex_All_1.code }
def g_lex_one.c0 : ACode :=
  .seq (.region [4, 5] (some []) none
     [⟨some 21, .mv (.t 7), [], [], none, none⟩,
      ⟨some 4, .mv (.c (.d (.int .i64 1))), [], [], none, none⟩,
      ⟨some 5, .mv (.t 21), [], [], none, none⟩])
  (.ret)
def g_lex_one.c1 : ACode :=
  .seq (.seq (.region [7, 20] (some []) none
      [⟨some 19, .mv (.t 7), [], [], none, none⟩,
       ⟨some 20, .bin .gtr (.t 19) (.c (.d (.int .i64 12))), [], [], none, none⟩])
   (.cond (.t 20) (.seq (.region [4, 5] (some []) none
        [⟨some 4, .mv (.c (.d (.int .i64 0))), [], [], none, none⟩,
         ⟨some 5, .mv (.c (.d (.int .i64 0))), [], [], none, none⟩])
     (.ret))
    (.skip)))
  (g_lex_one.c0)
def g_lex_one.c2 : ACode :=
  .seq (.region [4, 5] (some []) none
     [⟨some 28, .mv (.t 0), [], [], none, none⟩,
      ⟨some 29, .mv (.t 1), [], [], none, none⟩,
      ⟨some 30, .mv (.t 1), [], [], none, none⟩,
      ⟨some 31, .mv (.t 8), [], [], none, none⟩,
      ⟨some 32, .bin .add (.t 30) (.t 31), [], [], none, none⟩,
      ⟨some 33, .slcS (.t 28) (some (.t 29)) (some (.t 32)), [], [], none, none⟩,
      ⟨some 34, .call 109 [(.t 33)], [], [], none, none⟩,
      ⟨some 35, .mv (.t 8), [], [], none, none⟩,
      ⟨some 4, .mv (.t 34), [], [], none, none⟩,
      ⟨some 5, .mv (.t 35), [], [], none, none⟩])
  (.ret)
def g_lex_one.c3 : ACode :=
  .block 0 [0, 1] (some []) (.seq (.region [0, 1, 6, 13] (some []) none
      [⟨some 14, .mv (.t 6), [], [], none, none⟩,
       ⟨some 15, .call 105 [(.t 14)], [], [], none, none⟩,
       ⟨some 13, .mv (.t 15), [], [], none, none⟩])
   (.cond (.t 13) (.seq (.region [7] (some []) none
        [⟨some 16, .mv (.t 0), [], [], none, none⟩,
         ⟨some 17, .mv (.t 1), [], [], none, none⟩,
         ⟨some 18, .call 102 [(.t 16), (.t 17), (.f 106)], [], [], none, none⟩,
         ⟨some 7, .mv (.t 18), [], [], none, none⟩])
     (g_lex_one.c1))
    (.seq (.region [0, 1, 22] (some []) none
        [⟨some 23, .mv (.t 6), [], [], none, none⟩,
         ⟨some 24, .call 107 [(.t 23)], [], [], none, none⟩,
         ⟨some 22, .mv (.t 24), [], [], none, none⟩])
     (.cond (.t 22) (.seq (.region [0, 1, 8] (some []) none
          [⟨some 25, .mv (.t 0), [], [], none, none⟩,
           ⟨some 26, .mv (.t 1), [], [], none, none⟩,
           ⟨some 27, .call 102 [(.t 25), (.t 26), (.f 108)], [], [], none, none⟩,
           ⟨some 8, .mv (.t 27), [], [], none, none⟩])
       (g_lex_one.c2))
      (.skip)))))
def g_lex_one.c4 : ACode :=
  .seq (.region [4, 5] (some []) none
     [⟨some 42, .mv (.t 9), [], [], none, none⟩,
      ⟨some 4, .mv (.c (.d (.int .i64 5))), [], [], none, none⟩,
      ⟨some 5, .mv (.t 42), [], [], none, none⟩])
  (.ret)
def g_lex_one.c5 : ACode :=
  .seq (.seq (.region [9, 41] (some []) none
      [⟨some 40, .mv (.t 9), [], [], none, none⟩,
       ⟨some 41, .bin .eql (.t 40) (.c (.d (.int .i64 0))), [], [], none, none⟩])
   (.cond (.t 41) (.seq (.region [4, 5] (some []) none
        [⟨some 4, .mv (.c (.d (.int .i64 0))), [], [], none, none⟩,
         ⟨some 5, .mv (.c (.d (.int .i64 0))), [], [], none, none⟩])
     (.ret))
    (.skip)))
  (g_lex_one.c4)
def g_lex_one.c6 : ACode :=
  .seq (.region [9] (some []) none
     [⟨some 36, .mv (.t 0), [], [], none, none⟩,
      ⟨some 37, .mv (.t 1), [], [], none, none⟩,
      ⟨some 38, .slcS (.t 36) (some (.t 37)) none, [], [], none, none⟩,
      ⟨some 39, .call 110 [(.t 38)], [], [], none, none⟩,
      ⟨some 9, .mv (.t 39), [], [], none, none⟩])
  (g_lex_one.c5)
def g_lex_one.code : ACode :=
  .seq (.region [0, 1] (some []) none
     [⟨some 4, .mv (.c (.d (.int .i64 0))), [], [], none, none⟩,
      ⟨some 5, .mv (.c (.d (.int .i64 0))), [], [], none, none⟩])
  (.seq (.seq (.region [0, 1, 6] (some []) none
       [⟨some 10, .mv (.t 0), [], [], none, none⟩,
        ⟨some 11, .mv (.t 1), [], [], none, none⟩,
        ⟨some 12, .idx (.t 10) (.t 11), [], [], none, none⟩,
        ⟨some 6, .mv (.t 12), [], [], none, none⟩])
    (g_lex_one.c3))
   (g_lex_one.c6))
def g_lex_one : AFn := { N := 43, res := [.slot 4, .slot 5], own := [], frz := [], code := g_lex_one.code }
def g_ref07_in.c0 : ACode :=
  .region [0, 1, 5] (some []) none
    [⟨some 10, .mv (.t 5), [], [], none, none⟩,
     ⟨some 11, .bin .add (.t 10) (.c (.d (.int .i64 1))), [], [], none, none⟩,
     ⟨some 5, .mv (.t 11), [], [], none, none⟩]
def g_ref07_in.c1 : ACode :=
  .seq (.block 1 [0, 1, 5] (some []) (.seq (.region [0, 1, 5, 16] (some []) none
       [⟨some 12, .mv (.t 1), [], [], none, none⟩,
        ⟨some 13, .mv (.t 5), [], [], none, none⟩,
        ⟨some 14, .idx (.t 12) (.t 13), [], [], none, none⟩,
        ⟨some 15, .mv (.t 0), [], [], none, none⟩,
        ⟨some 16, .bin .eql (.t 14) (.t 15), [], [], none, none⟩])
    (.cond (.t 16) (.seq (.region [4] (some []) none
         [⟨some 4, .mv (.c (.d (.bool true))), [], [], none, none⟩])
      (.ret))
     (.skip))))
  (g_ref07_in.c0)
def g_ref07_in.l0 : ACode :=
  .loop [0, 1, 5] (some []) (.seq (.seq (.region [0, 1, 5, 9] (some []) none
      [⟨some 6, .mv (.t 5), [], [], none, none⟩,
       ⟨some 7, .mv (.t 1), [], [], none, none⟩,
       ⟨some 8, .lenS (.t 7), [], [], none, none⟩,
       ⟨some 9, .bin .lss (.t 6) (.t 8), [], [], none, none⟩])
   (.cond (.t 9) (.skip)
    (.exit 0)))
  (g_ref07_in.c1))
def g_ref07_in.c2 : ACode :=
  .seq (.region [4] (some []) none
     [⟨some 4, .mv (.c (.d (.bool false))), [], [], none, none⟩])
  (.ret)
def g_ref07_in.code : ACode :=
  .seq (.region [0, 1] (some []) none
     [⟨some 4, .mv (.c (.d (.bool false))), [], [], none, none⟩])
  (.seq (.seq (.region [0, 1, 5] (some []) none
       [⟨some 5, .mv (.c (.d (.int .i64 0))), [], [], none, none⟩])
    (.block 0 [] (some []) (g_ref07_in.l0)))
   (g_ref07_in.c2))
def g_ref07_in : AFn := { N := 17, res := [.slot 4], own := [], frz := [], code := g_ref07_in.code }
def g_ref07_end.o1 : List AOper :=
  [⟨some 17, .pick (.t 11) (.t 16) (.c (.d (.bool false))), [], [], none, none⟩]
def g_ref07_end.o0 : List AOper :=
  (⟨some 12, .mv (.t 0), [], [], (some (4, 11, true)), none⟩ ::
     ⟨some 13, .mv (.t 1), [], [], (some (4, 11, true)), none⟩ ::
     ⟨some 14, .idx (.t 12) (.t 13), [], [], (some (4, 11, true)), none⟩ ::
     ⟨some 15, .mv (.t 2), [], [], (some (4, 11, true)), none⟩ ::
     ⟨some 16, .call 96 [(.t 14), (.t 15)], [], [], (some (4, 11, true)), (some ([0, 1, 2, 11, 16], (some [])))⟩ ::
     g_ref07_end.o1)
def g_ref07_end.c0 : ACode :=
  .cond (.t 17) (.skip)
  (.exit 0)
def g_ref07_end.c1 : ACode :=
  .block 1 [0, 1, 2] (some []) (.region [0, 1, 2] (some []) none
     [⟨some 18, .mv (.t 1), [], [], none, none⟩,
      ⟨some 19, .bin .add (.t 18) (.c (.d (.int .i64 1))), [], [], none, none⟩,
      ⟨some 1, .mv (.t 19), [], [], none, none⟩])
def g_ref07_end.l0 : ACode :=
  .loop [0, 1, 2] (some []) (.seq (.seq (.region [0, 1, 2, 17] (some []) none
      (⟨some 7, .mv (.t 1), [], [], none, none⟩ ::
       ⟨some 8, .mv (.t 0), [], [], none, none⟩ ::
       ⟨some 9, .lenS (.t 8), [], [], none, none⟩ ::
       ⟨some 10, .bin .lss (.t 7) (.t 9), [], [], none, none⟩ ::
       ⟨some 11, .mv (.t 10), [], [], none, (some ([0, 1, 2, 11], (some [])))⟩ ::
       g_ref07_end.o0))
   (g_ref07_end.c0))
  (g_ref07_end.c1))
def g_ref07_end.c2 : ACode :=
  .seq (.region [6] (some []) none
     [⟨some 20, .mv (.t 1), [], [], none, none⟩,
      ⟨some 6, .mv (.t 20), [], [], none, none⟩])
  (.ret)
def g_ref07_end.code : ACode :=
  .seq (.region [0, 1, 2] (some []) none
     [⟨some 6, .mv (.c (.d (.int .i64 0))), [], [], none, none⟩])
  (.seq (.block 0 [1] (some []) (g_ref07_end.l0))
   (g_ref07_end.c2))
def g_ref07_end : AFn := { N := 21, res := [.slot 6], own := [], frz := [], code := g_ref07_end.code }
def g_ref07_kind.c0 : ACode :=
  .seq (.seq (.region [0, 6, 17] (some []) none
      [⟨some 17, .mv (.t 4), [], [], none, none⟩])
   (.cond (.t 17) (.seq (.region [2] (some []) none
        [⟨some 2, .mv (.c (.d (.int .i64 3))), [], [], none, none⟩])
     (.ret))
    (.skip)))
  (.seq (.seq (.region [0, 18] (some []) none
       [⟨some 18, .mv (.t 6), [], [], none, none⟩])
    (.cond (.t 18) (.seq (.region [2] (some []) none
         [⟨some 2, .mv (.c (.d (.int .i64 4))), [], [], none, none⟩])
      (.ret))
     (.skip)))
   (.seq (.seq (.region [20] (some []) none
        [⟨some 19, .mv (.t 0), [], [], none, none⟩,
         ⟨some 20, .call 111 [(.t 19)], [], [], none, none⟩])
     (.cond (.t 20) (.seq (.region [2] (some []) none
          [⟨some 2, .mv (.c (.d (.int .i64 2))), [], [], none, none⟩])
       (.ret))
      (.skip)))
    (.seq (.region [2] (some []) none
        [⟨some 2, .mv (.c (.d (.int .i64 0))), [], [], none, none⟩])
     (.ret))))
def g_ref07_kind.c1 : ACode :=
  .seq (.region [0, 4, 6] (some []) none
     [⟨some 13, .mv (.t 0), [], [], none, none⟩,
      ⟨some 14, .call 93 [(.t 13)], [], [], none, none⟩,
      ⟨some 12, .mv (.t 14), [], [], none, none⟩,
      ⟨some 15, .ext (.t 12) 0, [], [], none, none⟩,
      ⟨some 16, .ext (.t 12) 1, [], [], none, none⟩,
      ⟨some 5, .mv (.t 15), [], [], none, none⟩,
      ⟨some 6, .mv (.t 16), [], [], none, none⟩])
  (g_ref07_kind.c0)
def g_ref07_kind.code : ACode :=
  .seq (.region [0] (some []) none
     [⟨some 2, .mv (.c (.d (.int .i64 0))), [], [], none, none⟩])
  (.seq (.region [0, 4] (some []) none
      [⟨some 8, .mv (.t 0), [], [], none, none⟩,
       ⟨some 9, .call 52 [(.t 8)], [], [], none, none⟩,
       ⟨some 7, .mv (.t 9), [], [], none, none⟩,
       ⟨some 10, .ext (.t 7) 0, [], [], none, none⟩,
       ⟨some 11, .ext (.t 7) 1, [], [], none, none⟩,
       ⟨some 3, .mv (.t 10), [], [], none, none⟩,
       ⟨some 4, .mv (.t 11), [], [], none, none⟩])
   (g_ref07_kind.c1))
def g_ref07_kind : AFn := { N := 21, res := [.slot 2], own := [], frz := [], code := g_ref07_kind.code }
def g_money_Text.c0 : ACode :=
  .seq (.region [2, 3] (some []) (some ([0, 1, 2, 3, 4, 5, 6, 7, 8, 9, 10], .done))
     [⟨some 17, .mv (.t 4), [], [], none, none⟩,
      ⟨some 18, .mv (.t 0), [], [], none, none⟩,
      ⟨some 19, .bin .quo (.t 18) (.c (.d (.int .i64 100))), [], [1], none, none⟩,
      ⟨some 20, .call 68 [(.t 19)], [], [2], none, none⟩,
      ⟨some 21, .bin .add (.t 17) (.t 20), [], [0, 3], none, none⟩,
      ⟨some 22, .bin .add (.t 21) (.c (.d (.str [46]))), [], [4], none, none⟩,
      ⟨some 23, .mv (.t 5), [], [], none, none⟩,
      ⟨some 24, .slcS (.t 23) (some (.c (.d (.int .i64 1)))) none, [], [6], none, none⟩,
      ⟨some 25, .bin .add (.t 22) (.t 24), [], [5, 7], none, none⟩,
      ⟨some 2, .mv (.t 25), [], [8, 3, 0, 1, 2, 3, 4, 5, 6, 7, 8], none, none⟩,
      ⟨some 3, .mv (.c (.d (.int .i64 0))), [], [9, 0, 1, 2, 3, 4, 5, 6, 7, 8, 9], none, none⟩])
  (.ret)
def g_money_Text.c1 : ACode :=
  .seq (.region [0, 4, 5] (some []) none
     [⟨some 13, .mv (.t 0), [], [], none, none⟩,
      ⟨some 14, .bin .rem (.t 13) (.c (.d (.int .i64 100))), [], [], none, none⟩,
      ⟨some 15, .bin .add (.c (.d (.int .i64 100))) (.t 14), [], [], none, none⟩,
      ⟨some 16, .call 68 [(.t 15)], [], [], none, none⟩,
      ⟨some 5, .mv (.t 16), [], [], none, none⟩])
  (g_money_Text.c0)
def g_money_Text.c2 : ACode :=
  .seq (.region [0, 4] (some []) none
     [⟨some 4, .mv (.c (.d (.str []))), [], [], none, none⟩])
  (.seq (.seq (.region [0, 4, 10] (some []) none
       [⟨some 9, .mv (.t 0), [], [], none, none⟩,
        ⟨some 10, .bin .lss (.t 9) (.c (.d (.int .i64 0))), [], [], none, none⟩])
    (.cond (.t 10) (.region [0, 4] (some []) none
        [⟨some 11, .mv (.t 0), [], [], none, none⟩,
         ⟨some 12, .un .neg (.t 11), [], [], none, none⟩,
         ⟨some 4, .mv (.c (.d (.str [45]))), [], [], none, none⟩,
         ⟨some 0, .mv (.t 12), [], [], none, none⟩])
     (.skip)))
   (g_money_Text.c1))
def g_money_Text.code : ACode :=
  .seq (.region [0] (some []) none
     [⟨some 2, .mv (.c (.d (.str []))), [], [], none, none⟩,
      ⟨some 3, .mv (.c (.d (.int .i64 0))), [], [], none, none⟩])
  (.seq (.seq (.region [0, 8] (some []) none
       [⟨some 6, .mv (.t 0), [], [], none, none⟩,
        ⟨some 7, .call 58 [(.t 6)], [], [], none, none⟩,
        ⟨some 8, .un .not (.t 7), [], [], none, none⟩])
    (.cond (.t 8) (.seq (.region [2, 3] (some []) none
         [⟨some 2, .mv (.c (.d (.str []))), [], [], none, none⟩,
          ⟨some 3, .mv (.c (.d (.int .i64 3))), [], [], none, none⟩])
      (.ret))
     (.skip)))
   (g_money_Text.c2))
def g_money_Text : AFn := { N := 26, res := [.slot 2, .slot 3], own := [], frz := [], code := g_money_Text.code }
def g_strings_CutSuffix.code : ACode :=
  .seq (.region [0, 1] (some []) none
     [⟨some 4, .mv (.c (.d (.str []))), [], [], none, none⟩,
      ⟨some 5, .mv (.c (.d (.bool false))), [], [], none, none⟩])
  (.seq (.region [4, 5] (some []) none
      [⟨some 6, .mv (.t 0), [], [], none, none⟩,
       ⟨some 7, .mv (.t 1), [], [], none, none⟩,
       ⟨some 8, .call 122 [(.t 6), (.t 7)], [], [], none, none⟩,
       ⟨some 9, .ext (.t 8) 0, [], [], none, none⟩,
       ⟨some 10, .ext (.t 8) 1, [], [], none, none⟩,
       ⟨some 4, .mv (.t 9), [], [], none, none⟩,
       ⟨some 5, .mv (.t 10), [], [], none, none⟩])
   (.ret))
def g_strings_CutSuffix : AFn := { N := 11, res := [.slot 4, .slot 5], own := [], frz := [], code := g_strings_CutSuffix.code }
def g_money_Parse.o1 : List AOper :=
  [⟨some 20, .pick (.t 16) (.c (.d (.bool true))) (.t 19), [], [], none, none⟩]
def g_money_Parse.o0 : List AOper :=
  (⟨some 17, .mv (.t 4), [], [], (some (2, 16, false)), none⟩ ::
     ⟨some 18, .call 58 [(.t 17)], [], [], (some (2, 16, false)), none⟩ ::
     ⟨some 19, .un .not (.t 18), [], [], (some (2, 16, false)), (some ([0, 4, 16, 19], (some [])))⟩ ::
     g_money_Parse.o1)
def g_money_Parse.c0 : ACode :=
  .cond (.t 20) (.seq (.region [2, 3] (some []) none
      [⟨some 2, .mv (.c (.d (.int .i64 0))), [], [], none, none⟩,
       ⟨some 3, .mv (.c (.d (.bool false))), [], [], none, none⟩])
   (.ret))
  (.skip)
def g_money_Parse.c1 : ACode :=
  .seq (.region [4, 28] (some []) none
     [⟨some 26, .mv (.t 6), [], [], none, none⟩,
      ⟨some 27, .mv (.t 0), [], [], none, none⟩,
      ⟨some 28, .bin .neq (.t 26) (.t 27), [], [], none, none⟩])
  (.cond (.t 28) (.seq (.region [2, 3] (some []) none
       [⟨some 2, .mv (.c (.d (.int .i64 0))), [], [], none, none⟩,
        ⟨some 3, .mv (.c (.d (.bool false))), [], [], none, none⟩])
    (.ret))
   (.skip))
def g_money_Parse.c2 : ACode :=
  .seq (.region [2, 3] (some []) none
     [⟨some 29, .mv (.t 4), [], [], none, none⟩,
      ⟨some 2, .mv (.t 29), [], [], none, none⟩,
      ⟨some 3, .mv (.c (.d (.bool true))), [], [], none, none⟩])
  (.ret)
def g_money_Parse.c3 : ACode :=
  .seq (.seq (.region [0, 4, 6] (some []) none
      [⟨some 22, .mv (.t 4), [], [], none, none⟩,
       ⟨some 23, .call 50 [(.t 22)], [], [], none, none⟩,
       ⟨some 21, .mv (.t 23), [], [], none, none⟩,
       ⟨some 24, .ext (.t 21) 0, [], [], none, none⟩,
       ⟨some 25, .ext (.t 21) 1, [], [], none, none⟩,
       ⟨some 6, .mv (.t 24), [], [], none, none⟩,
       ⟨some 7, .mv (.t 25), [], [], none, none⟩])
   (g_money_Parse.c1))
  (g_money_Parse.c2)
def g_money_Parse.c4 : ACode :=
  .seq (.seq (.region [0, 4, 20] (some []) none
      (⟨some 14, .mv (.t 5), [], [], none, none⟩ ::
       ⟨some 15, .nilE true (.t 14), [], [], none, none⟩ ::
       ⟨some 16, .mv (.t 15), [], [], none, (some ([0, 4, 16], (some [])))⟩ ::
       g_money_Parse.o0))
   (g_money_Parse.c0))
  (g_money_Parse.c3)
def g_money_Parse.code : ACode :=
  .seq (.region [0] (some []) none
     [⟨some 2, .mv (.c (.d (.int .i64 0))), [], [], none, none⟩,
      ⟨some 3, .mv (.c (.d (.bool false))), [], [], none, none⟩])
  (.seq (.region [0, 4, 5] (some []) none
      [⟨some 9, .mv (.t 0), [], [], none, none⟩,
       ⟨some 10, .call 69 [(.t 9), (.c (.d (.str [46]))), (.c (.d (.str []))), (.c (.d (.int .i64 1)))], [], [], none, none⟩,
       ⟨some 11, .call 70 [(.t 10)], [], [], none, none⟩,
       ⟨some 8, .mv (.t 11), [], [], none, none⟩,
       ⟨some 12, .ext (.t 8) 0, [], [], none, none⟩,
       ⟨some 13, .ext (.t 8) 1, [], [], none, none⟩,
       ⟨some 4, .mv (.t 12), [], [], none, none⟩,
       ⟨some 5, .mv (.t 13), [], [], none, none⟩])
   (g_money_Parse.c4))
def g_money_Parse : AFn := { N := 30, res := [.slot 2, .slot 3], own := [], frz := [], code := g_money_Parse.code }
def g_ref01_Text.c0 : ACode :=
  .seq (.region [2] (some []) none
     [⟨some 9, .mv (.t 0), [], [], none, none⟩,
      ⟨some 10, .bin .quo (.t 9) (.c (.d (.int .i64 100))), [], [], none, none⟩,
      ⟨some 11, .call 71 [(.t 10)], [], [], none, none⟩,
      ⟨some 12, .bin .add (.t 11) (.c (.d (.str [46]))), [], [], none, none⟩,
      ⟨some 13, .mv (.t 0), [], [], none, none⟩,
      ⟨some 14, .bin .rem (.t 13) (.c (.d (.int .i64 100))), [], [], none, none⟩,
      ⟨some 15, .bin .quo (.t 14) (.c (.d (.int .i64 10))), [], [], none, none⟩,
      ⟨some 16, .call 71 [(.t 15)], [], [], none, none⟩,
      ⟨some 17, .bin .add (.t 12) (.t 16), [], [], none, none⟩,
      ⟨some 18, .mv (.t 0), [], [], none, none⟩,
      ⟨some 19, .bin .rem (.t 18) (.c (.d (.int .i64 10))), [], [], none, none⟩,
      ⟨some 20, .call 71 [(.t 19)], [], [], none, none⟩,
      ⟨some 21, .bin .add (.t 17) (.t 20), [], [], none, none⟩,
      ⟨some 2, .mv (.t 21), [], [], none, none⟩])
  (.ret)
def g_ref01_Text.code : ACode :=
  .seq (.region [0] (some []) none
     [⟨some 2, .mv (.c (.d (.str []))), [], [], none, none⟩])
  (.seq (.seq (.region [0, 4] (some []) none
       [⟨some 3, .mv (.t 0), [], [], none, none⟩,
        ⟨some 4, .bin .lss (.t 3) (.c (.d (.int .i64 0))), [], [], none, none⟩])
    (.cond (.t 4) (.seq (.region [2] (some []) none
         [⟨some 5, .mv (.t 0), [], [], none, none⟩,
          ⟨some 6, .un .neg (.t 5), [], [], none, none⟩,
          ⟨some 7, .call 54 [(.t 6)], [], [], none, none⟩,
          ⟨some 8, .bin .add (.c (.d (.str [45]))) (.t 7), [], [], none, none⟩,
          ⟨some 2, .mv (.t 8), [], [], none, none⟩])
      (.ret))
     (.skip)))
   (g_ref01_Text.c0))
def g_ref01_Text : AFn := { N := 22, res := [.slot 2], own := [], frz := [], code := g_ref01_Text.code }
def g_lex_letter.o1 : List AOper :=
  [⟨some 8, .pick (.t 5) (.t 7) (.c (.d (.bool false))), [], [], none, none⟩,
     ⟨some 2, .mv (.t 8), [], [], none, none⟩]
def g_lex_letter.o0 : List AOper :=
  (⟨some 6, .mv (.t 0), [], [], (some (2, 5, true)), none⟩ ::
     ⟨some 7, .bin .leq (.t 6) (.c (.d (.int .u8 122))), [], [], (some (2, 5, true)), (some ([5, 7], (some [])))⟩ ::
     g_lex_letter.o1)
def g_lex_letter.c0 : ACode :=
  .ret
def g_lex_letter.code : ACode :=
  .seq (.region [0] (some []) none
     [⟨some 2, .mv (.c (.d (.bool false))), [], [], none, none⟩])
  (.seq (.region [2] (some []) none
      (⟨some 3, .mv (.t 0), [], [], none, none⟩ ::
       ⟨some 4, .bin .geq (.t 3) (.c (.d (.int .u8 97))), [], [], none, none⟩ ::
       ⟨some 5, .mv (.t 4), [], [], none, (some ([0, 5], (some [])))⟩ ::
       g_lex_letter.o0))
   (g_lex_letter.c0))
def g_lex_letter : AFn := { N := 9, res := [.slot 2], own := [], frz := [], code := g_lex_letter.code }
def g_lex_one_1.o1 : List AOper :=
  [⟨some 8, .pick (.t 5) (.c (.d (.bool true))) (.t 7), [], [], none, none⟩,
     ⟨some 2, .mv (.t 8), [], [], none, none⟩]
def g_lex_one_1.o0 : List AOper :=
  (⟨some 6, .mv (.t 0), [], [], (some (2, 5, false)), none⟩ ::
     ⟨some 7, .call 107 [(.t 6)], [], [], (some (2, 5, false)), (some ([5, 7], (some [])))⟩ ::
     g_lex_one_1.o1)
def g_lex_one_1.c0 : ACode :=
  .ret
def g_lex_one_1.code : ACode :=
  .seq (.region [0] (some []) none
     [⟨some 2, .mv (.c (.d (.bool false))), [], [], none, none⟩])
  (.seq (.region [2] (some []) none
      (⟨some 3, .mv (.t 0), [], [], none, none⟩ ::
       ⟨some 4, .call 105 [(.t 3)], [], [], none, none⟩ ::
       ⟨some 5, .mv (.t 4), [], [], none, (some ([0, 5], (some [])))⟩ ::
       g_lex_one_1.o0))
   (g_lex_one_1.c0))
def g_lex_one_1 : AFn := { N := 9, res := [.slot 2], own := [], frz := [], code := g_lex_one_1.code }
def g_lex_digit.o1 : List AOper :=
  [⟨some 8, .pick (.t 5) (.t 7) (.c (.d (.bool false))), [], [], none, none⟩,
     ⟨some 2, .mv (.t 8), [], [], none, none⟩]
def g_lex_digit.o0 : List AOper :=
  (⟨some 6, .mv (.t 0), [], [], (some (2, 5, true)), none⟩ ::
     ⟨some 7, .bin .leq (.t 6) (.c (.d (.int .u8 57))), [], [], (some (2, 5, true)), (some ([5, 7], (some [])))⟩ ::
     g_lex_digit.o1)
def g_lex_digit.c0 : ACode :=
  .ret
def g_lex_digit.code : ACode :=
  .seq (.region [0] (some []) none
     [⟨some 2, .mv (.c (.d (.bool false))), [], [], none, none⟩])
  (.seq (.region [2] (some []) none
      (⟨some 3, .mv (.t 0), [], [], none, none⟩ ::
       ⟨some 4, .bin .geq (.t 3) (.c (.d (.int .u8 48))), [], [], none, none⟩ ::
       ⟨some 5, .mv (.t 4), [], [], none, (some ([0, 5], (some [])))⟩ ::
       g_lex_digit.o0))
   (g_lex_digit.c0))
def g_lex_digit : AFn := { N := 9, res := [.slot 2], own := [], frz := [], code := g_lex_digit.code }
def g_lex_one_2.o3 : List AOper :=
  [⟨some 12, .pick (.t 9) (.c (.d (.bool true))) (.t 11), [], [], none, none⟩,
     ⟨some 2, .mv (.t 12), [], [], none, none⟩]
def g_lex_one_2.o2 : List AOper :=
  (⟨some 10, .mv (.t 0), [], [], (some (6, 9, false)), none⟩ ::
     ⟨some 11, .bin .eql (.t 10) (.c (.d (.int .u8 37))), [], [], (some (6, 9, false)), (some ([9, 11], (some [])))⟩ ::
     g_lex_one_2.o3)
def g_lex_one_2.o1 : List AOper :=
  (⟨some 8, .pick (.t 5) (.c (.d (.bool true))) (.t 7), [], [], none, none⟩ ::
     ⟨some 9, .mv (.t 8), [], [], none, (some ([0, 9], (some [])))⟩ ::
     g_lex_one_2.o2)
def g_lex_one_2.o0 : List AOper :=
  (⟨some 6, .mv (.t 0), [], [], (some (2, 5, false)), none⟩ ::
     ⟨some 7, .bin .eql (.t 6) (.c (.d (.int .u8 46))), [], [], (some (2, 5, false)), (some ([0, 5, 7], (some [])))⟩ ::
     g_lex_one_2.o1)
def g_lex_one_2.c0 : ACode :=
  .ret
def g_lex_one_2.code : ACode :=
  .seq (.region [0] (some []) none
     [⟨some 2, .mv (.c (.d (.bool false))), [], [], none, none⟩])
  (.seq (.region [2] (some []) none
      (⟨some 3, .mv (.t 0), [], [], none, none⟩ ::
       ⟨some 4, .call 107 [(.t 3)], [], [], none, none⟩ ::
       ⟨some 5, .mv (.t 4), [], [], none, (some ([0, 5], (some [])))⟩ ::
       g_lex_one_2.o0))
   (g_lex_one_2.c0))
def g_lex_one_2 : AFn := { N := 13, res := [.slot 2], own := [], frz := [], code := g_lex_one_2.code }
def g_lex_figure.c0 : ACode :=
  .seq (.region [0, 12] (some []) none
     [⟨some 12, .mv (.t 4), [], [], none, none⟩])
  (.cond (.t 12) (.seq (.region [2] (some []) none
       [⟨some 2, .mv (.c (.d (.int .i64 3))), [], [], none, none⟩])
    (.ret))
   (.skip))
def g_lex_figure.c1 : ACode :=
  .seq (.region [0, 18] (some []) none
     [⟨some 18, .mv (.t 6), [], [], none, none⟩])
  (.cond (.t 18) (.seq (.region [2] (some []) none
       [⟨some 2, .mv (.c (.d (.int .i64 4))), [], [], none, none⟩])
    (.ret))
   (.skip))
def g_lex_figure.o5 : List AOper :=
  [⟨some 37, .pick (.t 29) (.t 36) (.c (.d (.bool false))), [], [], none, none⟩]
def g_lex_figure.o4 : List AOper :=
  (⟨some 36, .pick (.t 32) (.c (.d (.bool true))) (.t 35), [], [], (some (10, 29, true)), (some ([29, 36], (some [])))⟩ ::
     g_lex_figure.o5)
def g_lex_figure.o3 : List AOper :=
  (⟨some 33, .mv (.t 0), [], [], (some (13, 32, false)), none⟩ ::
     ⟨some 34, .idx (.t 33) (.c (.d (.int .i64 0))), [], [], (some (13, 32, false)), none⟩ ::
     ⟨some 35, .bin .neq (.t 34) (.c (.d (.int .u8 48))), [], [], (some (13, 32, false)), (some ([29, 32, 35], (some [])))⟩ ::
     g_lex_figure.o4)
def g_lex_figure.o2 : List AOper :=
  (⟨some 30, .mv (.t 0), [], [], (some (10, 29, true)), none⟩ ::
     ⟨some 31, .bin .eql (.t 30) (.c (.d (.str [48]))), [], [], (some (10, 29, true)), none⟩ ::
     ⟨some 32, .mv (.t 31), [], [], (some (10, 29, true)), (some ([0, 29, 32], (some [])))⟩ ::
     g_lex_figure.o3)
def g_lex_figure.o1 : List AOper :=
  (⟨some 28, .pick (.t 22) (.t 27) (.c (.d (.bool false))), [], [], none, none⟩ ::
     ⟨some 29, .mv (.t 28), [], [], none, (some ([0, 29], (some [])))⟩ ::
     g_lex_figure.o2)
def g_lex_figure.o0 : List AOper :=
  (⟨some 23, .mv (.t 0), [], [], (some (3, 22, true)), none⟩ ::
     ⟨some 24, .call 102 [(.t 23), (.c (.d (.int .i64 0))), (.f 107)], [], [], (some (3, 22, true)), none⟩ ::
     ⟨some 25, .mv (.t 0), [], [], (some (3, 22, true)), none⟩ ::
     ⟨some 26, .lenS (.t 25), [], [], (some (3, 22, true)), none⟩ ::
     ⟨some 27, .bin .eql (.t 24) (.t 26), [], [], (some (3, 22, true)), (some ([0, 22, 27], (some [])))⟩ ::
     g_lex_figure.o1)
def g_lex_figure.c2 : ACode :=
  .cond (.t 37) (.seq (.region [2] (some []) none
      [⟨some 2, .mv (.c (.d (.int .i64 2))), [], [], none, none⟩])
   (.ret))
  (.skip)
def g_lex_figure.c3 : ACode :=
  .seq (.region [2] (some []) none
     [⟨some 2, .mv (.c (.d (.int .i64 0))), [], [], none, none⟩])
  (.ret)
def g_lex_figure.c4 : ACode :=
  .seq (.seq (.region [37] (some []) none
      (⟨some 19, .mv (.t 0), [], [], none, none⟩ ::
       ⟨some 20, .lenS (.t 19), [], [], none, none⟩ ::
       ⟨some 21, .bin .leq (.t 20) (.c (.d (.int .i64 9))), [], [], none, none⟩ ::
       ⟨some 22, .mv (.t 21), [], [], none, (some ([0, 22], (some [])))⟩ ::
       g_lex_figure.o0))
   (g_lex_figure.c2))
  (g_lex_figure.c3)
def g_lex_figure.c5 : ACode :=
  .seq (.seq (.region [0, 6] (some []) none
      [⟨some 14, .mv (.t 0), [], [], none, none⟩,
       ⟨some 15, .call 92 [(.t 14)], [], [], none, none⟩,
       ⟨some 13, .mv (.t 15), [], [], none, none⟩,
       ⟨some 16, .ext (.t 13) 0, [], [], none, none⟩,
       ⟨some 17, .ext (.t 13) 1, [], [], none, none⟩,
       ⟨some 5, .mv (.t 16), [], [], none, none⟩,
       ⟨some 6, .mv (.t 17), [], [], none, none⟩])
   (g_lex_figure.c1))
  (g_lex_figure.c4)
def g_lex_figure.code : ACode :=
  .seq (.region [0] (some []) none
     [⟨some 2, .mv (.c (.d (.int .i64 0))), [], [], none, none⟩])
  (.seq (.seq (.region [0, 4] (some []) none
       [⟨some 8, .mv (.t 0), [], [], none, none⟩,
        ⟨some 9, .call 51 [(.t 8)], [], [], none, none⟩,
        ⟨some 7, .mv (.t 9), [], [], none, none⟩,
        ⟨some 10, .ext (.t 7) 0, [], [], none, none⟩,
        ⟨some 11, .ext (.t 7) 1, [], [], none, none⟩,
        ⟨some 3, .mv (.t 10), [], [], none, none⟩,
        ⟨some 4, .mv (.t 11), [], [], none, none⟩])
    (g_lex_figure.c0))
   (g_lex_figure.c5))
def g_lex_figure : AFn := { N := 38, res := [.slot 2], own := [], frz := [], code := g_lex_figure.code }
def g_lex_sign.c0 : ACode :=
  .region [0, 5, 6, 7] (some []) none
    [⟨some 16, .bin .add (.t 7) (.c (.d (.int .i64 1))), [], [], none, none⟩,
     ⟨some 7, .mv (.t 16), [], [], none, none⟩]
def g_lex_sign.l0 : ACode :=
  .loop [0, 5, 6, 7] (some []) (.seq (.region [0, 5, 6, 7, 8] (some []) none
     [⟨some 8, .bin .lss (.t 7) (.t 6), [], [], none, none⟩])
  (.seq (.cond (.t 8) (.skip)
    (.exit 0))
   (.seq (.block 1 [0, 5, 6, 7] (some []) (.seq (.region [0, 4, 5, 6, 7] (some []) none
         [⟨some 9, .iaddr 1 (.t 5) (.t 7), [], [], none, none⟩,
          ⟨some 10, .load none (.t 9), [], [], none, none⟩,
          ⟨some 4, .mv (.t 10), [], [], none, none⟩])
      (.seq (.region [0, 4, 5, 6, 7, 13] (some []) none
          [⟨some 11, .mv (.t 0), [], [], none, none⟩,
           ⟨some 12, .mv (.t 4), [], [], none, none⟩,
           ⟨some 13, .call 123 [(.t 11), (.t 12)], [], [], none, none⟩])
       (.cond (.t 13) (.seq (.region [2] (some []) none
            [⟨some 14, .mv (.t 4), [], [], none, none⟩,
             ⟨some 15, .lenS (.t 14), [], [], none, none⟩,
             ⟨some 2, .mv (.t 15), [], [], none, none⟩])
         (.ret))
        (.skip)))))
    (g_lex_sign.c0))))
def g_lex_sign.c1 : ACode :=
  .seq (.region [2] (some []) none
     [⟨some 2, .mv (.c (.d (.int .i64 0))), [], [], none, none⟩])
  (.ret)
def g_lex_sign.c2 : ACode :=
  .seq (.seq (.region [20] (some []) none
      [⟨some 17, .mv (.t 0), [], [], none, none⟩,
       ⟨some 18, .idx (.t 17) (.c (.d (.int .i64 0))), [], [], none, none⟩,
       ⟨some 19, .call 124 [(.c (.d (.str [61, 60, 62, 43, 45, 42, 40, 41, 44, 59]))), (.t 18)], [], [], none, none⟩,
       ⟨some 20, .bin .geq (.t 19) (.c (.d (.int .i64 0))), [], [], none, none⟩])
   (.cond (.t 20) (.seq (.region [2] (some []) none
        [⟨some 2, .mv (.c (.d (.int .i64 1))), [], [], none, none⟩])
     (.ret))
    (.skip)))
  (g_lex_sign.c1)
def g_lex_sign.code : ACode :=
  .seq (.region [0] (some []) none
     [⟨some 2, .mv (.c (.d (.int .i64 0))), [], [], none, none⟩])
  (.seq (.seq (.region [0, 5, 6, 7] (some []) none
       [⟨some 5, .bsl none 1 [] 3 [(0, (.c (.d (.str [60, 61])))), (1, (.c (.d (.str [62, 61])))), (2, (.c (.d (.str [60, 62]))))], [], [], none, none⟩,
        ⟨some 6, .len (.t 5), [], [], none, none⟩,
        ⟨some 7, .mv (.c (.d (.int .i64 0))), [], [], none, none⟩])
    (.block 0 [0] (some []) (g_lex_sign.l0)))
   (g_lex_sign.c2))
def g_lex_sign : AFn := { N := 21, res := [.slot 2], own := [], frz := [], code := g_lex_sign.code }
def g_ref01_Parse.o1 : List AOper :=
  [⟨some 18, .pick (.t 14) (.t 17) (.c (.d (.bool false))), [], [], none, none⟩]
def g_ref01_Parse.o0 : List AOper :=
  (⟨some 15, .mv (.t 4), [], [], (some (3, 14, true)), none⟩ ::
     ⟨some 16, .idx (.t 15) (.c (.d (.int .i64 0))), [], [], (some (3, 14, true)), none⟩ ::
     ⟨some 17, .bin .eql (.t 16) (.c (.d (.int .u8 45))), [], [], (some (3, 14, true)), (some ([0, 4, 5, 14, 17], (some [])))⟩ ::
     g_ref01_Parse.o1)
def g_ref01_Parse.c0 : ACode :=
  .cond (.t 18) (.region [0, 4, 5] (some []) none
     [⟨some 19, .mv (.t 4), [], [], none, none⟩,
      ⟨some 20, .slcS (.t 19) (some (.c (.d (.int .i64 1)))) none, [], [], none, none⟩,
      ⟨some 4, .mv (.t 20), [], [], none, none⟩,
      ⟨some 5, .mv (.c (.d (.bool true))), [], [], none, none⟩])
  (.skip)
def g_ref01_Parse.o3 : List AOper :=
  [⟨some 42, .pick (.t 39) (.c (.d (.bool true))) (.t 41), [], [], none, none⟩]
def g_ref01_Parse.o2 : List AOper :=
  (⟨some 40, .mv (.t 8), [], [], (some (2, 39, false)), none⟩ ::
     ⟨some 41, .bin .gtr (.t 40) (.c (.d (.int .u8 57))), [], [], (some (2, 39, false)), (some ([0, 4, 5, 6, 7, 8, 39, 41], (some [])))⟩ ::
     g_ref01_Parse.o3)
def g_ref01_Parse.c1 : ACode :=
  .cond (.t 42) (.seq (.region [2, 3] (some []) none
      [⟨some 2, .mv (.c (.d (.int .i64 0))), [], [], none, none⟩,
       ⟨some 3, .mv (.c (.d (.bool false))), [], [], none, none⟩])
   (.ret))
  (.skip)
def g_ref01_Parse.c2 : ACode :=
  .region [0, 4, 5, 6, 7] (some []) none
    [⟨some 51, .mv (.t 6), [], [], none, none⟩,
     ⟨some 52, .bin .mul (.c (.d (.int .i64 10))) (.t 51), [], [], none, none⟩,
     ⟨some 53, .mv (.t 9), [], [], none, none⟩,
     ⟨some 54, .bin .add (.t 52) (.t 53), [], [], none, none⟩,
     ⟨some 6, .mv (.t 54), [], [], none, none⟩]
def g_ref01_Parse.c3 : ACode :=
  .seq (.seq (.region [0, 4, 5, 6, 7, 9, 50] (some []) none
      [⟨some 46, .mv (.t 6), [], [], none, none⟩,
       ⟨some 47, .mv (.t 9), [], [], none, none⟩,
       ⟨some 48, .bin .sub (.c (.d (.int .i64 9223372036854775807))) (.t 47), [], [], none, none⟩,
       ⟨some 49, .bin .quo (.t 48) (.c (.d (.int .i64 10))), [], [], none, none⟩,
       ⟨some 50, .bin .gtr (.t 46) (.t 49), [], [], none, none⟩])
   (.cond (.t 50) (.seq (.region [2, 3] (some []) none
        [⟨some 2, .mv (.c (.d (.int .i64 0))), [], [], none, none⟩,
         ⟨some 3, .mv (.c (.d (.bool false))), [], [], none, none⟩])
     (.ret))
    (.skip)))
  (g_ref01_Parse.c2)
def g_ref01_Parse.c4 : ACode :=
  .seq (.region [0, 4, 5, 6, 7, 9] (some []) none
     [⟨some 43, .mv (.t 8), [], [], none, none⟩,
      ⟨some 44, .bin .sub (.t 43) (.c (.d (.int .u8 48))), [], [], none, none⟩,
      ⟨some 45, .conv .i64 (.t 44), [], [], none, none⟩,
      ⟨some 9, .mv (.t 45), [], [], none, none⟩])
  (g_ref01_Parse.c3)
def g_ref01_Parse.c5 : ACode :=
  .seq (.seq (.region [0, 4, 5, 6, 7, 8, 42] (some []) none
      (⟨some 37, .mv (.t 8), [], [], none, none⟩ ::
       ⟨some 38, .bin .lss (.t 37) (.c (.d (.int .u8 48))), [], [], none, none⟩ ::
       ⟨some 39, .mv (.t 38), [], [], none, (some ([0, 4, 5, 6, 7, 8, 39], (some [])))⟩ ::
       g_ref01_Parse.o2))
   (g_ref01_Parse.c1))
  (g_ref01_Parse.c4)
def g_ref01_Parse.c6 : ACode :=
  .seq (.seq (.region [0, 4, 5, 6, 7, 8, 34] (some []) none
      [⟨some 30, .mv (.t 7), [], [], none, none⟩,
       ⟨some 31, .mv (.t 4), [], [], none, none⟩,
       ⟨some 32, .lenS (.t 31), [], [], none, none⟩,
       ⟨some 33, .bin .sub (.t 32) (.c (.d (.int .i64 3))), [], [], none, none⟩,
       ⟨some 34, .bin .eql (.t 30) (.t 33), [], [], none, none⟩])
   (.cond (.t 34) (.seq (.seq (.region [0, 4, 5, 6, 7, 36] (some []) none
         [⟨some 35, .mv (.t 8), [], [], none, none⟩,
          ⟨some 36, .bin .neq (.t 35) (.c (.d (.int .u8 46))), [], [], none, none⟩])
      (.cond (.t 36) (.seq (.region [2, 3] (some []) none
           [⟨some 2, .mv (.c (.d (.int .i64 0))), [], [], none, none⟩,
            ⟨some 3, .mv (.c (.d (.bool false))), [], [], none, none⟩])
        (.ret))
       (.skip)))
     (.exit 1))
    (.skip)))
  (g_ref01_Parse.c5)
def g_ref01_Parse.c7 : ACode :=
  .region [0, 4, 5, 6, 7] (some []) none
    [⟨some 25, .mv (.t 7), [], [], none, none⟩,
     ⟨some 26, .bin .add (.t 25) (.c (.d (.int .i64 1))), [], [], none, none⟩,
     ⟨some 7, .mv (.t 26), [], [], none, none⟩]
def g_ref01_Parse.c8 : ACode :=
  .seq (.block 1 [0, 4, 5, 6, 7] (some []) (.seq (.region [0, 4, 5, 6, 7, 8] (some []) none
       [⟨some 27, .mv (.t 4), [], [], none, none⟩,
        ⟨some 28, .mv (.t 7), [], [], none, none⟩,
        ⟨some 29, .idx (.t 27) (.t 28), [], [], none, none⟩,
        ⟨some 8, .mv (.t 29), [], [], none, none⟩])
    (g_ref01_Parse.c6)))
  (g_ref01_Parse.c7)
def g_ref01_Parse.l0 : ACode :=
  .loop [0, 4, 5, 6, 7] (some []) (.seq (.seq (.region [0, 4, 5, 6, 7, 24] (some []) none
      [⟨some 21, .mv (.t 7), [], [], none, none⟩,
       ⟨some 22, .mv (.t 4), [], [], none, none⟩,
       ⟨some 23, .lenS (.t 22), [], [], none, none⟩,
       ⟨some 24, .bin .lss (.t 21) (.t 23), [], [], none, none⟩])
   (.cond (.t 24) (.skip)
    (.exit 0)))
  (g_ref01_Parse.c8))
def g_ref01_Parse.o5 : List AOper :=
  [⟨some 67, .pick (.t 62) (.t 66) (.c (.d (.bool false))), [], [], none, none⟩,
     ⟨some 2, .mv (.t 58), [], [], none, none⟩,
     ⟨some 3, .mv (.t 67), [], [], none, none⟩]
def g_ref01_Parse.o4 : List AOper :=
  (⟨some 63, .mv (.t 6), [], [], (some (4, 62, true)), none⟩ ::
     ⟨some 64, .call 54 [(.t 63)], [], [], (some (4, 62, true)), none⟩ ::
     ⟨some 65, .mv (.t 0), [], [], (some (4, 62, true)), none⟩ ::
     ⟨some 66, .bin .eql (.t 64) (.t 65), [], [], (some (4, 62, true)), (some ([58, 62, 66], (some [])))⟩ ::
     g_ref01_Parse.o5)
def g_ref01_Parse.c9 : ACode :=
  .ret
def g_ref01_Parse.c10 : ACode :=
  .seq (.region [2, 3] (some []) none
     (⟨some 58, .mv (.t 6), [], [], none, none⟩ ::
      ⟨some 59, .mv (.t 4), [], [], none, none⟩ ::
      ⟨some 60, .lenS (.t 59), [], [], none, none⟩ ::
      ⟨some 61, .bin .geq (.t 60) (.c (.d (.int .i64 4))), [], [], none, none⟩ ::
      ⟨some 62, .mv (.t 61), [], [], none, (some ([0, 6, 58, 62], (some [])))⟩ ::
      g_ref01_Parse.o4))
  (g_ref01_Parse.c9)
def g_ref01_Parse.c11 : ACode :=
  .seq (.seq (.region [0, 4, 6, 55] (some []) none
      [⟨some 55, .mv (.t 5), [], [], none, none⟩])
   (.cond (.t 55) (.region [0, 4, 6] (some []) none
       [⟨some 56, .mv (.t 6), [], [], none, none⟩,
        ⟨some 57, .un .neg (.t 56), [], [], none, none⟩,
        ⟨some 6, .mv (.t 57), [], [], none, none⟩])
    (.skip)))
  (g_ref01_Parse.c10)
def g_ref01_Parse.c12 : ACode :=
  .seq (.region [0, 4, 5, 6] (some []) none
     [⟨some 6, .mv (.c (.d (.int .i64 0))), [], [], none, none⟩])
  (.seq (.seq (.region [0, 4, 5, 6, 7] (some []) none
       [⟨some 7, .mv (.c (.d (.int .i64 0))), [], [], none, none⟩])
    (.block 0 [0, 4, 5, 6] (some []) (g_ref01_Parse.l0)))
   (g_ref01_Parse.c11))
def g_ref01_Parse.code : ACode :=
  .seq (.region [0] (some []) none
     [⟨some 2, .mv (.c (.d (.int .i64 0))), [], [], none, none⟩,
      ⟨some 3, .mv (.c (.d (.bool false))), [], [], none, none⟩])
  (.seq (.region [0, 4, 5] (some []) none
      [⟨some 10, .mv (.t 0), [], [], none, none⟩,
       ⟨some 4, .mv (.t 10), [], [], none, none⟩,
       ⟨some 5, .mv (.c (.d (.bool false))), [], [], none, none⟩])
   (.seq (.seq (.region [0, 4, 5, 18] (some []) none
        (⟨some 11, .mv (.t 4), [], [], none, none⟩ ::
         ⟨some 12, .lenS (.t 11), [], [], none, none⟩ ::
         ⟨some 13, .bin .gtr (.t 12) (.c (.d (.int .i64 0))), [], [], none, none⟩ ::
         ⟨some 14, .mv (.t 13), [], [], none, (some ([0, 4, 5, 14], (some [])))⟩ ::
         g_ref01_Parse.o0))
     (g_ref01_Parse.c0))
    (g_ref01_Parse.c12)))
def g_ref01_Parse : AFn := { N := 68, res := [.slot 2, .slot 3], own := [], frz := [], code := g_ref01_Parse.code }
def g_ref07_whole.c0 : ACode :=
  .region [0, 3] (some []) none
    [⟨some 8, .mv (.t 3), [], [], none, none⟩,
     ⟨some 9, .bin .add (.t 8) (.c (.d (.int .i64 1))), [], [], none, none⟩,
     ⟨some 3, .mv (.t 9), [], [], none, none⟩]
def g_ref07_whole.c1 : ACode :=
  .seq (.block 1 [0, 3] (some []) (.seq (.region [0, 3, 14] (some []) none
       [⟨some 10, .mv (.t 0), [], [], none, none⟩,
        ⟨some 11, .mv (.t 3), [], [], none, none⟩,
        ⟨some 12, .idx (.t 10) (.t 11), [], [], none, none⟩,
        ⟨some 13, .call 96 [(.t 12), (.c (.d (.str [48, 49, 50, 51, 52, 53, 54, 55, 56, 57])))], [], [], none, none⟩,
        ⟨some 14, .un .not (.t 13), [], [], none, none⟩])
    (.cond (.t 14) (.seq (.region [2] (some []) none
         [⟨some 2, .mv (.c (.d (.bool false))), [], [], none, none⟩])
      (.ret))
     (.skip))))
  (g_ref07_whole.c0)
def g_ref07_whole.l0 : ACode :=
  .loop [0, 3] (some []) (.seq (.seq (.region [0, 3, 7] (some []) none
      [⟨some 4, .mv (.t 3), [], [], none, none⟩,
       ⟨some 5, .mv (.t 0), [], [], none, none⟩,
       ⟨some 6, .lenS (.t 5), [], [], none, none⟩,
       ⟨some 7, .bin .lss (.t 4) (.t 6), [], [], none, none⟩])
   (.cond (.t 7) (.skip)
    (.exit 0)))
  (g_ref07_whole.c1))
def g_ref07_whole.o5 : List AOper :=
  [⟨some 32, .pick (.t 23) (.t 31) (.c (.d (.bool false))), [], [], none, none⟩,
     ⟨some 2, .mv (.t 32), [], [], none, none⟩]
def g_ref07_whole.o4 : List AOper :=
  (⟨some 31, .pick (.t 27) (.c (.d (.bool true))) (.t 30), [], [], (some (8, 23, true)), (some ([23, 31], (some [])))⟩ ::
     g_ref07_whole.o5)
def g_ref07_whole.o3 : List AOper :=
  (⟨some 28, .mv (.t 0), [], [], (some (12, 27, false)), none⟩ ::
     ⟨some 29, .idx (.t 28) (.c (.d (.int .i64 0))), [], [], (some (12, 27, false)), none⟩ ::
     ⟨some 30, .bin .neq (.t 29) (.c (.d (.int .u8 48))), [], [], (some (12, 27, false)), (some ([23, 27, 30], (some [])))⟩ ::
     g_ref07_whole.o4)
def g_ref07_whole.o2 : List AOper :=
  (⟨some 24, .mv (.t 0), [], [], (some (8, 23, true)), none⟩ ::
     ⟨some 25, .lenS (.t 24), [], [], (some (8, 23, true)), none⟩ ::
     ⟨some 26, .bin .eql (.t 25) (.c (.d (.int .i64 1))), [], [], (some (8, 23, true)), none⟩ ::
     ⟨some 27, .mv (.t 26), [], [], (some (8, 23, true)), (some ([0, 23, 27], (some [])))⟩ ::
     g_ref07_whole.o3)
def g_ref07_whole.o1 : List AOper :=
  (⟨some 22, .pick (.t 18) (.t 21) (.c (.d (.bool false))), [], [], none, none⟩ ::
     ⟨some 23, .mv (.t 22), [], [], none, (some ([0, 23], (some [])))⟩ ::
     g_ref07_whole.o2)
def g_ref07_whole.o0 : List AOper :=
  (⟨some 19, .mv (.t 0), [], [], (some (3, 18, true)), none⟩ ::
     ⟨some 20, .lenS (.t 19), [], [], (some (3, 18, true)), none⟩ ::
     ⟨some 21, .bin .lss (.t 20) (.c (.d (.int .i64 10))), [], [], (some (3, 18, true)), (some ([0, 18, 21], (some [])))⟩ ::
     g_ref07_whole.o1)
def g_ref07_whole.c2 : ACode :=
  .ret
def g_ref07_whole.c3 : ACode :=
  .seq (.region [2] (some []) none
     (⟨some 15, .mv (.t 0), [], [], none, none⟩ ::
      ⟨some 16, .lenS (.t 15), [], [], none, none⟩ ::
      ⟨some 17, .bin .gtr (.t 16) (.c (.d (.int .i64 0))), [], [], none, none⟩ ::
      ⟨some 18, .mv (.t 17), [], [], none, (some ([0, 18], (some [])))⟩ ::
      g_ref07_whole.o0))
  (g_ref07_whole.c2)
def g_ref07_whole.code : ACode :=
  .seq (.region [0] (some []) none
     [⟨some 2, .mv (.c (.d (.bool false))), [], [], none, none⟩])
  (.seq (.seq (.region [0, 3] (some []) none
       [⟨some 3, .mv (.c (.d (.int .i64 0))), [], [], none, none⟩])
    (.block 0 [0] (some []) (g_ref07_whole.l0)))
   (g_ref07_whole.c3))
def g_ref07_whole : AFn := { N := 33, res := [.slot 2], own := [], frz := [], code := g_ref07_whole.code }
def g_money_Right.code : ACode :=
  .seq (.region [0] (some []) none
     [⟨some 2, .mv (.c (.d (.bool false))), [], [], none, none⟩])
  (.seq (.region [2] (some []) none
      [⟨some 3, .mv (.t 0), [], [], none, none⟩,
       ⟨some 4, .bin .geq (.t 3) (.c (.d (.int .i64 (-9223372036854775807)))), [], [], none, none⟩,
       ⟨some 2, .mv (.t 4), [], [], none, none⟩])
   (.ret))
def g_money_Right : AFn := { N := 5, res := [.slot 2], own := [], frz := [], code := g_money_Right.code }
def g_internal_stringslite_CutSuffix.c0 : ACode :=
  .seq (.region [4, 5] (some []) none
     [⟨some 11, .mv (.t 0), [], [], none, none⟩,
      ⟨some 12, .mv (.t 0), [], [], none, none⟩,
      ⟨some 13, .lenS (.t 12), [], [], none, none⟩,
      ⟨some 14, .mv (.t 1), [], [], none, none⟩,
      ⟨some 15, .lenS (.t 14), [], [], none, none⟩,
      ⟨some 16, .bin .sub (.t 13) (.t 15), [], [], none, none⟩,
      ⟨some 17, .slcS (.t 11) none (some (.t 16)), [], [], none, none⟩,
      ⟨some 4, .mv (.t 17), [], [], none, none⟩,
      ⟨some 5, .mv (.c (.d (.bool true))), [], [], none, none⟩])
  (.ret)
def g_internal_stringslite_CutSuffix.code : ACode :=
  .seq (.region [0, 1] (some []) none
     [⟨some 4, .mv (.c (.d (.str []))), [], [], none, none⟩,
      ⟨some 5, .mv (.c (.d (.bool false))), [], [], none, none⟩])
  (.seq (.seq (.region [0, 1, 9] (some []) none
       [⟨some 6, .mv (.t 0), [], [], none, none⟩,
        ⟨some 7, .mv (.t 1), [], [], none, none⟩,
        ⟨some 8, .call 141 [(.t 6), (.t 7)], [], [], none, none⟩,
        ⟨some 9, .un .not (.t 8), [], [], none, none⟩])
    (.cond (.t 9) (.seq (.region [4, 5] (some []) none
         [⟨some 10, .mv (.t 0), [], [], none, none⟩,
          ⟨some 4, .mv (.t 10), [], [], none, none⟩,
          ⟨some 5, .mv (.c (.d (.bool false))), [], [], none, none⟩])
      (.ret))
     (.skip)))
   (g_internal_stringslite_CutSuffix.c0))
def g_internal_stringslite_CutSuffix : AFn := { N := 18, res := [.slot 4, .slot 5], own := [], frz := [], code := g_internal_stringslite_CutSuffix.code }
def g_ref01_Digits.l0 : ACode :=
  .loop [0, 3] (some []) (.seq (.seq (.region [0, 3, 11] (some []) none
      [⟨some 10, .mv (.t 0), [], [], none, none⟩,
       ⟨some 11, .bin .gtr (.t 10) (.c (.d (.int .i64 9))), [], [], none, none⟩])
   (.cond (.t 11) (.skip)
    (.exit 0)))
  (.block 1 [0, 3] (some []) (.seq (.region [0, 3] (some []) none
       [⟨some 12, .mv (.t 0), [], [], none, none⟩,
        ⟨some 13, .bin .quo (.t 12) (.c (.d (.int .i64 10))), [], [], none, none⟩,
        ⟨some 0, .mv (.t 13), [], [], none, none⟩])
    (.region [0, 3] (some []) none
       [⟨some 14, .mv (.t 0), [], [], none, none⟩,
        ⟨some 15, .bin .rem (.t 14) (.c (.d (.int .i64 10))), [], [], none, none⟩,
        ⟨some 16, .bin .add (.c (.d (.int .i64 48))) (.t 15), [], [], none, none⟩,
        ⟨some 17, .conv .u8 (.t 16), [], [], none, none⟩,
        ⟨some 18, .bsl none 1 [] 1 [(0, (.t 17))], [], [], none, none⟩,
        ⟨some 19, .bstr (.t 18), [], [], none, none⟩,
        ⟨some 20, .mv (.t 3), [], [], none, none⟩,
        ⟨some 21, .bin .add (.t 19) (.t 20), [], [], none, none⟩,
        ⟨some 3, .mv (.t 21), [], [], none, none⟩]))))
def g_ref01_Digits.c0 : ACode :=
  .seq (.region [2] (some []) none
     [⟨some 22, .mv (.t 3), [], [], none, none⟩,
      ⟨some 2, .mv (.t 22), [], [], none, none⟩])
  (.ret)
def g_ref01_Digits.c1 : ACode :=
  .seq (.block 0 [3] (some []) (g_ref01_Digits.l0))
  (g_ref01_Digits.c0)
def g_ref01_Digits.code : ACode :=
  .seq (.region [0] (some []) none
     [⟨some 2, .mv (.c (.d (.str []))), [], [], none, none⟩])
  (.seq (.region [0, 3] (some []) none
      [⟨some 4, .mv (.t 0), [], [], none, none⟩,
       ⟨some 5, .bin .rem (.t 4) (.c (.d (.int .i64 10))), [], [], none, none⟩,
       ⟨some 6, .bin .add (.c (.d (.int .i64 48))) (.t 5), [], [], none, none⟩,
       ⟨some 7, .conv .u8 (.t 6), [], [], none, none⟩,
       ⟨some 8, .bsl none 1 [] 1 [(0, (.t 7))], [], [], none, none⟩,
       ⟨some 9, .bstr (.t 8), [], [], none, none⟩,
       ⟨some 3, .mv (.t 9), [], [], none, none⟩])
   (g_ref01_Digits.c1))
def g_ref01_Digits : AFn := { N := 23, res := [.slot 2], own := [], frz := [], code := g_ref01_Digits.code }
def g_strings_HasPrefix.code : ACode :=
  .seq (.region [0, 1] (some []) none
     [⟨some 4, .mv (.c (.d (.bool false))), [], [], none, none⟩])
  (.seq (.region [4] (some []) none
      [⟨some 5, .mv (.t 0), [], [], none, none⟩,
       ⟨some 6, .mv (.t 1), [], [], none, none⟩,
       ⟨some 7, .call 131 [(.t 5), (.t 6)], [], [], none, none⟩,
       ⟨some 4, .mv (.t 7), [], [], none, none⟩])
   (.ret))
def g_strings_HasPrefix : AFn := { N := 8, res := [.slot 4], own := [], frz := [], code := g_strings_HasPrefix.code }
def g_internal_stringslite_HasSuffix.o1 : List AOper :=
  [⟨some 20, .pick (.t 10) (.t 19) (.c (.d (.bool false))), [], [], none, none⟩,
     ⟨some 4, .mv (.t 20), [], [], none, none⟩]
def g_internal_stringslite_HasSuffix.o0 : List AOper :=
  (⟨some 11, .mv (.t 0), [], [], (some (5, 10, true)), none⟩ ::
     ⟨some 12, .mv (.t 0), [], [], (some (5, 10, true)), none⟩ ::
     ⟨some 13, .lenS (.t 12), [], [], (some (5, 10, true)), none⟩ ::
     ⟨some 14, .mv (.t 1), [], [], (some (5, 10, true)), none⟩ ::
     ⟨some 15, .lenS (.t 14), [], [], (some (5, 10, true)), none⟩ ::
     ⟨some 16, .bin .sub (.t 13) (.t 15), [], [], (some (5, 10, true)), none⟩ ::
     ⟨some 17, .slcS (.t 11) (some (.t 16)) none, [], [], (some (5, 10, true)), none⟩ ::
     ⟨some 18, .mv (.t 1), [], [], (some (5, 10, true)), none⟩ ::
     ⟨some 19, .bin .eql (.t 17) (.t 18), [], [], (some (5, 10, true)), (some ([10, 19], (some [])))⟩ ::
     g_internal_stringslite_HasSuffix.o1)
def g_internal_stringslite_HasSuffix.c0 : ACode :=
  .ret
def g_internal_stringslite_HasSuffix.code : ACode :=
  .seq (.region [0, 1] (some []) none
     [⟨some 4, .mv (.c (.d (.bool false))), [], [], none, none⟩])
  (.seq (.region [4] (some []) none
      (⟨some 5, .mv (.t 0), [], [], none, none⟩ ::
       ⟨some 6, .lenS (.t 5), [], [], none, none⟩ ::
       ⟨some 7, .mv (.t 1), [], [], none, none⟩ ::
       ⟨some 8, .lenS (.t 7), [], [], none, none⟩ ::
       ⟨some 9, .bin .geq (.t 6) (.t 8), [], [], none, none⟩ ::
       ⟨some 10, .mv (.t 9), [], [], none, (some ([0, 1, 10], (some [])))⟩ ::
       g_internal_stringslite_HasSuffix.o0))
   (g_internal_stringslite_HasSuffix.c0))
def g_internal_stringslite_HasSuffix : AFn := { N := 21, res := [.slot 4], own := [], frz := [], code := g_internal_stringslite_HasSuffix.code }
def g_internal_stringslite_HasPrefix.o1 : List AOper :=
  [⟨some 17, .pick (.t 10) (.t 16) (.c (.d (.bool false))), [], [], none, none⟩,
     ⟨some 4, .mv (.t 17), [], [], none, none⟩]
def g_internal_stringslite_HasPrefix.o0 : List AOper :=
  (⟨some 11, .mv (.t 0), [], [], (some (5, 10, true)), none⟩ ::
     ⟨some 12, .mv (.t 1), [], [], (some (5, 10, true)), none⟩ ::
     ⟨some 13, .lenS (.t 12), [], [], (some (5, 10, true)), none⟩ ::
     ⟨some 14, .slcS (.t 11) none (some (.t 13)), [], [], (some (5, 10, true)), none⟩ ::
     ⟨some 15, .mv (.t 1), [], [], (some (5, 10, true)), none⟩ ::
     ⟨some 16, .bin .eql (.t 14) (.t 15), [], [], (some (5, 10, true)), (some ([10, 16], (some [])))⟩ ::
     g_internal_stringslite_HasPrefix.o1)
def g_internal_stringslite_HasPrefix.c0 : ACode :=
  .ret
def g_internal_stringslite_HasPrefix.code : ACode :=
  .seq (.region [0, 1] (some []) none
     [⟨some 4, .mv (.c (.d (.bool false))), [], [], none, none⟩])
  (.seq (.region [4] (some []) none
      (⟨some 5, .mv (.t 0), [], [], none, none⟩ ::
       ⟨some 6, .lenS (.t 5), [], [], none, none⟩ ::
       ⟨some 7, .mv (.t 1), [], [], none, none⟩ ::
       ⟨some 8, .lenS (.t 7), [], [], none, none⟩ ::
       ⟨some 9, .bin .geq (.t 6) (.t 8), [], [], none, none⟩ ::
       ⟨some 10, .mv (.t 9), [], [], none, (some ([0, 1, 10], (some [])))⟩ ::
       g_internal_stringslite_HasPrefix.o0))
   (g_internal_stringslite_HasPrefix.c0))
def g_internal_stringslite_HasPrefix : AFn := { N := 18, res := [.slot 4], own := [], frz := [], code := g_internal_stringslite_HasPrefix.code }

end Pay
