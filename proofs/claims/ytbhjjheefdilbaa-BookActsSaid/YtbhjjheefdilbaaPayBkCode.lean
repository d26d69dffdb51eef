/- The program's functions, as code of the abstract machine: for every function listed here; written by a program of ours. -/
import Derived.Test.YtbhjjheefdilbaaPayQ
set_option maxRecDepth 20000
namespace Pay
/- paymaster/paymasterlaw17.BookActs: function 1. drawn region 9: first 3, left 5; drawn region 30: first 8, left 8 -/
def g_law17_BookActs.o1 : List AOper :=
  [⟨some 38, .pick (.t 35) (.c (.d (.bool true))) (.t 37), [], [], none, none⟩]
def g_law17_BookActs.o0 : List AOper :=
  (⟨some 36, .mv (.t 14), [], [], (some (2, 35, false)), none⟩ ::
     ⟨some 37, .un .not (.t 36), [], [], (some (2, 35, false)), (some ([2, 3, 4, 5, 6, 11, 35, 37], (some [5, 6])))⟩ ::
     g_law17_BookActs.o1)
def g_law17_BookActs.c0 : ACode :=
  .cond (.t 38) (.seq (.region [10] (some []) none
      [⟨some 39, .call 4 [], [], [], none, none⟩,
       ⟨some 10, .mv (.t 39), [], [], none, none⟩])
   (.ret))
  (.skip)
def g_law17_BookActs.o3 : List AOper :=
  [⟨some 69, .pick (.t 59) (.c (.d (.bool true))) (.t 68), [], [], none, none⟩]
def g_law17_BookActs.o2 : List AOper :=
  (⟨some 60, .load (some 1) (.t 5), [], [], (some (7, 59, false)), none⟩ ::
     ⟨some 61, .mv (.t 3), [], [], (some (7, 59, false)), none⟩ ::
     ⟨some 62, .mv (.t 4), [], [], (some (7, 59, false)), none⟩ ::
     ⟨some 63, .call 8 [(.t 60), (.t 61), (.t 62)], [], [], (some (7, 59, false)), none⟩ ::
     ⟨some 64, .mv (.t 11), [], [], (some (7, 59, false)), none⟩ ::
     ⟨some 65, .mv (.t 3), [], [], (some (7, 59, false)), none⟩ ::
     ⟨some 66, .mv (.t 4), [], [], (some (7, 59, false)), none⟩ ::
     ⟨some 67, .call 11 [(.t 64), (.t 65), (.t 66)], [], [], (some (7, 59, false)), none⟩ ::
     ⟨some 68, .bin .neq (.t 63) (.t 67), [], [], (some (7, 59, false)), (some ([2, 6, 11, 15, 16, 17, 18, 59, 68], (some [6, 15, 17])))⟩ ::
     g_law17_BookActs.o3)
def g_law17_BookActs.c1 : ACode :=
  .cond (.t 69) (.seq (.region [10] (some []) none
      [⟨some 10, .mv (.c (.d (.bool false))), [], [], none, none⟩])
   (.ret))
  (.skip)
def g_law17_BookActs.a4 : List AOper :=
  [⟨some 70, .bsl (some 70) 22 [] 0 [], [], [], none, none⟩,
     ⟨some 71, .mv (.t 11), [], [], none, none⟩,
     ⟨some 72, .app (some 72) 22 256 (.t 70) (.t 71), [], [0, 1], none, none⟩,
     ⟨some 73, .load (some 22) (.t 6), [], [], none, none⟩,
     ⟨some 74, .call 12 [(.t 73)], [], [3, 2], none, none⟩,
     ⟨some 75, .bsl none 22 [] 1 [(0, (.t 74))], [], [4], none, none⟩,
     ⟨some 76, .app none 22 256 (.t 72) (.t 75), [], [2, 5, 4], none, none⟩,
     ⟨some 19, .mv (.t 76), [], [6, 6, 0, 1, 2, 3, 4, 5, 6], none, none⟩]
def g_law17_BookActs.t7 : Tr := .one 7 .done
def g_law17_BookActs.t8 : Tr := .one 6 g_law17_BookActs.t7
def g_law17_BookActs.t9 : Tr := .one 5 g_law17_BookActs.t8
def g_law17_BookActs.t10 : Tr := .one 4 g_law17_BookActs.t9
def g_law17_BookActs.t11 : Tr := .one 2 g_law17_BookActs.t10
def g_law17_BookActs.i6 : List Nat := 3 :: []
def g_law17_BookActs.i5 : List Nat := 1 :: g_law17_BookActs.i6
def g_law17_BookActs.o13 : List AOper :=
  [⟨some 110, .pick (.t 105) (.c (.d (.bool true))) (.t 109), [], [], none, none⟩,
     ⟨some 102, .mv (.t 110), [], [], none, none⟩]
def g_law17_BookActs.o12 : List AOper :=
  (⟨some 106, .mv (.t 2), [], [], (some (2, 105, false)), none⟩ ::
     ⟨some 107, .mv (.t 11), [], [], (some (2, 105, false)), none⟩ ::
     ⟨some 108, .len (.t 107), [], [], (some (2, 105, false)), none⟩ ::
     ⟨some 109, .bin .geq (.t 106) (.t 108), [], [], (some (2, 105, false)), (some ([2, 11, 17, 18, 105, 109], (some [17])))⟩ ::
     g_law17_BookActs.o13)
def g_law17_BookActs.o17 : List AOper :=
  [⟨some 120, .pick (.t 118) (.t 119) (.c (.d (.bool false))), [], [], none, none⟩,
     ⟨some 10, .mv (.t 120), [], [], none, none⟩]
def g_law17_BookActs.o16 : List AOper :=
  (⟨some 119, .call 4 [], [], [], (some (7, 118, true)), (some ([118, 119], (some [])))⟩ ::
     g_law17_BookActs.o17)
def g_law17_BookActs.o15 : List AOper :=
  (⟨some 117, .pick (.t 113) (.t 116) (.c (.d (.bool false))), [], [], none, none⟩ ::
     ⟨some 118, .mv (.t 117), [], [], none, (some ([118], (some [])))⟩ ::
     g_law17_BookActs.o16)
def g_law17_BookActs.o14 : List AOper :=
  (⟨some 114, .load (some 1) (.t 17), [], [], (some (2, 113, true)), none⟩ ::
     ⟨some 115, .mv (.t 11), [], [], (some (2, 113, true)), none⟩ ::
     ⟨some 116, .call 13 [(.t 114), (.t 115)], [], [], (some (2, 113, true)), (some ([113, 116], (some [])))⟩ ::
     g_law17_BookActs.o15)
def g_law17_BookActs.c2 : ACode :=
  .ret
def g_law17_BookActs.o21 : List AOper :=
  [⟨some 137, .pick (.t 135) (.t 136) (.c (.d (.bool false))), [], [], none, none⟩,
     ⟨some 10, .mv (.t 137), [], [], none, none⟩]
def g_law17_BookActs.o20 : List AOper :=
  (⟨some 136, .call 4 [], [], [], (some (7, 135, true)), (some ([135, 136], (some [])))⟩ ::
     g_law17_BookActs.o21)
def g_law17_BookActs.o19 : List AOper :=
  (⟨some 134, .pick (.t 130) (.t 133) (.c (.d (.bool false))), [], [], none, none⟩ ::
     ⟨some 135, .mv (.t 134), [], [], none, (some ([135], (some [])))⟩ ::
     g_law17_BookActs.o20)
def g_law17_BookActs.o18 : List AOper :=
  (⟨some 131, .load (some 1) (.t 17), [], [], (some (2, 130, true)), none⟩ ::
     ⟨some 132, .mv (.t 11), [], [], (some (2, 130, true)), none⟩ ::
     ⟨some 133, .call 13 [(.t 131), (.t 132)], [], [], (some (2, 130, true)), (some ([130, 133], (some [])))⟩ ::
     g_law17_BookActs.o19)
def g_law17_BookActs.c3 : ACode :=
  .ret
def g_law17_BookActs.o25 : List AOper :=
  [⟨some 152, .pick (.t 150) (.t 151) (.c (.d (.bool false))), [], [], none, none⟩,
     ⟨some 10, .mv (.t 152), [], [], none, none⟩]
def g_law17_BookActs.o24 : List AOper :=
  (⟨some 151, .call 4 [], [], [], (some (7, 150, true)), (some ([150, 151], (some [])))⟩ ::
     g_law17_BookActs.o25)
def g_law17_BookActs.o23 : List AOper :=
  (⟨some 149, .pick (.t 145) (.t 148) (.c (.d (.bool false))), [], [], none, none⟩ ::
     ⟨some 150, .mv (.t 149), [], [], none, (some ([150], (some [])))⟩ ::
     g_law17_BookActs.o24)
def g_law17_BookActs.o22 : List AOper :=
  (⟨some 146, .load (some 1) (.t 17), [], [], (some (2, 145, true)), none⟩ ::
     ⟨some 147, .mv (.t 11), [], [], (some (2, 145, true)), none⟩ ::
     ⟨some 148, .call 13 [(.t 146), (.t 147)], [], [], (some (2, 145, true)), (some ([145, 148], (some [])))⟩ ::
     g_law17_BookActs.o23)
def g_law17_BookActs.c4 : ACode :=
  .ret
def g_law17_BookActs.c5 : ACode :=
  .cond (.t 102) (.seq (.region [10] (some []) none
      (⟨some 111, .mv (.t 18), [], [], none, none⟩ ::
       ⟨some 112, .bin .eql (.t 111) (.c (.d (.int .i64 5))), [], [], none, none⟩ ::
       ⟨some 113, .mv (.t 112), [], [], none, (some ([11, 17, 113], (some [17])))⟩ ::
       g_law17_BookActs.o14))
   (g_law17_BookActs.c2))
  (.seq (.region [2, 11, 17, 18, 121] (some [17]) none
      [⟨some 122, .mv (.t 11), [], [], none, none⟩,
       ⟨some 123, .mv (.t 2), [], [], none, none⟩,
       ⟨some 124, .iaddr 22 (.t 122) (.t 123), [], [], none, none⟩,
       ⟨some 125, .faddr 4 (.t 124), [], [], none, none⟩,
       ⟨some 126, .load none (.t 125), [], [], none, none⟩,
       ⟨some 127, .bin .neq (.t 126) (.c (.d (.int .i64 0))), [], [], none, none⟩,
       ⟨some 121, .mv (.t 127), [], [], none, none⟩])
   (.cond (.t 121) (.seq (.region [10] (some []) none
        (⟨some 128, .mv (.t 18), [], [], none, none⟩ ::
         ⟨some 129, .bin .eql (.t 128) (.c (.d (.int .i64 1))), [], [], none, none⟩ ::
         ⟨some 130, .mv (.t 129), [], [], none, (some ([11, 17, 130], (some [17])))⟩ ::
         g_law17_BookActs.o18))
     (g_law17_BookActs.c3))
    (.seq (.region [2, 11, 17, 18, 138] (some [17]) none
        [⟨some 139, .mv (.t 11), [], [], none, none⟩,
         ⟨some 140, .mv (.t 2), [], [], none, none⟩,
         ⟨some 141, .call 10 [(.t 139), (.t 140)], [], [], none, none⟩,
         ⟨some 142, .un .not (.t 141), [], [], none, none⟩,
         ⟨some 138, .mv (.t 142), [], [], none, none⟩])
     (.cond (.t 138) (.seq (.region [10] (some []) none
          (⟨some 143, .mv (.t 18), [], [], none, none⟩ ::
           ⟨some 144, .bin .eql (.t 143) (.c (.d (.int .i64 6))), [], [], none, none⟩ ::
           ⟨some 145, .mv (.t 144), [], [], none, (some ([11, 17, 145], (some [17])))⟩ ::
           g_law17_BookActs.o22))
       (g_law17_BookActs.c4))
      (.skip)))))
def g_law17_BookActs.a26 : List AOper :=
  [⟨some 160, .mv (.t 18), [], [], none, none⟩,
     ⟨some 161, .bin .eql (.t 160) (.c (.d (.int .i64 0))), [], [0], none, none⟩,
     ⟨some 162, .mv (.t 161), [], [1], none, none⟩,
     ⟨some 163, .load (some 1) (.t 17), [], [2], (some (2, 162, true)), none⟩,
     ⟨some 164, .bsl (some 164) 22 [] 0 [], [], [2], (some (2, 162, true)), none⟩,
     ⟨some 165, .mv (.t 11), [], [2], (some (2, 162, true)), none⟩,
     ⟨some 166, .app (some 166) 22 256 (.t 164) (.t 165), [], [4, 5, 2, 2], (some (2, 162, true)), none⟩,
     ⟨some 167, .load (some 22) (.t 20), [], [2], (some (2, 162, true)), none⟩,
     ⟨some 168, .bsl none 22 [] 1 [(0, (.t 167))], [], [7, 2], (some (2, 162, true)), none⟩,
     ⟨some 169, .app none 22 256 (.t 166) (.t 168), [], [6, 8, 6, 2], (some (2, 162, true)), none⟩,
     ⟨some 170, .call 13 [(.t 163), (.t 169)], [], [3, 9, 9, 2], (some (2, 162, true)), none⟩,
     ⟨some 171, .pick (.t 162) (.t 170) (.c (.d (.bool false))), [], [2, 10], none, none⟩,
     ⟨some 172, .mv (.t 171), [], [11, 10], none, none⟩,
     ⟨some 173, .call 4 [], [], [12, 12], (some (12, 172, true)), none⟩,
     ⟨some 174, .pick (.t 172) (.t 173) (.c (.d (.bool false))), [], [12, 13], none, none⟩,
     ⟨some 10, .mv (.t 174), [], [14, 13, 0, 1, 2, 3, 4, 5, 6, 7, 8, 9, 10, 11, 12, 13, 14], none, none⟩]
def g_law17_BookActs.t34 : Tr := .one 15 .done
def g_law17_BookActs.t35 : Tr := .one 14 g_law17_BookActs.t34
def g_law17_BookActs.t36 : Tr := .one 13 g_law17_BookActs.t35
def g_law17_BookActs.t37 : Tr := .one 12 g_law17_BookActs.t36
def g_law17_BookActs.t38 : Tr := .one 11 g_law17_BookActs.t37
def g_law17_BookActs.t39 : Tr := .one 10 g_law17_BookActs.t38
def g_law17_BookActs.t40 : Tr := .one 9 g_law17_BookActs.t39
def g_law17_BookActs.t41 : Tr := .one 6 g_law17_BookActs.t40
def g_law17_BookActs.i33 : List Nat := 8 :: []
def g_law17_BookActs.i32 : List Nat := 7 :: g_law17_BookActs.i33
def g_law17_BookActs.i31 : List Nat := 5 :: g_law17_BookActs.i32
def g_law17_BookActs.i30 : List Nat := 4 :: g_law17_BookActs.i31
def g_law17_BookActs.i29 : List Nat := 3 :: g_law17_BookActs.i30
def g_law17_BookActs.i28 : List Nat := 2 :: g_law17_BookActs.i29
def g_law17_BookActs.i27 : List Nat := 1 :: g_law17_BookActs.i28
def g_law17_BookActs.c6 : ACode :=
  .ret
def g_law17_BookActs.c7 : ACode :=
  .seq (.region [10] (some []) (some (0 :: g_law17_BookActs.i27, g_law17_BookActs.t41)) g_law17_BookActs.a26)
  (g_law17_BookActs.c6)
def g_law17_BookActs.c8 : ACode :=
  .seq (.region [11, 17, 18, 20] (some [17, 20]) none
     [⟨some 157, .mv (.t 2), [], [], none, none⟩,
      ⟨some 158, .bin .add (.t 157) (.c (.d (.int .i64 1))), [], [], none, none⟩,
      ⟨some 159, .faddr 4 (.t 20), [], [], none, none⟩,
      ⟨none, .store 1 (.t 159) (.t 158), [], [], none, none⟩])
  (g_law17_BookActs.c7)
def g_law17_BookActs.c9 : ACode :=
  .seq (.region [2, 11, 17, 18, 20] (some [17, 20]) none
     [⟨some 153, .mv (.t 11), [], [], none, none⟩,
      ⟨some 154, .mv (.t 2), [], [], none, none⟩,
      ⟨some 155, .iaddr 22 (.t 153) (.t 154), [], [], none, none⟩,
      ⟨some 156, .load (some 22) (.t 155), [], [], none, none⟩,
      ⟨some 20, .alloc 20 [.d (.int .i64 0), .d (.int .i64 0), .d (.int .i64 0), .d (.int .i64 0), .d (.int .i64 0), .cap0, .d (.int .i64 0), .d (.int .i64 0), .d (.int .i64 0), .d (.int .i64 0), .d (.int .i64 0), .d (.int .i64 0), .d (.int .i64 0), .d (.int .i64 0), .d (.int .i64 0), .d (.int .i64 0), .d (.int .i64 0), .d (.int .i64 0), .cap0, .cap0, .cap0, .cap0], [], [], none, none⟩,
      ⟨none, .store 22 (.t 20) (.t 156), [], [], none, none⟩])
  (g_law17_BookActs.c8)
def g_law17_BookActs.c10 : ACode :=
  .seq (.block 1 [2, 11, 17, 18] (some [17]) (.seq (.region [2, 11, 17, 18, 102] (some [17]) none
       (⟨some 103, .mv (.t 2), [], [], none, none⟩ ::
        ⟨some 104, .bin .lss (.t 103) (.c (.d (.int .i64 0))), [], [], none, none⟩ ::
        ⟨some 105, .mv (.t 104), [], [], none, (some ([2, 11, 17, 18, 105], (some [17])))⟩ ::
        g_law17_BookActs.o12))
    (g_law17_BookActs.c5)))
  (g_law17_BookActs.c9)
def g_law17_BookActs.c11 : ACode :=
  .seq (.seq (.region [2, 11, 17, 18, 101] (some [17]) none
      [⟨some 98, .load (some 1) (.t 15), [], [], none, none⟩,
       ⟨some 99, .mv (.t 19), [], [], none, none⟩,
       ⟨some 100, .call 13 [(.t 98), (.t 99)], [], [], none, none⟩,
       ⟨some 101, .un .not (.t 100), [], [], none, none⟩])
   (.cond (.t 101) (.seq (.region [10] (some []) none
        [⟨some 10, .mv (.c (.d (.bool false))), [], [], none, none⟩])
     (.ret))
    (.skip)))
  (g_law17_BookActs.c10)
def g_law17_BookActs.c12 : ACode :=
  .seq (.block 0 [2, 11, 15, 17, 18, 19] (some [15, 17]) (.seq (.region [2, 6, 11, 15, 16, 17, 18, 19, 77] (some [6, 15, 17]) none
       [⟨some 78, .faddr 4 (.t 6), [], [], none, none⟩,
        ⟨some 79, .load none (.t 78), [], [], none, none⟩,
        ⟨some 80, .bin .neq (.t 79) (.c (.d (.int .i64 0))), [], [], none, none⟩,
        ⟨some 77, .mv (.t 80), [], [], none, none⟩])
    (.cond (.t 77) (.seq (.region [2, 11, 15, 16, 17, 18, 19] (some [15, 17]) none
         [⟨some 81, .mv (.t 11), [], [], none, none⟩,
          ⟨some 19, .mv (.t 81), [], [], none, none⟩])
      (.seq (.region [2, 11, 15, 17, 18, 19, 83] (some [15, 17]) none
          [⟨some 82, .mv (.t 16), [], [], none, none⟩,
           ⟨some 83, .bin .neq (.t 82) (.c (.d (.int .i64 1))), [], [], none, none⟩])
       (.cond (.t 83) (.seq (.region [10] (some []) none
            [⟨some 10, .mv (.c (.d (.bool false))), [], [], none, none⟩])
         (.ret))
        (.skip))))
     (.seq (.region [2, 11, 15, 16, 17, 18, 19, 84] (some [15, 17]) none
         [⟨some 85, .mv (.t 11), [], [], none, none⟩,
          ⟨some 86, .faddr 2 (.t 6), [], [], none, none⟩,
          ⟨some 87, .load none (.t 86), [], [], none, none⟩,
          ⟨some 88, .faddr 1 (.t 6), [], [], none, none⟩,
          ⟨some 89, .load none (.t 88), [], [], none, none⟩,
          ⟨some 90, .call 11 [(.t 85), (.t 87), (.t 89)], [], [], none, none⟩,
          ⟨some 91, .bin .geq (.t 90) (.c (.d (.int .i64 0))), [], [], none, none⟩,
          ⟨some 84, .mv (.t 91), [], [], none, none⟩])
      (.cond (.t 84) (.seq (.region [2, 11, 15, 16, 17, 18, 19] (some [15, 17]) none
           [⟨some 92, .mv (.t 11), [], [], none, none⟩,
            ⟨some 19, .mv (.t 92), [], [], none, none⟩])
        (.seq (.region [2, 11, 15, 17, 18, 19, 94] (some [15, 17]) none
            [⟨some 93, .mv (.t 16), [], [], none, none⟩,
             ⟨some 94, .bin .neq (.t 93) (.c (.d (.int .i64 6))), [], [], none, none⟩])
         (.cond (.t 94) (.seq (.region [10] (some []) none
              [⟨some 10, .mv (.c (.d (.bool false))), [], [], none, none⟩])
           (.ret))
          (.skip))))
       (.seq (.region [2, 11, 15, 17, 18, 19, 95] (some [15, 17]) none
           [⟨some 96, .mv (.t 16), [], [], none, none⟩,
            ⟨some 97, .bin .neq (.t 96) (.c (.d (.int .i64 0))), [], [], none, none⟩,
            ⟨some 95, .mv (.t 97), [], [], none, none⟩])
        (.cond (.t 95) (.seq (.region [10] (some []) none
             [⟨some 10, .mv (.c (.d (.bool false))), [], [], none, none⟩])
          (.ret))
         (.skip))))))))
  (g_law17_BookActs.c11)
def g_law17_BookActs.c13 : ACode :=
  .seq (.region [2, 6, 11, 15, 16, 17, 18, 19] (some [6, 15, 17]) (some (0 :: g_law17_BookActs.i5, g_law17_BookActs.t11)) g_law17_BookActs.a4)
  (g_law17_BookActs.c12)
def g_law17_BookActs.c14 : ACode :=
  .seq (.seq (.region [2, 6, 11, 15, 16, 17, 18, 69] (some [6, 15, 17]) none
      (⟨some 52, .load (some 1) (.t 5), [], [], none, none⟩ ::
       ⟨some 53, .mv (.t 2), [], [], none, none⟩ ::
       ⟨some 54, .call 9 [(.t 52), (.t 53)], [], [], none, none⟩ ::
       ⟨some 55, .mv (.t 11), [], [], none, none⟩ ::
       ⟨some 56, .mv (.t 2), [], [], none, none⟩ ::
       ⟨some 57, .call 10 [(.t 55), (.t 56)], [], [], none, none⟩ ::
       ⟨some 58, .beq true (.t 54) (.t 57), [], [], none, none⟩ ::
       ⟨some 59, .mv (.t 58), [], [], none, (some ([2, 3, 4, 5, 6, 11, 15, 16, 17, 18, 59], (some [5, 6, 15, 17])))⟩ ::
       g_law17_BookActs.o2))
   (g_law17_BookActs.c1))
  (g_law17_BookActs.c13)
def g_law17_BookActs.c15 : ACode :=
  .seq (.region [2, 3, 4, 5, 6, 11, 15, 16, 17, 18] (some [5, 6, 15, 17]) none
     [⟨some 47, .load (some 1) (.t 5), [], [], none, none⟩,
      ⟨some 48, .mv (.t 2), [], [], none, none⟩,
      ⟨some 49, .call 7 [(.t 47), (.t 48)], [], [], none, none⟩,
      ⟨some 46, .mv (.t 49), [], [], none, none⟩,
      ⟨some 50, .ext (.t 46) 0, [], [], none, none⟩,
      ⟨some 51, .ext (.t 46) 1, [], [], none, none⟩,
      ⟨some 17, .alloc 17 [.cap0], [], [], none, none⟩,
      ⟨none, .store 1 (.t 17) (.t 50), [], [], none, none⟩,
      ⟨some 18, .mv (.t 51), [], [], none, none⟩])
  (g_law17_BookActs.c14)
def g_law17_BookActs.c16 : ACode :=
  .seq (.region [2, 3, 4, 5, 6, 11, 15, 16] (some [5, 6, 15]) none
     [⟨some 41, .load (some 1) (.t 5), [], [], none, none⟩,
      ⟨some 42, .load (some 22) (.t 6), [], [], none, none⟩,
      ⟨some 43, .call 5 [(.t 41), (.t 42)], [], [], none, none⟩,
      ⟨some 40, .mv (.t 43), [], [], none, none⟩,
      ⟨some 44, .ext (.t 40) 0, [], [], none, none⟩,
      ⟨some 45, .ext (.t 40) 1, [], [], none, none⟩,
      ⟨some 15, .alloc 15 [.cap0], [], [], none, none⟩,
      ⟨none, .store 1 (.t 15) (.t 44), [], [], none, none⟩,
      ⟨some 16, .mv (.t 45), [], [], none, none⟩])
  (g_law17_BookActs.c15)
def g_law17_BookActs.c17 : ACode :=
  .seq (.seq (.region [2, 3, 4, 5, 6, 11, 38] (some [5, 6]) none
      (⟨some 33, .mv (.t 12), [], [], none, none⟩ ::
       ⟨some 34, .un .not (.t 33), [], [], none, none⟩ ::
       ⟨some 35, .mv (.t 34), [], [], none, (some ([2, 3, 4, 5, 6, 11, 14, 35], (some [5, 6])))⟩ ::
       g_law17_BookActs.o0))
   (g_law17_BookActs.c0))
  (g_law17_BookActs.c16)
def g_law17_BookActs.c18 : ACode :=
  .seq (.region [2, 3, 4, 5, 6, 11, 12, 14] (some [5, 6]) none
     [⟨some 27, .load (some 22) (.t 6), [], [], none, none⟩,
      ⟨some 28, .bsl none 22 [] 1 [(0, (.t 27))], [], [], none, none⟩,
      ⟨some 29, .build [.cap0] [(0, 1, (.t 28))], [], [], none, none⟩,
      ⟨some 30, .call 3 [(.t 29)], [], [], none, none⟩,
      ⟨some 26, .mv (.t 30), [], [], none, none⟩,
      ⟨some 31, .ext (.t 26) 0, [], [], none, none⟩,
      ⟨some 32, .ext (.t 26) 1, [], [], none, none⟩,
      ⟨some 13, .mv (.t 31), [], [], none, none⟩,
      ⟨some 14, .mv (.t 32), [], [], none, none⟩])
  (g_law17_BookActs.c17)
def g_law17_BookActs.code : ACode :=
  .seq (.region [2, 3, 4, 5, 6] (some [5, 6]) none
     [⟨some 5, .box 5 1 (.t 0), [], [], none, none⟩,
      ⟨some 6, .box 6 22 (.t 1), [], [], none, none⟩,
      ⟨some 10, .mv (.c (.d (.bool false))), [], [], none, none⟩])
  (.seq (.region [2, 3, 4, 5, 6, 11, 12] (some [5, 6]) none
      [⟨some 22, .load (some 1) (.t 5), [], [], none, none⟩,
       ⟨some 23, .call 3 [(.t 22)], [], [], none, none⟩,
       ⟨some 21, .mv (.t 23), [], [], none, none⟩,
       ⟨some 24, .ext (.t 21) 0, [], [], none, none⟩,
       ⟨some 25, .ext (.t 21) 1, [], [], none, none⟩,
       ⟨some 11, .mv (.t 24), [], [], none, none⟩,
       ⟨some 12, .mv (.t 25), [], [], none, none⟩])
   (g_law17_BookActs.c18))
def g_law17_BookActs : AFn := { N := 175, res := [.slot 10], own := [], frz := [], code := g_law17_BookActs.code }

/- paymaster/paymasterlaw17.refs: function 3.  -/
def g_law17_refs.o7 : List AOper :=
  [⟨some 49, .pick (.t 43) (.c (.d (.bool true))) (.t 48), [], [], none, none⟩]
def g_law17_refs.o6 : List AOper :=
  (⟨some 44, .faddr 5 (.t 6), [], [], (some (25, 43, false)), none⟩ ::
     ⟨some 45, .faddr 15 (.t 44), [], [], (some (25, 43, false)), none⟩ ::
     ⟨some 46, .load none (.t 45), [], [], (some (25, 43, false)), none⟩ ::
     ⟨some 47, .len (.t 46), [], [], (some (25, 43, false)), none⟩ ::
     ⟨some 48, .bin .gtr (.t 47) (.c (.d (.int .i64 40))), [], [], (some (25, 43, false)), (some ([4, 6, 12, 13, 14, 43, 48], (some [6, 54])))⟩ ::
     g_law17_refs.o7)
def g_law17_refs.o5 : List AOper :=
  (⟨some 42, .pick (.t 36) (.c (.d (.bool true))) (.t 41), [], [], none, none⟩ ::
     ⟨some 43, .mv (.t 42), [], [], none, (some ([4, 6, 12, 13, 14, 43], (some [6, 54])))⟩ ::
     g_law17_refs.o6)
def g_law17_refs.o4 : List AOper :=
  (⟨some 37, .faddr 5 (.t 6), [], [], (some (18, 36, false)), none⟩ ::
     ⟨some 38, .faddr 14 (.t 37), [], [], (some (18, 36, false)), none⟩ ::
     ⟨some 39, .load none (.t 38), [], [], (some (18, 36, false)), none⟩ ::
     ⟨some 40, .len (.t 39), [], [], (some (18, 36, false)), none⟩ ::
     ⟨some 41, .bin .gtr (.t 40) (.c (.d (.int .i64 40))), [], [], (some (18, 36, false)), (some ([4, 6, 12, 13, 14, 36, 41], (some [6, 54])))⟩ ::
     g_law17_refs.o5)
def g_law17_refs.o3 : List AOper :=
  (⟨some 35, .pick (.t 29) (.c (.d (.bool true))) (.t 34), [], [], none, none⟩ ::
     ⟨some 36, .mv (.t 35), [], [], none, (some ([4, 6, 12, 13, 14, 36], (some [6, 54])))⟩ ::
     g_law17_refs.o4)
def g_law17_refs.o2 : List AOper :=
  (⟨some 30, .faddr 5 (.t 6), [], [], (some (11, 29, false)), none⟩ ::
     ⟨some 31, .faddr 13 (.t 30), [], [], (some (11, 29, false)), none⟩ ::
     ⟨some 32, .load none (.t 31), [], [], (some (11, 29, false)), none⟩ ::
     ⟨some 33, .len (.t 32), [], [], (some (11, 29, false)), none⟩ ::
     ⟨some 34, .bin .gtr (.t 33) (.c (.d (.int .i64 40))), [], [], (some (11, 29, false)), (some ([4, 6, 12, 13, 14, 29, 34], (some [6, 54])))⟩ ::
     g_law17_refs.o3)
def g_law17_refs.o1 : List AOper :=
  (⟨some 28, .pick (.t 22) (.c (.d (.bool true))) (.t 27), [], [], none, none⟩ ::
     ⟨some 29, .mv (.t 28), [], [], none, (some ([4, 6, 12, 13, 14, 29], (some [6, 54])))⟩ ::
     g_law17_refs.o2)
def g_law17_refs.o0 : List AOper :=
  (⟨some 23, .faddr 5 (.t 6), [], [], (some (4, 22, false)), none⟩ ::
     ⟨some 24, .faddr 0 (.t 23), [], [], (some (4, 22, false)), none⟩ ::
     ⟨some 25, .load none (.t 24), [], [], (some (4, 22, false)), none⟩ ::
     ⟨some 26, .len (.t 25), [], [], (some (4, 22, false)), none⟩ ::
     ⟨some 27, .bin .gtr (.t 26) (.c (.d (.int .i64 70))), [], [], (some (4, 22, false)), (some ([4, 6, 12, 13, 14, 22, 27], (some [6, 54])))⟩ ::
     g_law17_refs.o1)
def g_law17_refs.c0 : ACode :=
  .cond (.t 49) (.seq (.region [2, 3] (some [54]) none
      [⟨some 2, .mv (.c (.cap0)), [], [], none, none⟩,
       ⟨some 3, .mv (.c (.d (.bool false))), [], [], none, none⟩])
   (.ret))
  (.skip)
def g_law17_refs.c1 : ACode :=
  .region [4, 12, 13, 14] (some [54]) none
    [⟨some 50, .mv (.t 4), [], [], none, none⟩,
     ⟨some 51, .load (some 22) (.t 6), [], [], none, none⟩,
     ⟨some 52, .call 12 [(.t 51)], [], [], none, none⟩,
     ⟨some 53, .bsl none 22 [] 1 [(0, (.t 52))], [], [], none, none⟩,
     ⟨some 54, .app (some 54) 22 256 (.t 50) (.t 53), [], [], none, none⟩,
     ⟨some 4, .mv (.t 54), [], [], none, none⟩]
def g_law17_refs.c2 : ACode :=
  .seq (.seq (.region [4, 6, 12, 13, 14, 49] (some [6, 54]) none
      (⟨some 18, .faddr 21 (.t 6), [], [], none, none⟩ ::
       ⟨some 19, .load none (.t 18), [], [], none, none⟩ ::
       ⟨some 20, .len (.t 19), [], [], none, none⟩ ::
       ⟨some 21, .bin .gtr (.t 20) (.c (.d (.int .i64 40))), [], [], none, none⟩ ::
       ⟨some 22, .mv (.t 21), [], [], none, (some ([4, 6, 12, 13, 14, 22], (some [6, 54])))⟩ ::
       g_law17_refs.o0))
   (g_law17_refs.c0))
  (g_law17_refs.c1)
def g_law17_refs.c3 : ACode :=
  .region [4, 12, 13, 14] (some [54]) none
    [⟨some 55, .bin .add (.t 14) (.c (.d (.int .i64 1))), [], [], none, none⟩,
     ⟨some 14, .mv (.t 55), [], [], none, none⟩]
def g_law17_refs.l0 : ACode :=
  .loop [4, 12, 13, 14] (some [54]) (.seq (.region [4, 12, 13, 14, 15] (some [54]) none
     [⟨some 15, .bin .lss (.t 14) (.t 13), [], [], none, none⟩])
  (.seq (.cond (.t 15) (.skip)
    (.exit 0))
   (.seq (.block 1 [4, 12, 13, 14] (some [54]) (.seq (.region [4, 6, 12, 13, 14] (some [6, 54]) none
         [⟨some 16, .iaddr 22 (.t 12) (.t 14), [], [], none, none⟩,
          ⟨some 17, .load (some 22) (.t 16), [], [], none, none⟩,
          ⟨some 6, .alloc 6 [.d (.int .i64 0), .d (.int .i64 0), .d (.int .i64 0), .d (.int .i64 0), .d (.int .i64 0), .cap0, .d (.int .i64 0), .d (.int .i64 0), .d (.int .i64 0), .d (.int .i64 0), .d (.int .i64 0), .d (.int .i64 0), .d (.int .i64 0), .d (.int .i64 0), .d (.int .i64 0), .d (.int .i64 0), .d (.int .i64 0), .d (.int .i64 0), .cap0, .cap0, .cap0, .cap0], [], [], none, none⟩,
          ⟨none, .store 22 (.t 6) (.t 17), [], [], none, none⟩])
      (g_law17_refs.c2)))
    (g_law17_refs.c3))))
def g_law17_refs.c4 : ACode :=
  .block 0 [4] (some [54]) (g_law17_refs.l0)
def g_law17_refs.c5 : ACode :=
  .seq (.region [2, 3] (some [54]) none
     [⟨some 56, .mv (.t 4), [], [], none, none⟩,
      ⟨some 2, .mv (.t 56), [], [], none, none⟩,
      ⟨some 3, .mv (.c (.d (.bool true))), [], [], none, none⟩])
  (.ret)
def g_law17_refs.c6 : ACode :=
  .seq (.region [1, 4] (some [1, 54]) none
     [⟨some 4, .mv (.c (.cap0)), [], [], none, none⟩])
  (.seq (.seq (.region [4, 12, 13, 14] (some [54]) none
       [⟨some 11, .faddr 0 (.t 1), [], [], none, none⟩,
        ⟨some 12, .load none (.t 11), [], [], none, none⟩,
        ⟨some 13, .len (.t 12), [], [], none, none⟩,
        ⟨some 14, .mv (.c (.d (.int .i64 0))), [], [], none, none⟩])
    (g_law17_refs.c4))
   (g_law17_refs.c5))
def g_law17_refs.code : ACode :=
  .seq (.region [1] (some [1]) none
     [⟨some 1, .box 1 1 (.t 0), [], [], none, none⟩,
      ⟨some 2, .mv (.c (.cap0)), [], [], none, none⟩,
      ⟨some 3, .mv (.c (.d (.bool false))), [], [], none, none⟩])
  (.seq (.seq (.region [1, 10] (some [1]) none
       [⟨some 7, .faddr 0 (.t 1), [], [], none, none⟩,
        ⟨some 8, .load none (.t 7), [], [], none, none⟩,
        ⟨some 9, .len (.t 8), [], [], none, none⟩,
        ⟨some 10, .bin .gtr (.t 9) (.c (.d (.int .i64 40))), [], [], none, none⟩])
    (.cond (.t 10) (.seq (.region [2, 3] (some [54]) none
         [⟨some 2, .mv (.c (.cap0)), [], [], none, none⟩,
          ⟨some 3, .mv (.c (.d (.bool false))), [], [], none, none⟩])
      (.ret))
     (.skip)))
   (g_law17_refs.c6))
def g_law17_refs : AFn := { N := 57, res := [.slot 2, .slot 3], own := [], frz := [2], code := g_law17_refs.code }

/- paymaster/paymasterlaw17.awake: function 4.  -/
def g_law17_awake.o15 : List AOper :=
  [⟨some 67, .pick (.t 63) (.t 66) (.c (.d (.bool false))), [], [], none, none⟩,
     ⟨some 0, .mv (.t 67), [], [], none, none⟩]
def g_law17_awake.o14 : List AOper :=
  (⟨some 64, .load (some 1) (.t 4), [], [], (some (35, 63, true)), none⟩ ::
     ⟨some 65, .call 9 [(.t 64), (.c (.d (.int .i64 1)))], [], [], (some (35, 63, true)), none⟩ ::
     ⟨some 66, .un .not (.t 65), [], [], (some (35, 63, true)), (some ([63, 66], (some [])))⟩ ::
     g_law17_awake.o15)
def g_law17_awake.o13 : List AOper :=
  (⟨some 62, .pick (.t 59) (.t 61) (.c (.d (.bool false))), [], [], none, none⟩ ::
     ⟨some 63, .mv (.t 62), [], [], none, (some ([4, 63], (some [4])))⟩ ::
     g_law17_awake.o14)
def g_law17_awake.o12 : List AOper :=
  (⟨some 60, .load (some 1) (.t 1), [], [], (some (31, 59, true)), none⟩ ::
     ⟨some 61, .call 9 [(.t 60), (.c (.d (.int .i64 0)))], [], [], (some (31, 59, true)), (some ([4, 59, 61], (some [4])))⟩ ::
     g_law17_awake.o13)
def g_law17_awake.o11 : List AOper :=
  (⟨some 58, .pick (.t 55) (.t 57) (.c (.d (.bool false))), [], [], none, none⟩ ::
     ⟨some 59, .mv (.t 58), [], [], none, (some ([1, 4, 59], (some [1, 4])))⟩ ::
     g_law17_awake.o12)
def g_law17_awake.o10 : List AOper :=
  (⟨some 56, .mv (.t 7), [], [], (some (27, 55, true)), none⟩ ::
     ⟨some 57, .bin .eql (.t 56) (.c (.d (.int .i64 6))), [], [], (some (27, 55, true)), (some ([1, 4, 55, 57], (some [1, 4])))⟩ ::
     g_law17_awake.o11)
def g_law17_awake.o9 : List AOper :=
  (⟨some 54, .pick (.t 50) (.t 53) (.c (.d (.bool false))), [], [], none, none⟩ ::
     ⟨some 55, .mv (.t 54), [], [], none, (some ([1, 4, 7, 55], (some [1, 4])))⟩ ::
     g_law17_awake.o10)
def g_law17_awake.o8 : List AOper :=
  (⟨some 51, .load (some 1) (.t 4), [], [], (some (22, 50, true)), none⟩ ::
     ⟨some 52, .call 8 [(.t 51), (.c (.d (.int .i64 1))), (.c (.d (.int .i64 24276)))], [], [], (some (22, 50, true)), none⟩ ::
     ⟨some 53, .bin .eql (.t 52) (.c (.d (.int .i64 (-1)))), [], [], (some (22, 50, true)), (some ([1, 4, 7, 50, 53], (some [1, 4])))⟩ ::
     g_law17_awake.o9)
def g_law17_awake.o7 : List AOper :=
  (⟨some 49, .pick (.t 45) (.t 48) (.c (.d (.bool false))), [], [], none, none⟩ ::
     ⟨some 50, .mv (.t 49), [], [], none, (some ([1, 4, 7, 50], (some [1, 4])))⟩ ::
     g_law17_awake.o8)
def g_law17_awake.o6 : List AOper :=
  (⟨some 46, .load (some 1) (.t 1), [], [], (some (17, 45, true)), none⟩ ::
     ⟨some 47, .call 8 [(.t 46), (.c (.d (.int .i64 1))), (.c (.d (.int .i64 24276)))], [], [], (some (17, 45, true)), none⟩ ::
     ⟨some 48, .bin .eql (.t 47) (.c (.d (.int .i64 0))), [], [], (some (17, 45, true)), (some ([1, 4, 7, 45, 48], (some [1, 4])))⟩ ::
     g_law17_awake.o7)
def g_law17_awake.o5 : List AOper :=
  (⟨some 44, .pick (.t 41) (.t 43) (.c (.d (.bool false))), [], [], none, none⟩ ::
     ⟨some 45, .mv (.t 44), [], [], none, (some ([1, 4, 7, 45], (some [1, 4])))⟩ ::
     g_law17_awake.o6)
def g_law17_awake.o4 : List AOper :=
  (⟨some 42, .mv (.t 5), [], [], (some (13, 41, true)), none⟩ ::
     ⟨some 43, .bin .eql (.t 42) (.c (.d (.int .i64 0))), [], [], (some (13, 41, true)), (some ([1, 4, 7, 41, 43], (some [1, 4])))⟩ ::
     g_law17_awake.o5)
def g_law17_awake.o3 : List AOper :=
  (⟨some 40, .pick (.t 35) (.t 39) (.c (.d (.bool false))), [], [], none, none⟩ ::
     ⟨some 41, .mv (.t 40), [], [], none, (some ([1, 4, 5, 7, 41], (some [1, 4])))⟩ ::
     g_law17_awake.o4)
def g_law17_awake.o2 : List AOper :=
  (⟨some 36, .faddr 3 (.t 3), [], [], (some (7, 35, true)), none⟩ ::
     ⟨some 37, .load none (.t 36), [], [], (some (7, 35, true)), none⟩ ::
     ⟨some 38, .len (.t 37), [], [], (some (7, 35, true)), none⟩ ::
     ⟨some 39, .bin .eql (.t 38) (.c (.d (.int .i64 1))), [], [], (some (7, 35, true)), (some ([1, 4, 5, 7, 35, 39], (some [1, 4])))⟩ ::
     g_law17_awake.o3)
def g_law17_awake.o1 : List AOper :=
  (⟨some 34, .pick (.t 30) (.t 33) (.c (.d (.bool false))), [], [], none, none⟩ ::
     ⟨some 35, .mv (.t 34), [], [], none, (some ([1, 3, 4, 5, 7, 35], (some [1, 3, 4])))⟩ ::
     g_law17_awake.o2)
def g_law17_awake.o0 : List AOper :=
  (⟨some 31, .faddr 0 (.t 3), [], [], (some (2, 30, true)), none⟩ ::
     ⟨some 32, .load none (.t 31), [], [], (some (2, 30, true)), none⟩ ::
     ⟨some 33, .bin .eql (.t 32) (.c (.d (.int .i64 7))), [], [], (some (2, 30, true)), (some ([1, 3, 4, 5, 7, 30, 33], (some [1, 3, 4])))⟩ ::
     g_law17_awake.o1)
def g_law17_awake.c0 : ACode :=
  .ret
def g_law17_awake.c1 : ACode :=
  .seq (.region [0] (some []) none
     (⟨some 28, .mv (.t 2), [], [], none, none⟩ ::
      ⟨some 29, .bin .eql (.t 28) (.c (.d (.int .i64 0))), [], [], none, none⟩ ::
      ⟨some 30, .mv (.t 29), [], [], none, (some ([1, 3, 4, 5, 7, 30], (some [1, 3, 4])))⟩ ::
      g_law17_awake.o0))
  (g_law17_awake.c0)
def g_law17_awake.c2 : ACode :=
  .seq (.region [1, 2, 3, 4, 5, 7] (some [1, 3, 4]) none
     [⟨some 23, .load (some 1) (.t 1), [], [], none, none⟩,
      ⟨some 24, .build [.d (.int .i64 0), .d (.int .i64 0), .d (.int .i64 0), .d (.int .i64 0), .d (.int .i64 0), .cap0, .d (.int .i64 0), .d (.int .i64 0), .d (.int .i64 0), .d (.int .i64 0), .d (.int .i64 0), .d (.int .i64 0), .d (.int .i64 0), .d (.int .i64 0), .d (.int .i64 0), .d (.int .i64 0), .d (.int .i64 0), .d (.int .i64 0), .cap0, .cap0, .cap0, .cap0] [(1, 1, (.c (.d (.int .i64 24276)))), (2, 1, (.c (.d (.int .i64 1))))], [], [], none, none⟩,
      ⟨some 25, .call 5 [(.t 23), (.t 24)], [], [], none, none⟩,
      ⟨some 22, .mv (.t 25), [], [], none, none⟩,
      ⟨some 26, .ext (.t 22) 0, [], [], none, none⟩,
      ⟨some 27, .ext (.t 22) 1, [], [], none, none⟩,
      ⟨some 6, .alloc 6 [.cap0], [], [], none, none⟩,
      ⟨none, .store 1 (.t 6) (.t 26), [], [], none, none⟩,
      ⟨some 7, .mv (.t 27), [], [], none, none⟩])
  (g_law17_awake.c1)
def g_law17_awake.c3 : ACode :=
  .seq (.region [1, 2, 3, 4, 5] (some [1, 3, 4]) none
     [⟨some 18, .load (some 1) (.t 1), [], [], none, none⟩,
      ⟨some 19, .call 7 [(.t 18), (.c (.d (.int .i64 0)))], [], [], none, none⟩,
      ⟨some 17, .mv (.t 19), [], [], none, none⟩,
      ⟨some 20, .ext (.t 17) 0, [], [], none, none⟩,
      ⟨some 21, .ext (.t 17) 1, [], [], none, none⟩,
      ⟨some 4, .alloc 4 [.cap0], [], [], none, none⟩,
      ⟨none, .store 1 (.t 4) (.t 20), [], [], none, none⟩,
      ⟨some 5, .mv (.t 21), [], [], none, none⟩])
  (g_law17_awake.c2)
def g_law17_awake.c4 : ACode :=
  .seq (.region [1, 2, 3] (some [1, 3]) none
     [⟨some 15, .load (some 1) (.t 1), [], [], none, none⟩,
      ⟨some 16, .call 6 [(.t 15), (.c (.d (.int .i64 1))), (.c (.d (.int .i64 2023))), (.c (.d (.int .i64 1)))], [], [], none, none⟩,
      ⟨some 3, .alloc 3 [.d (.int .i64 0), .d (.int .i64 0), .d (.int .i64 0), .cap0, .cap0], [], [], none, none⟩,
      ⟨none, .store 5 (.t 3) (.t 16), [], [], none, none⟩])
  (g_law17_awake.c3)
def g_law17_awake.code : ACode :=
  .seq (.region [] (some []) none
     [⟨some 0, .mv (.c (.d (.bool false))), [], [], none, none⟩])
  (.seq (.region [1, 2] (some [1]) none
      [⟨some 9, .build [.cap0] [], [], [], none, none⟩,
       ⟨some 10, .build [.cap0, .d (.int .i64 0), .d (.int .i64 0), .d (.int .i64 0), .d (.int .i64 0), .d (.int .i64 0), .d (.int .i64 0), .d (.int .i64 0), .d (.int .i64 0), .d (.int .i64 0), .d (.int .i64 0), .d (.int .i64 0), .d (.int .i64 0), .cap0, .cap0, .cap0] [(7, 1, (.c (.d (.int .i64 7))))], [], [], none, none⟩,
       ⟨some 11, .build [.d (.int .i64 0), .d (.int .i64 0), .d (.int .i64 0), .d (.int .i64 0), .d (.int .i64 0), .cap0, .d (.int .i64 0), .d (.int .i64 0), .d (.int .i64 0), .d (.int .i64 0), .d (.int .i64 0), .d (.int .i64 0), .d (.int .i64 0), .d (.int .i64 0), .d (.int .i64 0), .d (.int .i64 0), .d (.int .i64 0), .d (.int .i64 0), .cap0, .cap0, .cap0, .cap0] [(1, 1, (.c (.d (.int .i64 24276)))), (2, 1, (.c (.d (.int .i64 1)))), (5, 16, (.t 10))], [], [], none, none⟩,
       ⟨some 12, .call 5 [(.t 9), (.t 11)], [], [], none, none⟩,
       ⟨some 8, .mv (.t 12), [], [], none, none⟩,
       ⟨some 13, .ext (.t 8) 0, [], [], none, none⟩,
       ⟨some 14, .ext (.t 8) 1, [], [], none, none⟩,
       ⟨some 1, .alloc 1 [.cap0], [], [], none, none⟩,
       ⟨none, .store 1 (.t 1) (.t 13), [], [], none, none⟩,
       ⟨some 2, .mv (.t 14), [], [], none, none⟩])
   (g_law17_awake.c4))
def g_law17_awake : AFn := { N := 68, res := [.slot 0], own := [], frz := [], code := g_law17_awake.code }

/- paymaster/book.Add: function 5. drawn region 5: first 4, left 5 -/
def g_book_Add.c0 : ACode :=
  .seq (.region [4, 5] (some [4]) (some ([0, 1, 3, 4], .one 2 (.one 5 (.one 6 (.one 7 (.one 8 (.done)))))))
     [⟨some 20, .faddr 0 (.t 2), [], [], none, none⟩,
      ⟨some 21, .load none (.t 20), [], [0], none, none⟩,
      ⟨some 22, .call 14 [(.t 21)], [], [1], none, none⟩,
      ⟨some 23, .load (some 22) (.t 3), [], [], none, none⟩,
      ⟨some 24, .bsl none 22 [] 1 [(0, (.t 23))], [], [3], none, none⟩,
      ⟨some 25, .app none 22 256 (.t 22) (.t 24), [], [2, 4, 2], none, none⟩,
      ⟨some 26, .build [.cap0] [(0, 1, (.t 25))], [], [5], none, none⟩,
      ⟨none, .store 1 (.t 4) (.t 26), [], [6, 5, 0, 1, 2, 3, 4, 5, 6], none, none⟩,
      ⟨some 5, .mv (.c (.d (.int .i64 0))), [], [7, 0, 1, 2, 3, 4, 5, 6, 7], none, none⟩])
  (.ret)
def g_book_Add.c1 : ACode :=
  .seq (.block 0 [2, 3, 4] (some [2, 3, 4]) (.seq (.region [2, 3, 4, 6] (some [2, 3, 4]) none
       [⟨some 7, .faddr 4 (.t 3), [], [], none, none⟩,
        ⟨some 8, .load none (.t 7), [], [], none, none⟩,
        ⟨some 9, .bin .neq (.t 8) (.c (.d (.int .i64 0))), [], [], none, none⟩,
        ⟨some 6, .mv (.t 9), [], [], none, none⟩])
    (.cond (.t 6) (.seq (.region [4, 5] (some [4]) none
         [⟨some 10, .load (some 1) (.t 2), [], [], none, none⟩,
          ⟨none, .store 1 (.t 4) (.t 10), [], [], none, none⟩,
          ⟨some 5, .mv (.c (.d (.int .i64 1))), [], [], none, none⟩])
      (.ret))
     (.seq (.region [2, 3, 4, 11] (some [2, 3, 4]) none
         [⟨some 12, .load (some 1) (.t 2), [], [], none, none⟩,
          ⟨some 13, .faddr 2 (.t 3), [], [], none, none⟩,
          ⟨some 14, .load none (.t 13), [], [], none, none⟩,
          ⟨some 15, .faddr 1 (.t 3), [], [], none, none⟩,
          ⟨some 16, .load none (.t 15), [], [], none, none⟩,
          ⟨some 17, .call 8 [(.t 12), (.t 14), (.t 16)], [], [], none, none⟩,
          ⟨some 18, .bin .geq (.t 17) (.c (.d (.int .i64 0))), [], [], none, none⟩,
          ⟨some 11, .mv (.t 18), [], [], none, none⟩])
      (.cond (.t 11) (.seq (.region [4, 5] (some [4]) none
           [⟨some 19, .load (some 1) (.t 2), [], [], none, none⟩,
            ⟨none, .store 1 (.t 4) (.t 19), [], [], none, none⟩,
            ⟨some 5, .mv (.c (.d (.int .i64 6))), [], [], none, none⟩])
        (.ret))
       (.skip))))))
  (g_book_Add.c0)
def g_book_Add.code : ACode :=
  .seq (.region [2, 3, 4] (some [2, 3, 4]) none
     [⟨some 2, .box 2 1 (.t 0), [], [], none, none⟩,
      ⟨some 3, .box 3 22 (.t 1), [], [], none, none⟩,
      ⟨some 4, .alloc 4 [.cap0], [], [], none, none⟩,
      ⟨some 5, .mv (.c (.d (.int .i64 0))), [], [], none, none⟩])
  (g_book_Add.c1)
def g_book_Add : AFn := { N := 27, res := [.cell 4 (some 1), .slot 5], own := [], frz := [4], code := g_book_Add.code }

/- paymaster/book.Reverse: function 7. drawn region 9: first 4, left 5 -/
def g_book_Reverse.o1 : List AOper :=
  [⟨some 16, .pick (.t 10) (.c (.d (.bool true))) (.t 15), [], [], none, none⟩,
     ⟨some 7, .mv (.t 16), [], [], none, none⟩]
def g_book_Reverse.o0 : List AOper :=
  (⟨some 11, .mv (.t 1), [], [], (some (2, 10, false)), none⟩ ::
     ⟨some 12, .faddr 0 (.t 2), [], [], (some (2, 10, false)), none⟩ ::
     ⟨some 13, .load none (.t 12), [], [], (some (2, 10, false)), none⟩ ::
     ⟨some 14, .len (.t 13), [], [], (some (2, 10, false)), none⟩ ::
     ⟨some 15, .bin .geq (.t 11) (.t 14), [], [], (some (2, 10, false)), (some ([1, 2, 4, 10, 15], (some [2, 4])))⟩ ::
     g_book_Reverse.o1)
def g_book_Reverse.c0 : ACode :=
  .cond (.t 7) (.seq (.region [4, 5] (some [4]) none
      [⟨some 17, .load (some 1) (.t 2), [], [], none, none⟩,
       ⟨none, .store 1 (.t 4) (.t 17), [], [], none, none⟩,
       ⟨some 5, .mv (.c (.d (.int .i64 5))), [], [], none, none⟩])
   (.ret))
  (.seq (.region [1, 2, 4, 18] (some [2, 4]) none
      [⟨some 19, .faddr 0 (.t 2), [], [], none, none⟩,
       ⟨some 20, .load none (.t 19), [], [], none, none⟩,
       ⟨some 21, .mv (.t 1), [], [], none, none⟩,
       ⟨some 22, .iaddr 22 (.t 20) (.t 21), [], [], none, none⟩,
       ⟨some 23, .faddr 4 (.t 22), [], [], none, none⟩,
       ⟨some 24, .load none (.t 23), [], [], none, none⟩,
       ⟨some 25, .bin .neq (.t 24) (.c (.d (.int .i64 0))), [], [], none, none⟩,
       ⟨some 18, .mv (.t 25), [], [], none, none⟩])
   (.cond (.t 18) (.seq (.region [4, 5] (some [4]) none
        [⟨some 26, .load (some 1) (.t 2), [], [], none, none⟩,
         ⟨none, .store 1 (.t 4) (.t 26), [], [], none, none⟩,
         ⟨some 5, .mv (.c (.d (.int .i64 1))), [], [], none, none⟩])
     (.ret))
    (.seq (.region [1, 2, 4, 27] (some [2, 4]) none
        [⟨some 28, .load (some 1) (.t 2), [], [], none, none⟩,
         ⟨some 29, .mv (.t 1), [], [], none, none⟩,
         ⟨some 30, .call 9 [(.t 28), (.t 29)], [], [], none, none⟩,
         ⟨some 31, .un .not (.t 30), [], [], none, none⟩,
         ⟨some 27, .mv (.t 31), [], [], none, none⟩])
     (.cond (.t 27) (.seq (.region [4, 5] (some [4]) none
          [⟨some 32, .load (some 1) (.t 2), [], [], none, none⟩,
           ⟨none, .store 1 (.t 4) (.t 32), [], [], none, none⟩,
           ⟨some 5, .mv (.c (.d (.int .i64 6))), [], [], none, none⟩])
       (.ret))
      (.skip)))))
def g_book_Reverse.c1 : ACode :=
  .seq (.region [4, 5] (some [4]) (some ([0, 1, 3, 4], .one 2 (.one 5 (.one 6 (.one 7 (.one 8 (.done)))))))
     [⟨some 41, .faddr 0 (.t 2), [], [], none, none⟩,
      ⟨some 42, .load none (.t 41), [], [0], none, none⟩,
      ⟨some 43, .call 14 [(.t 42)], [], [1], none, none⟩,
      ⟨some 44, .load (some 22) (.t 6), [], [], none, none⟩,
      ⟨some 45, .bsl none 22 [] 1 [(0, (.t 44))], [], [3], none, none⟩,
      ⟨some 46, .app none 22 256 (.t 43) (.t 45), [], [2, 4, 2], none, none⟩,
      ⟨some 47, .build [.cap0] [(0, 1, (.t 46))], [], [5], none, none⟩,
      ⟨none, .store 1 (.t 4) (.t 47), [], [6, 5, 0, 1, 2, 3, 4, 5, 6], none, none⟩,
      ⟨some 5, .mv (.c (.d (.int .i64 0))), [], [7, 0, 1, 2, 3, 4, 5, 6, 7], none, none⟩])
  (.ret)
def g_book_Reverse.c2 : ACode :=
  .seq (.region [2, 4, 6] (some [2, 4, 6]) none
     [⟨some 38, .mv (.t 1), [], [], none, none⟩,
      ⟨some 39, .bin .add (.t 38) (.c (.d (.int .i64 1))), [], [], none, none⟩,
      ⟨some 40, .faddr 4 (.t 6), [], [], none, none⟩,
      ⟨none, .store 1 (.t 40) (.t 39), [], [], none, none⟩])
  (g_book_Reverse.c1)
def g_book_Reverse.c3 : ACode :=
  .seq (.region [1, 2, 4, 6] (some [2, 4, 6]) none
     [⟨some 33, .faddr 0 (.t 2), [], [], none, none⟩,
      ⟨some 34, .load none (.t 33), [], [], none, none⟩,
      ⟨some 35, .mv (.t 1), [], [], none, none⟩,
      ⟨some 36, .iaddr 22 (.t 34) (.t 35), [], [], none, none⟩,
      ⟨some 37, .load (some 22) (.t 36), [], [], none, none⟩,
      ⟨some 6, .alloc 6 [.d (.int .i64 0), .d (.int .i64 0), .d (.int .i64 0), .d (.int .i64 0), .d (.int .i64 0), .cap0, .d (.int .i64 0), .d (.int .i64 0), .d (.int .i64 0), .d (.int .i64 0), .d (.int .i64 0), .d (.int .i64 0), .d (.int .i64 0), .d (.int .i64 0), .d (.int .i64 0), .d (.int .i64 0), .d (.int .i64 0), .d (.int .i64 0), .cap0, .cap0, .cap0, .cap0], [], [], none, none⟩,
      ⟨none, .store 22 (.t 6) (.t 37), [], [], none, none⟩])
  (g_book_Reverse.c2)
def g_book_Reverse.code : ACode :=
  .seq (.region [1, 2, 4] (some [2, 4]) none
     [⟨some 2, .box 2 1 (.t 0), [], [], none, none⟩,
      ⟨some 4, .alloc 4 [.cap0], [], [], none, none⟩,
      ⟨some 5, .mv (.c (.d (.int .i64 0))), [], [], none, none⟩])
  (.seq (.block 0 [1, 2, 4] (some [2, 4]) (.seq (.region [1, 2, 4, 7] (some [2, 4]) none
        (⟨some 8, .mv (.t 1), [], [], none, none⟩ ::
         ⟨some 9, .bin .lss (.t 8) (.c (.d (.int .i64 0))), [], [], none, none⟩ ::
         ⟨some 10, .mv (.t 9), [], [], none, (some ([1, 2, 4, 10], (some [2, 4])))⟩ ::
         g_book_Reverse.o0))
     (g_book_Reverse.c0)))
   (g_book_Reverse.c3))
def g_book_Reverse : AFn := { N := 48, res := [.cell 4 (some 1), .slot 5], own := [], frz := [4], code := g_book_Reverse.code }

/- paymaster/book.Live: function 9.  -/
def g_book_Live.o5 : List AOper :=
  [⟨some 29, .pick (.t 23) (.t 28) (.c (.d (.bool false))), [], [], none, none⟩,
     ⟨some 4, .mv (.t 29), [], [], none, none⟩]
def g_book_Live.o4 : List AOper :=
  (⟨some 24, .faddr 0 (.t 2), [], [], (some (18, 23, true)), none⟩ ::
     ⟨some 25, .load none (.t 24), [], [], (some (18, 23, true)), none⟩ ::
     ⟨some 26, .fnv 30 [(.t 3)], [], [], (some (18, 23, true)), none⟩ ::
     ⟨some 27, .call 15 [(.t 25), (.t 26)], [], [], (some (18, 23, true)), none⟩ ::
     ⟨some 28, .un .not (.t 27), [], [], (some (18, 23, true)), (some ([23, 28], (some [])))⟩ ::
     g_book_Live.o5)
def g_book_Live.o3 : List AOper :=
  (⟨some 22, .pick (.t 14) (.t 21) (.c (.d (.bool false))), [], [], none, none⟩ ::
     ⟨some 23, .mv (.t 22), [], [], none, (some ([2, 3, 23], (some [2, 3])))⟩ ::
     g_book_Live.o4)
def g_book_Live.o2 : List AOper :=
  (⟨some 15, .faddr 0 (.t 2), [], [], (some (9, 14, true)), none⟩ ::
     ⟨some 16, .load none (.t 15), [], [], (some (9, 14, true)), none⟩ ::
     ⟨some 17, .load none (.t 3), [], [], (some (9, 14, true)), none⟩ ::
     ⟨some 18, .iaddr 22 (.t 16) (.t 17), [], [], (some (9, 14, true)), none⟩ ::
     ⟨some 19, .faddr 4 (.t 18), [], [], (some (9, 14, true)), none⟩ ::
     ⟨some 20, .load none (.t 19), [], [], (some (9, 14, true)), none⟩ ::
     ⟨some 21, .bin .eql (.t 20) (.c (.d (.int .i64 0))), [], [], (some (9, 14, true)), (some ([2, 3, 14, 21], (some [2, 3])))⟩ ::
     g_book_Live.o3)
def g_book_Live.o1 : List AOper :=
  (⟨some 13, .pick (.t 7) (.t 12) (.c (.d (.bool false))), [], [], none, none⟩ ::
     ⟨some 14, .mv (.t 13), [], [], none, (some ([2, 3, 14], (some [2, 3])))⟩ ::
     g_book_Live.o2)
def g_book_Live.o0 : List AOper :=
  (⟨some 8, .load none (.t 3), [], [], (some (2, 7, true)), none⟩ ::
     ⟨some 9, .faddr 0 (.t 2), [], [], (some (2, 7, true)), none⟩ ::
     ⟨some 10, .load none (.t 9), [], [], (some (2, 7, true)), none⟩ ::
     ⟨some 11, .len (.t 10), [], [], (some (2, 7, true)), none⟩ ::
     ⟨some 12, .bin .lss (.t 8) (.t 11), [], [], (some (2, 7, true)), (some ([2, 3, 7, 12], (some [2, 3])))⟩ ::
     g_book_Live.o1)
def g_book_Live.c0 : ACode :=
  .ret
def g_book_Live.code : ACode :=
  .seq (.region [2, 3] (some [2, 3]) none
     [⟨some 2, .box 2 1 (.t 0), [], [], none, none⟩,
      ⟨some 3, .box 3 1 (.t 1), [], [], none, none⟩,
      ⟨some 4, .mv (.c (.d (.bool false))), [], [], none, none⟩])
  (.seq (.region [4] (some []) none
      (⟨some 5, .load none (.t 3), [], [], none, none⟩ ::
       ⟨some 6, .bin .geq (.t 5) (.c (.d (.int .i64 0))), [], [], none, none⟩ ::
       ⟨some 7, .mv (.t 6), [], [], none, (some ([2, 3, 7], (some [2, 3])))⟩ ::
       g_book_Live.o0))
   (g_book_Live.c0))
def g_book_Live : AFn := { N := 30, res := [.slot 4], own := [], frz := [], code := g_book_Live.code }

/- paymaster/paymasterref17.Live: function 10.  -/
def g_ref17_Live.o3 : List AOper :=
  [⟨some 21, .pick (.t 14) (.c (.d (.bool true))) (.t 20), [], [], none, none⟩]
def g_ref17_Live.o2 : List AOper :=
  (⟨some 15, .mv (.t 0), [], [], (some (8, 14, false)), none⟩ ::
     ⟨some 16, .mv (.t 1), [], [], (some (8, 14, false)), none⟩ ::
     ⟨some 17, .iaddr 22 (.t 15) (.t 16), [], [], (some (8, 14, false)), none⟩ ::
     ⟨some 18, .faddr 4 (.t 17), [], [], (some (8, 14, false)), none⟩ ::
     ⟨some 19, .load none (.t 18), [], [], (some (8, 14, false)), none⟩ ::
     ⟨some 20, .bin .neq (.t 19) (.c (.d (.int .i64 0))), [], [], (some (8, 14, false)), (some ([0, 1, 14, 20], (some [])))⟩ ::
     g_ref17_Live.o3)
def g_ref17_Live.o1 : List AOper :=
  (⟨some 13, .pick (.t 8) (.c (.d (.bool true))) (.t 12), [], [], none, none⟩ ::
     ⟨some 14, .mv (.t 13), [], [], none, (some ([0, 1, 14], (some [])))⟩ ::
     g_ref17_Live.o2)
def g_ref17_Live.o0 : List AOper :=
  (⟨some 9, .mv (.t 1), [], [], (some (2, 8, false)), none⟩ ::
     ⟨some 10, .mv (.t 0), [], [], (some (2, 8, false)), none⟩ ::
     ⟨some 11, .len (.t 10), [], [], (some (2, 8, false)), none⟩ ::
     ⟨some 12, .bin .geq (.t 9) (.t 11), [], [], (some (2, 8, false)), (some ([0, 1, 8, 12], (some [])))⟩ ::
     g_ref17_Live.o1)
def g_ref17_Live.c0 : ACode :=
  .cond (.t 21) (.seq (.region [4] (some []) none
      [⟨some 4, .mv (.c (.d (.bool false))), [], [], none, none⟩])
   (.ret))
  (.skip)
def g_ref17_Live.c1 : ACode :=
  .region [0, 1, 5] (some []) none
    [⟨some 26, .mv (.t 5), [], [], none, none⟩,
     ⟨some 27, .bin .add (.t 26) (.c (.d (.int .i64 1))), [], [], none, none⟩,
     ⟨some 5, .mv (.t 27), [], [], none, none⟩]
def g_ref17_Live.c2 : ACode :=
  .seq (.block 1 [0, 1, 5] (some []) (.seq (.region [0, 1, 5, 35] (some []) none
       [⟨some 28, .mv (.t 0), [], [], none, none⟩,
        ⟨some 29, .mv (.t 5), [], [], none, none⟩,
        ⟨some 30, .iaddr 22 (.t 28) (.t 29), [], [], none, none⟩,
        ⟨some 31, .faddr 4 (.t 30), [], [], none, none⟩,
        ⟨some 32, .load none (.t 31), [], [], none, none⟩,
        ⟨some 33, .mv (.t 1), [], [], none, none⟩,
        ⟨some 34, .bin .add (.t 33) (.c (.d (.int .i64 1))), [], [], none, none⟩,
        ⟨some 35, .bin .eql (.t 32) (.t 34), [], [], none, none⟩])
    (.cond (.t 35) (.seq (.region [4] (some []) none
         [⟨some 4, .mv (.c (.d (.bool false))), [], [], none, none⟩])
      (.ret))
     (.skip))))
  (g_ref17_Live.c1)
def g_ref17_Live.l0 : ACode :=
  .loop [0, 1, 5] (some []) (.seq (.seq (.region [0, 1, 5, 25] (some []) none
      [⟨some 22, .mv (.t 5), [], [], none, none⟩,
       ⟨some 23, .mv (.t 0), [], [], none, none⟩,
       ⟨some 24, .len (.t 23), [], [], none, none⟩,
       ⟨some 25, .bin .lss (.t 22) (.t 24), [], [], none, none⟩])
   (.cond (.t 25) (.skip)
    (.exit 0)))
  (g_ref17_Live.c2))
def g_ref17_Live.c3 : ACode :=
  .seq (.region [4] (some []) none
     [⟨some 4, .mv (.c (.d (.bool true))), [], [], none, none⟩])
  (.ret)
def g_ref17_Live.c4 : ACode :=
  .seq (.seq (.region [0, 1, 5] (some []) none
      [⟨some 5, .mv (.c (.d (.int .i64 0))), [], [], none, none⟩])
   (.block 0 [] (some []) (g_ref17_Live.l0)))
  (g_ref17_Live.c3)
def g_ref17_Live.code : ACode :=
  .seq (.region [0, 1] (some []) none
     [⟨some 4, .mv (.c (.d (.bool false))), [], [], none, none⟩])
  (.seq (.seq (.region [0, 1, 21] (some []) none
       (⟨some 6, .mv (.t 1), [], [], none, none⟩ ::
        ⟨some 7, .bin .lss (.t 6) (.c (.d (.int .i64 0))), [], [], none, none⟩ ::
        ⟨some 8, .mv (.t 7), [], [], none, (some ([0, 1, 8], (some [])))⟩ ::
        g_ref17_Live.o0))
    (g_ref17_Live.c0))
   (g_ref17_Live.c4))
def g_ref17_Live : AFn := { N := 36, res := [.slot 4], own := [], frz := [], code := g_ref17_Live.code }

/- paymaster/book.Find: function 8.  -/
def g_book_Find.o3 : List AOper :=
  [⟨some 31, .pick (.t 27) (.t 30) (.c (.d (.bool false))), [], [], none, none⟩]
def g_book_Find.o2 : List AOper :=
  (⟨some 28, .load (some 1) (.t 3), [], [], (some (10, 27, true)), none⟩ ::
     ⟨some 29, .mv (.t 7), [], [], (some (10, 27, true)), none⟩ ::
     ⟨some 30, .call 9 [(.t 28), (.t 29)], [], [], (some (10, 27, true)), (some ([1, 2, 3, 7, 10, 11, 12, 27, 30], (some [3])))⟩ ::
     g_book_Find.o3)
def g_book_Find.o1 : List AOper :=
  (⟨some 26, .pick (.t 21) (.t 25) (.c (.d (.bool false))), [], [], none, none⟩ ::
     ⟨some 27, .mv (.t 26), [], [], none, (some ([1, 2, 3, 7, 10, 11, 12, 27], (some [3])))⟩ ::
     g_book_Find.o2)
def g_book_Find.o0 : List AOper :=
  (⟨some 22, .faddr 1 (.t 8), [], [], (some (4, 21, true)), none⟩ ::
     ⟨some 23, .load none (.t 22), [], [], (some (4, 21, true)), none⟩ ::
     ⟨some 24, .mv (.t 2), [], [], (some (4, 21, true)), none⟩ ::
     ⟨some 25, .bin .eql (.t 23) (.t 24), [], [], (some (4, 21, true)), (some ([1, 2, 3, 7, 10, 11, 12, 21, 25], (some [3])))⟩ ::
     g_book_Find.o1)
def g_book_Find.c0 : ACode :=
  .cond (.t 31) (.seq (.region [6] (some []) none
      [⟨some 32, .mv (.t 7), [], [], none, none⟩,
       ⟨some 6, .mv (.t 32), [], [], none, none⟩])
   (.ret))
  (.skip)
def g_book_Find.c1 : ACode :=
  .seq (.region [1, 2, 3, 7, 10, 11, 12, 31] (some [3]) none
     (⟨some 17, .faddr 2 (.t 8), [], [], none, none⟩ ::
      ⟨some 18, .load none (.t 17), [], [], none, none⟩ ::
      ⟨some 19, .mv (.t 1), [], [], none, none⟩ ::
      ⟨some 20, .bin .eql (.t 18) (.t 19), [], [], none, none⟩ ::
      ⟨some 21, .mv (.t 20), [], [], none, (some ([1, 2, 3, 7, 8, 10, 11, 12, 21], (some [3, 8])))⟩ ::
      g_book_Find.o0))
  (g_book_Find.c0)
def g_book_Find.c2 : ACode :=
  .region [1, 2, 3, 10, 11, 12] (some [3]) none
    [⟨some 33, .bin .add (.t 12) (.c (.d (.int .i64 1))), [], [], none, none⟩,
     ⟨some 12, .mv (.t 33), [], [], none, none⟩]
def g_book_Find.l0 : ACode :=
  .loop [1, 2, 3, 10, 11, 12] (some [3]) (.seq (.region [1, 2, 3, 10, 11, 12, 13] (some [3]) none
     [⟨some 13, .bin .lss (.t 12) (.t 11), [], [], none, none⟩])
  (.seq (.cond (.t 13) (.skip)
    (.exit 0))
   (.seq (.block 1 [1, 2, 3, 10, 11, 12] (some [3]) (.seq (.region [1, 2, 3, 7, 8, 10, 11, 12] (some [3, 8]) none
         [⟨some 14, .mv (.t 12), [], [], none, none⟩,
          ⟨some 15, .iaddr 22 (.t 10) (.t 12), [], [], none, none⟩,
          ⟨some 16, .load (some 22) (.t 15), [], [], none, none⟩,
          ⟨some 8, .alloc 8 [.d (.int .i64 0), .d (.int .i64 0), .d (.int .i64 0), .d (.int .i64 0), .d (.int .i64 0), .cap0, .d (.int .i64 0), .d (.int .i64 0), .d (.int .i64 0), .d (.int .i64 0), .d (.int .i64 0), .d (.int .i64 0), .d (.int .i64 0), .d (.int .i64 0), .d (.int .i64 0), .d (.int .i64 0), .d (.int .i64 0), .d (.int .i64 0), .cap0, .cap0, .cap0, .cap0], [], [], none, none⟩,
          ⟨some 7, .mv (.t 14), [], [], none, none⟩,
          ⟨none, .store 22 (.t 8) (.t 16), [], [], none, none⟩])
      (g_book_Find.c1)))
    (g_book_Find.c2))))
def g_book_Find.c3 : ACode :=
  .block 0 [] (some []) (g_book_Find.l0)
def g_book_Find.c4 : ACode :=
  .seq (.region [6] (some []) none
     [⟨some 6, .mv (.c (.d (.int .i64 (-1)))), [], [], none, none⟩])
  (.ret)
def g_book_Find.code : ACode :=
  .seq (.region [1, 2, 3] (some [3]) none
     [⟨some 3, .box 3 1 (.t 0), [], [], none, none⟩,
      ⟨some 6, .mv (.c (.d (.int .i64 0))), [], [], none, none⟩])
  (.seq (.seq (.region [1, 2, 3, 10, 11, 12] (some [3]) none
       [⟨some 9, .faddr 0 (.t 3), [], [], none, none⟩,
        ⟨some 10, .load none (.t 9), [], [], none, none⟩,
        ⟨some 11, .len (.t 10), [], [], none, none⟩,
        ⟨some 12, .mv (.c (.d (.int .i64 0))), [], [], none, none⟩])
    (g_book_Find.c3))
   (g_book_Find.c4))
def g_book_Find : AFn := { N := 34, res := [.slot 6], own := [], frz := [], code := g_book_Find.code }

/- paymaster/paymasterref17.Find: function 11.  -/
def g_ref17_Find.o3 : List AOper :=
  [⟨some 34, .pick (.t 30) (.t 33) (.c (.d (.bool false))), [], [], none, none⟩]
def g_ref17_Find.o2 : List AOper :=
  (⟨some 31, .mv (.t 0), [], [], (some (16, 30, true)), none⟩ ::
     ⟨some 32, .mv (.t 7), [], [], (some (16, 30, true)), none⟩ ::
     ⟨some 33, .call 10 [(.t 31), (.t 32)], [], [], (some (16, 30, true)), (some ([0, 1, 2, 7, 30, 33], (some [])))⟩ ::
     g_ref17_Find.o3)
def g_ref17_Find.o1 : List AOper :=
  (⟨some 29, .pick (.t 21) (.t 28) (.c (.d (.bool false))), [], [], none, none⟩ ::
     ⟨some 30, .mv (.t 29), [], [], none, (some ([0, 1, 2, 7, 30], (some [])))⟩ ::
     g_ref17_Find.o2)
def g_ref17_Find.o0 : List AOper :=
  (⟨some 22, .mv (.t 0), [], [], (some (7, 21, true)), none⟩ ::
     ⟨some 23, .mv (.t 7), [], [], (some (7, 21, true)), none⟩ ::
     ⟨some 24, .iaddr 22 (.t 22) (.t 23), [], [], (some (7, 21, true)), none⟩ ::
     ⟨some 25, .faddr 1 (.t 24), [], [], (some (7, 21, true)), none⟩ ::
     ⟨some 26, .load none (.t 25), [], [], (some (7, 21, true)), none⟩ ::
     ⟨some 27, .mv (.t 2), [], [], (some (7, 21, true)), none⟩ ::
     ⟨some 28, .bin .eql (.t 26) (.t 27), [], [], (some (7, 21, true)), (some ([0, 1, 2, 7, 21, 28], (some [])))⟩ ::
     g_ref17_Find.o1)
def g_ref17_Find.c0 : ACode :=
  .cond (.t 34) (.seq (.region [6] (some []) none
      [⟨some 35, .mv (.t 7), [], [], none, none⟩,
       ⟨some 6, .mv (.t 35), [], [], none, none⟩])
   (.ret))
  (.skip)
def g_ref17_Find.c1 : ACode :=
  .region [0, 1, 2, 7] (some []) none
    [⟨some 12, .mv (.t 7), [], [], none, none⟩,
     ⟨some 13, .bin .add (.t 12) (.c (.d (.int .i64 1))), [], [], none, none⟩,
     ⟨some 7, .mv (.t 13), [], [], none, none⟩]
def g_ref17_Find.c2 : ACode :=
  .seq (.block 1 [0, 1, 2, 7] (some []) (.seq (.region [0, 1, 2, 7, 34] (some []) none
       (⟨some 14, .mv (.t 0), [], [], none, none⟩ ::
        ⟨some 15, .mv (.t 7), [], [], none, none⟩ ::
        ⟨some 16, .iaddr 22 (.t 14) (.t 15), [], [], none, none⟩ ::
        ⟨some 17, .faddr 2 (.t 16), [], [], none, none⟩ ::
        ⟨some 18, .load none (.t 17), [], [], none, none⟩ ::
        ⟨some 19, .mv (.t 1), [], [], none, none⟩ ::
        ⟨some 20, .bin .eql (.t 18) (.t 19), [], [], none, none⟩ ::
        ⟨some 21, .mv (.t 20), [], [], none, (some ([0, 1, 2, 7, 21], (some [])))⟩ ::
        g_ref17_Find.o0))
    (g_ref17_Find.c0)))
  (g_ref17_Find.c1)
def g_ref17_Find.l0 : ACode :=
  .loop [0, 1, 2, 7] (some []) (.seq (.seq (.region [0, 1, 2, 7, 11] (some []) none
      [⟨some 8, .mv (.t 7), [], [], none, none⟩,
       ⟨some 9, .mv (.t 0), [], [], none, none⟩,
       ⟨some 10, .len (.t 9), [], [], none, none⟩,
       ⟨some 11, .bin .lss (.t 8) (.t 10), [], [], none, none⟩])
   (.cond (.t 11) (.skip)
    (.exit 0)))
  (g_ref17_Find.c2))
def g_ref17_Find.c3 : ACode :=
  .seq (.region [6] (some []) none
     [⟨some 6, .mv (.c (.d (.int .i64 (-1)))), [], [], none, none⟩])
  (.ret)
def g_ref17_Find.code : ACode :=
  .seq (.region [0, 1, 2] (some []) none
     [⟨some 6, .mv (.c (.d (.int .i64 0))), [], [], none, none⟩])
  (.seq (.seq (.region [0, 1, 2, 7] (some []) none
       [⟨some 7, .mv (.c (.d (.int .i64 0))), [], [], none, none⟩])
    (.block 0 [] (some []) (g_ref17_Find.l0)))
   (g_ref17_Find.c3))
def g_ref17_Find : AFn := { N := 36, res := [.slot 6], own := [], frz := [], code := g_ref17_Find.code }

/- paymaster/paymasterlaw17.Ref: function 12.  -/
def g_law17_Ref.o0 : List AOper :=
  [⟨some 44, .faddr 15 (.t 3), [], [], none, none⟩,
     ⟨some 45, .load none (.t 44), [], [], none, none⟩,
     ⟨some 46, .build [.cap0, .d (.int .i64 0), .d (.int .i64 0), .d (.int .i64 0), .d (.int .i64 0), .d (.int .i64 0), .d (.int .i64 0), .d (.int .i64 0), .d (.int .i64 0), .d (.int .i64 0), .d (.int .i64 0), .d (.int .i64 0), .d (.int .i64 0), .cap0, .cap0, .cap0] [(1, 3, (.t 25)), (4, 3, (.t 27)), (7, 1, (.t 29)), (8, 1, (.t 31)), (9, 1, (.t 33)), (10, 1, (.t 35)), (11, 1, (.t 37)), (12, 1, (.t 39)), (13, 1, (.t 41)), (14, 1, (.t 43)), (15, 1, (.t 45))], [], [], none, none⟩,
     ⟨some 47, .faddr 5 (.t 4), [], [], none, none⟩,
     ⟨none, .store 16 (.t 47) (.t 46), [], [], none, none⟩]
def g_law17_Ref.c0 : ACode :=
  .region [1, 2, 4, 5, 49, 50, 51] (some [1, 2, 4, 58, 74]) none
    [⟨some 55, .mv (.t 5), [], [], none, none⟩,
     ⟨some 56, .load (some 3) (.t 7), [], [], none, none⟩,
     ⟨some 57, .bsl none 3 [] 1 [(0, (.t 56))], [], [], none, none⟩,
     ⟨some 58, .app (some 58) 3 40 (.t 55) (.t 57), [], [], none, none⟩,
     ⟨some 5, .mv (.t 58), [], [], none, none⟩]
def g_law17_Ref.c1 : ACode :=
  .region [1, 2, 4, 5, 49, 50, 51] (some [1, 2, 4, 58, 74]) none
    [⟨some 59, .bin .add (.t 51) (.c (.d (.int .i64 1))), [], [], none, none⟩,
     ⟨some 51, .mv (.t 59), [], [], none, none⟩]
def g_law17_Ref.l0 : ACode :=
  .loop [1, 2, 4, 5, 49, 50, 51] (some [1, 2, 4, 58, 74]) (.seq (.region [1, 2, 4, 5, 49, 50, 51, 52] (some [1, 2, 4, 58, 74]) none
     [⟨some 52, .bin .lss (.t 51) (.t 50), [], [], none, none⟩])
  (.seq (.cond (.t 52) (.skip)
    (.exit 0))
   (.seq (.block 1 [1, 2, 4, 5, 49, 50, 51] (some [1, 2, 4, 58, 74]) (.seq (.region [1, 2, 4, 5, 7, 49, 50, 51] (some [1, 2, 4, 7, 58, 74]) none
         [⟨some 53, .iaddr 3 (.t 49) (.t 51), [], [], none, none⟩,
          ⟨some 54, .load (some 3) (.t 53), [], [], none, none⟩,
          ⟨some 7, .alloc 7 [.d (.str []), .d (.str []), .d (.int .i64 0)], [], [], none, none⟩,
          ⟨none, .store 3 (.t 7) (.t 54), [], [], none, none⟩])
      (g_law17_Ref.c0)))
    (g_law17_Ref.c1))))
def g_law17_Ref.c2 : ACode :=
  .block 0 [1, 2, 4, 5] (some [1, 2, 4, 58, 74]) (g_law17_Ref.l0)
def g_law17_Ref.c3 : ACode :=
  .region [2, 4, 5, 8, 61, 62, 63] (some [2, 4, 58, 74]) none
    [⟨some 67, .mv (.t 8), [], [], none, none⟩,
     ⟨some 68, .faddr 0 (.t 10), [], [], none, none⟩,
     ⟨some 69, .load none (.t 68), [], [], none, none⟩,
     ⟨some 70, .faddr 1 (.t 10), [], [], none, none⟩,
     ⟨some 71, .load (some 3) (.t 70), [], [], none, none⟩,
     ⟨some 72, .build [.d (.int .i64 0), .d (.int .i64 0), .d (.int .i64 0), .d (.int .i64 0)] [(0, 1, (.t 69)), (1, 3, (.t 71))], [], [], none, none⟩,
     ⟨some 73, .bsl none 4 [] 1 [(0, (.t 72))], [], [], none, none⟩,
     ⟨some 74, .app (some 74) 4 32 (.t 67) (.t 73), [], [], none, none⟩,
     ⟨some 8, .mv (.t 74), [], [], none, none⟩]
def g_law17_Ref.c4 : ACode :=
  .region [2, 4, 5, 8, 61, 62, 63] (some [2, 4, 58, 74]) none
    [⟨some 75, .bin .add (.t 63) (.c (.d (.int .i64 1))), [], [], none, none⟩,
     ⟨some 63, .mv (.t 75), [], [], none, none⟩]
def g_law17_Ref.l1 : ACode :=
  .loop [2, 4, 5, 8, 61, 62, 63] (some [2, 4, 58, 74]) (.seq (.region [2, 4, 5, 8, 61, 62, 63, 64] (some [2, 4, 58, 74]) none
     [⟨some 64, .bin .lss (.t 63) (.t 62), [], [], none, none⟩])
  (.seq (.cond (.t 64) (.skip)
    (.exit 2))
   (.seq (.block 3 [2, 4, 5, 8, 61, 62, 63] (some [2, 4, 58, 74]) (.seq (.region [2, 4, 5, 8, 10, 61, 62, 63] (some [2, 4, 10, 58, 74]) none
         [⟨some 65, .iaddr 4 (.t 61) (.t 63), [], [], none, none⟩,
          ⟨some 66, .load (some 4) (.t 65), [], [], none, none⟩,
          ⟨some 10, .alloc 10 [.d (.int .i64 0), .d (.int .i64 0), .d (.int .i64 0), .d (.int .i64 0)], [], [], none, none⟩,
          ⟨none, .store 4 (.t 10) (.t 66), [], [], none, none⟩])
      (g_law17_Ref.c3)))
    (g_law17_Ref.c4))))
def g_law17_Ref.c5 : ACode :=
  .block 2 [2, 4, 5, 8] (some [2, 4, 58, 74]) (g_law17_Ref.l1)
def g_law17_Ref.c6 : ACode :=
  .seq (.region [2] (some [2, 58, 74]) none
     [⟨some 81, .load (some 22) (.t 4), [], [], none, none⟩,
      ⟨none, .store 22 (.t 2) (.t 81), [], [], none, none⟩])
  (.ret)
def g_law17_Ref.c7 : ACode :=
  .seq (.region [2, 4] (some [2, 4, 58, 74]) none
     [⟨some 76, .mv (.t 5), [], [], none, none⟩,
      ⟨some 77, .mv (.t 8), [], [], none, none⟩,
      ⟨some 78, .faddr 5 (.t 4), [], [], none, none⟩,
      ⟨some 79, .faddr 0 (.t 78), [], [], none, none⟩,
      ⟨none, .store 1 (.t 79) (.t 76), [], [], none, none⟩,
      ⟨some 80, .faddr 21 (.t 4), [], [], none, none⟩,
      ⟨none, .store 1 (.t 80) (.t 77), [], [], none, none⟩])
  (g_law17_Ref.c6)
def g_law17_Ref.c8 : ACode :=
  .seq (.region [1, 2, 4, 5, 8] (some [1, 2, 4, 58, 74]) none
     [⟨some 8, .mv (.c (.cap0)), [], [], none, none⟩])
  (.seq (.seq (.region [2, 4, 5, 8, 61, 62, 63] (some [2, 4, 58, 74]) none
       [⟨some 60, .faddr 21 (.t 1), [], [], none, none⟩,
        ⟨some 61, .load none (.t 60), [], [], none, none⟩,
        ⟨some 62, .len (.t 61), [], [], none, none⟩,
        ⟨some 63, .mv (.c (.d (.int .i64 0))), [], [], none, none⟩])
    (g_law17_Ref.c5))
   (g_law17_Ref.c7))
def g_law17_Ref.c9 : ACode :=
  .seq (.region [1, 2, 3, 4, 5] (some [1, 2, 3, 4, 58, 74]) none
     [⟨some 5, .mv (.c (.cap0)), [], [], none, none⟩])
  (.seq (.seq (.region [1, 2, 4, 5, 49, 50, 51] (some [1, 2, 4, 58, 74]) none
       [⟨some 48, .faddr 0 (.t 3), [], [], none, none⟩,
        ⟨some 49, .load none (.t 48), [], [], none, none⟩,
        ⟨some 50, .len (.t 49), [], [], none, none⟩,
        ⟨some 51, .mv (.c (.d (.int .i64 0))), [], [], none, none⟩])
    (g_law17_Ref.c2))
   (g_law17_Ref.c8))
def g_law17_Ref.c10 : ACode :=
  .seq (.region [1, 2, 3, 4] (some [1, 2, 3, 4, 58, 74]) none
     (⟨some 24, .faddr 1 (.t 3), [], [], none, none⟩ ::
      ⟨some 25, .load (some 3) (.t 24), [], [], none, none⟩ ::
      ⟨some 26, .faddr 4 (.t 3), [], [], none, none⟩ ::
      ⟨some 27, .load (some 3) (.t 26), [], [], none, none⟩ ::
      ⟨some 28, .faddr 7 (.t 3), [], [], none, none⟩ ::
      ⟨some 29, .load none (.t 28), [], [], none, none⟩ ::
      ⟨some 30, .faddr 8 (.t 3), [], [], none, none⟩ ::
      ⟨some 31, .load none (.t 30), [], [], none, none⟩ ::
      ⟨some 32, .faddr 9 (.t 3), [], [], none, none⟩ ::
      ⟨some 33, .load none (.t 32), [], [], none, none⟩ ::
      ⟨some 34, .faddr 10 (.t 3), [], [], none, none⟩ ::
      ⟨some 35, .load none (.t 34), [], [], none, none⟩ ::
      ⟨some 36, .faddr 11 (.t 3), [], [], none, none⟩ ::
      ⟨some 37, .load none (.t 36), [], [], none, none⟩ ::
      ⟨some 38, .faddr 12 (.t 3), [], [], none, none⟩ ::
      ⟨some 39, .load none (.t 38), [], [], none, none⟩ ::
      ⟨some 40, .faddr 13 (.t 3), [], [], none, none⟩ ::
      ⟨some 41, .load none (.t 40), [], [], none, none⟩ ::
      ⟨some 42, .faddr 14 (.t 3), [], [], none, none⟩ ::
      ⟨some 43, .load none (.t 42), [], [], none, (some ([1, 2, 3, 4, 25, 27, 29, 31, 33, 35, 37, 39, 41, 43], (some [1, 2, 3, 4, 58, 74])))⟩ ::
      g_law17_Ref.o0))
  (g_law17_Ref.c9)
def g_law17_Ref.c11 : ACode :=
  .seq (.region [1, 2, 3, 4] (some [1, 2, 3, 4, 58, 74]) none
     [⟨some 13, .faddr 0 (.t 1), [], [], none, none⟩,
      ⟨some 14, .load none (.t 13), [], [], none, none⟩,
      ⟨some 15, .faddr 1 (.t 1), [], [], none, none⟩,
      ⟨some 16, .load none (.t 15), [], [], none, none⟩,
      ⟨some 17, .faddr 2 (.t 1), [], [], none, none⟩,
      ⟨some 18, .load none (.t 17), [], [], none, none⟩,
      ⟨some 19, .faddr 3 (.t 1), [], [], none, none⟩,
      ⟨some 20, .load none (.t 19), [], [], none, none⟩,
      ⟨some 21, .faddr 4 (.t 1), [], [], none, none⟩,
      ⟨some 22, .load none (.t 21), [], [], none, none⟩,
      ⟨some 23, .build [.d (.int .i64 0), .d (.int .i64 0), .d (.int .i64 0), .d (.int .i64 0), .d (.int .i64 0), .cap0, .d (.int .i64 0), .d (.int .i64 0), .d (.int .i64 0), .d (.int .i64 0), .d (.int .i64 0), .d (.int .i64 0), .d (.int .i64 0), .d (.int .i64 0), .d (.int .i64 0), .d (.int .i64 0), .d (.int .i64 0), .d (.int .i64 0), .cap0, .cap0, .cap0, .cap0] [(0, 1, (.t 14)), (1, 1, (.t 16)), (2, 1, (.t 18)), (3, 1, (.t 20)), (4, 1, (.t 22))], [], [], none, none⟩,
      ⟨some 4, .alloc 4 [.d (.int .i64 0), .d (.int .i64 0), .d (.int .i64 0), .d (.int .i64 0), .d (.int .i64 0), .cap0, .d (.int .i64 0), .d (.int .i64 0), .d (.int .i64 0), .d (.int .i64 0), .d (.int .i64 0), .d (.int .i64 0), .d (.int .i64 0), .d (.int .i64 0), .d (.int .i64 0), .d (.int .i64 0), .d (.int .i64 0), .d (.int .i64 0), .cap0, .cap0, .cap0, .cap0], [], [], none, none⟩,
      ⟨none, .store 22 (.t 4) (.t 23), [], [], none, none⟩])
  (g_law17_Ref.c10)
def g_law17_Ref.code : ACode :=
  .seq (.region [1, 2] (some [1, 2, 58, 74]) none
     [⟨some 1, .box 1 22 (.t 0), [], [], none, none⟩,
      ⟨some 2, .alloc 2 [.d (.int .i64 0), .d (.int .i64 0), .d (.int .i64 0), .d (.int .i64 0), .d (.int .i64 0), .cap0, .d (.int .i64 0), .d (.int .i64 0), .d (.int .i64 0), .d (.int .i64 0), .d (.int .i64 0), .d (.int .i64 0), .d (.int .i64 0), .d (.int .i64 0), .d (.int .i64 0), .d (.int .i64 0), .d (.int .i64 0), .d (.int .i64 0), .cap0, .cap0, .cap0, .cap0], [], [], none, none⟩])
  (.seq (.region [1, 2, 3] (some [1, 2, 3, 58, 74]) none
      [⟨some 11, .faddr 5 (.t 1), [], [], none, none⟩,
       ⟨some 12, .load (some 16) (.t 11), [], [], none, none⟩,
       ⟨some 3, .alloc 3 [.cap0, .d (.int .i64 0), .d (.int .i64 0), .d (.int .i64 0), .d (.int .i64 0), .d (.int .i64 0), .d (.int .i64 0), .d (.int .i64 0), .d (.int .i64 0), .d (.int .i64 0), .d (.int .i64 0), .d (.int .i64 0), .d (.int .i64 0), .cap0, .cap0, .cap0], [], [], none, none⟩,
       ⟨none, .store 16 (.t 3) (.t 12), [], [], none, none⟩])
   (g_law17_Ref.c11))
def g_law17_Ref : AFn := { N := 82, res := [.cell 2 (some 22)], own := [], frz := [2], code := g_law17_Ref.code }

/- paymaster/paymasterlaw17.same: function 13. drawn region 6: first 12, left 0 -/
def g_law17_same.c0 : ACode :=
  .region [1, 2, 13, 14] (some [2]) none
    [⟨some 29, .bin .add (.t 14) (.c (.d (.int .i64 1))), [], [], none, none⟩,
     ⟨some 14, .mv (.t 29), [], [], none, none⟩]
def g_law17_same.l0 : ACode :=
  .loop [1, 2, 13, 14] (some [2]) (.seq (.region [1, 2, 13, 14, 15] (some [2]) none
     [⟨some 15, .bin .lss (.t 14) (.t 13), [], [], none, none⟩])
  (.seq (.cond (.t 15) (.skip)
    (.exit 0))
   (.seq (.block 1 [1, 2, 13, 14] (some [2]) (.seq (.region [1, 2, 5, 13, 14] (some [2]) none
         [⟨some 16, .mv (.t 14), [], [], none, none⟩,
          ⟨some 5, .mv (.t 16), [], [], none, none⟩])
      (.seq (.region [1, 2, 13, 14, 28] (some [2]) (some ([0, 1, 2, 3, 4, 5, 6, 7, 8, 9, 10, 11], .done))
          [⟨some 17, .faddr 0 (.t 2), [], [], none, none⟩,
           ⟨some 18, .load none (.t 17), [], [0], none, none⟩,
           ⟨some 19, .mv (.t 5), [], [], none, none⟩,
           ⟨some 20, .iaddr 22 (.t 18) (.t 19), [], [1, 2], none, none⟩,
           ⟨some 21, .load (some 22) (.t 20), [], [3], none, none⟩,
           ⟨some 22, .call 12 [(.t 21)], [], [4], none, none⟩,
           ⟨some 23, .mv (.t 1), [], [], none, none⟩,
           ⟨some 24, .mv (.t 5), [], [], none, none⟩,
           ⟨some 25, .iaddr 22 (.t 23) (.t 24), [], [6, 7], none, none⟩,
           ⟨some 26, .load (some 22) (.t 25), [], [8], none, none⟩,
           ⟨some 27, .call 17 [(.t 22), (.t 26)], [], [5, 9, 5], none, none⟩,
           ⟨some 28, .un .not (.t 27), [], [10], none, none⟩])
       (.cond (.t 28) (.seq (.region [4] (some []) none
            [⟨some 4, .mv (.c (.d (.bool false))), [], [], none, none⟩])
         (.ret))
        (.skip)))))
    (g_law17_same.c0))))
def g_law17_same.c1 : ACode :=
  .seq (.region [4] (some []) none
     [⟨some 4, .mv (.c (.d (.bool true))), [], [], none, none⟩])
  (.ret)
def g_law17_same.c2 : ACode :=
  .seq (.seq (.region [1, 2, 13, 14] (some [2]) none
      [⟨some 12, .mv (.t 1), [], [], none, none⟩,
       ⟨some 13, .len (.t 12), [], [], none, none⟩,
       ⟨some 14, .mv (.c (.d (.int .i64 0))), [], [], none, none⟩])
   (.block 0 [] (some []) (g_law17_same.l0)))
  (g_law17_same.c1)
def g_law17_same.code : ACode :=
  .seq (.region [1, 2] (some [2]) none
     [⟨some 2, .box 2 1 (.t 0), [], [], none, none⟩,
      ⟨some 4, .mv (.c (.d (.bool false))), [], [], none, none⟩])
  (.seq (.seq (.region [1, 2, 11] (some [2]) none
       [⟨some 6, .faddr 0 (.t 2), [], [], none, none⟩,
        ⟨some 7, .load none (.t 6), [], [], none, none⟩,
        ⟨some 8, .len (.t 7), [], [], none, none⟩,
        ⟨some 9, .mv (.t 1), [], [], none, none⟩,
        ⟨some 10, .len (.t 9), [], [], none, none⟩,
        ⟨some 11, .bin .neq (.t 8) (.t 10), [], [], none, none⟩])
    (.cond (.t 11) (.seq (.region [4] (some []) none
         [⟨some 4, .mv (.c (.d (.bool false))), [], [], none, none⟩])
      (.ret))
     (.skip)))
   (g_law17_same.c2))
def g_law17_same : AFn := { N := 30, res := [.slot 4], own := [], frz := [], code := g_law17_same.code }

/- paymaster/book.Year: function 6. drawn region 2: first 2, left 5 -/
def g_book_Year.a0 : List AOper :=
  [⟨some 16, .mv (.t 9), [], [], none, none⟩,
     ⟨some 17, .mks (some 17) 1 8 [(.int .i64 0)] (.t 16), [], [0, 0], none, none⟩,
     ⟨some 18, .mv (.t 9), [], [], none, none⟩,
     ⟨some 19, .mks (some 19) 1 8 [(.int .i64 0)] (.t 18), [], [2, 2], none, none⟩,
     ⟨some 20, .build [.d (.int .i64 0), .d (.int .i64 0), .d (.int .i64 0), .cap0, .cap0] [(3, 1, (.t 17)), (4, 1, (.t 19))], [], [1, 3], none, none⟩,
     ⟨some 10, .alloc 10 [.d (.int .i64 0), .d (.int .i64 0), .d (.int .i64 0), .cap0, .cap0], [], [], none, none⟩,
     ⟨none, .store 5 (.t 10) (.t 20), [], [5, 4, 0, 1, 2, 3, 4, 5], none, none⟩]
def g_book_Year.t2 : Tr := .one 6 .done
def g_book_Year.t3 : Tr := .one 5 g_book_Year.t2
def g_book_Year.t4 : Tr := .one 4 g_book_Year.t2
def g_book_Year.t5 : Tr := .one 5 g_book_Year.t4
def g_book_Year.t6 : Tr := .two 4 g_book_Year.t3 g_book_Year.t5
def g_book_Year.t7 : Tr := .one 3 g_book_Year.t4
def g_book_Year.t8 : Tr := .one 5 g_book_Year.t7
def g_book_Year.t9 : Tr := .two 3 g_book_Year.t6 g_book_Year.t8
def g_book_Year.t10 : Tr := .one 1 g_book_Year.t4
def g_book_Year.t11 : Tr := .one 5 g_book_Year.t10
def g_book_Year.t12 : Tr := .two 1 g_book_Year.t6 g_book_Year.t11
def g_book_Year.t13 : Tr := .one 3 g_book_Year.t10
def g_book_Year.t14 : Tr := .two 1 g_book_Year.t7 g_book_Year.t13
def g_book_Year.t15 : Tr := .one 5 g_book_Year.t14
def g_book_Year.t16 : Tr := .two 3 g_book_Year.t12 g_book_Year.t15
def g_book_Year.t17 : Tr := .two 1 g_book_Year.t9 g_book_Year.t16
def g_book_Year.i1 : List Nat := 2 :: []
def g_book_Year.c0 : ACode :=
  .region [2, 8, 10, 23, 24, 25] (some [8, 10, 17, 19]) none
    [⟨some 67, .faddr 4 (.t 10), [], [], none, none⟩,
     ⟨some 68, .load none (.t 67), [], [], none, none⟩,
     ⟨some 69, .faddr 5 (.t 12), [], [], none, none⟩,
     ⟨some 70, .faddr 14 (.t 69), [], [], none, none⟩,
     ⟨some 71, .load none (.t 70), [], [], none, none⟩,
     ⟨some 72, .call 19 [(.t 68), (.t 71)], [71], [], none, none⟩]
def g_book_Year.c1 : ACode :=
  .seq (.region [2, 8, 10, 12, 23, 24, 25] (some [8, 10, 12, 17, 19]) none
     [⟨some 61, .faddr 3 (.t 10), [], [], none, none⟩,
      ⟨some 62, .load none (.t 61), [], [], none, none⟩,
      ⟨some 63, .faddr 5 (.t 12), [], [], none, none⟩,
      ⟨some 64, .faddr 13 (.t 63), [], [], none, none⟩,
      ⟨some 65, .load none (.t 64), [], [], none, none⟩,
      ⟨some 66, .call 19 [(.t 62), (.t 65)], [65], [], none, none⟩])
  (g_book_Year.c0)
def g_book_Year.c2 : ACode :=
  .seq (.region [2, 8, 10, 12, 23, 24, 25] (some [8, 10, 12, 17, 19]) none
     [⟨some 54, .faddr 2 (.t 10), [], [], none, none⟩,
      ⟨some 55, .load none (.t 54), [], [], none, none⟩,
      ⟨some 56, .faddr 5 (.t 12), [], [], none, none⟩,
      ⟨some 57, .faddr 8 (.t 56), [], [], none, none⟩,
      ⟨some 58, .load none (.t 57), [], [], none, none⟩,
      ⟨some 59, .bin .add (.t 55) (.t 58), [], [], none, none⟩,
      ⟨some 60, .faddr 2 (.t 10), [], [], none, none⟩,
      ⟨none, .store 1 (.t 60) (.t 59), [], [], none, none⟩])
  (g_book_Year.c1)
def g_book_Year.c3 : ACode :=
  .seq (.region [2, 8, 10, 12, 23, 24, 25] (some [8, 10, 12, 17, 19]) none
     [⟨some 41, .faddr 1 (.t 10), [], [], none, none⟩,
      ⟨some 42, .load none (.t 41), [], [], none, none⟩,
      ⟨some 43, .faddr 5 (.t 12), [], [], none, none⟩,
      ⟨some 44, .faddr 1 (.t 43), [], [], none, none⟩,
      ⟨some 45, .faddr 0 (.t 44), [], [], none, none⟩,
      ⟨some 46, .load none (.t 45), [], [], none, none⟩,
      ⟨some 47, .faddr 5 (.t 12), [], [], none, none⟩,
      ⟨some 48, .faddr 4 (.t 47), [], [], none, none⟩,
      ⟨some 49, .faddr 0 (.t 48), [], [], none, none⟩,
      ⟨some 50, .load none (.t 49), [], [], none, none⟩,
      ⟨some 51, .bin .add (.t 46) (.t 50), [], [], none, none⟩,
      ⟨some 52, .bin .add (.t 42) (.t 51), [], [], none, none⟩,
      ⟨some 53, .faddr 1 (.t 10), [], [], none, none⟩,
      ⟨none, .store 1 (.t 53) (.t 52), [], [], none, none⟩])
  (g_book_Year.c2)
def g_book_Year.c4 : ACode :=
  .seq (.region [2, 8, 10, 12, 23, 24, 25] (some [8, 10, 12, 17, 19]) none
     [⟨some 34, .faddr 0 (.t 10), [], [], none, none⟩,
      ⟨some 35, .load none (.t 34), [], [], none, none⟩,
      ⟨some 36, .faddr 5 (.t 12), [], [], none, none⟩,
      ⟨some 37, .faddr 7 (.t 36), [], [], none, none⟩,
      ⟨some 38, .load none (.t 37), [], [], none, none⟩,
      ⟨some 39, .bin .add (.t 35) (.t 38), [], [], none, none⟩,
      ⟨some 40, .faddr 0 (.t 10), [], [], none, none⟩,
      ⟨none, .store 1 (.t 40) (.t 39), [], [], none, none⟩])
  (g_book_Year.c3)
def g_book_Year.c5 : ACode :=
  .seq (.seq (.region [2, 8, 10, 12, 23, 24, 25, 33] (some [8, 10, 12, 17, 19]) none
      [⟨some 29, .faddr 1 (.t 12), [], [], none, none⟩,
       ⟨some 30, .load none (.t 29), [], [], none, none⟩,
       ⟨some 31, .bin .quo (.t 30) (.c (.d (.int .i64 12))), [], [], none, none⟩,
       ⟨some 32, .mv (.t 2), [], [], none, none⟩,
       ⟨some 33, .bin .neq (.t 31) (.t 32), [], [], none, none⟩])
   (.cond (.t 33) (.exit 1)
    (.skip)))
  (g_book_Year.c4)
def g_book_Year.c6 : ACode :=
  .region [2, 8, 10, 23, 24, 25] (some [8, 10, 17, 19]) none
    [⟨some 73, .bin .add (.t 25) (.c (.d (.int .i64 1))), [], [], none, none⟩,
     ⟨some 25, .mv (.t 73), [], [], none, none⟩]
def g_book_Year.l0 : ACode :=
  .loop [2, 8, 10, 23, 24, 25] (some [8, 10, 17, 19]) (.seq (.region [2, 8, 10, 23, 24, 25, 26] (some [8, 10, 17, 19]) none
     [⟨some 26, .bin .lss (.t 25) (.t 24), [], [], none, none⟩])
  (.seq (.cond (.t 26) (.skip)
    (.exit 0))
   (.seq (.block 1 [2, 8, 10, 23, 24, 25] (some [8, 10, 17, 19]) (.seq (.region [2, 8, 10, 12, 23, 24, 25] (some [8, 10, 12, 17, 19]) none
         [⟨some 27, .iaddr 22 (.t 23) (.t 25), [], [], none, none⟩,
          ⟨some 28, .load (some 22) (.t 27), [], [], none, none⟩,
          ⟨some 12, .alloc 12 [.d (.int .i64 0), .d (.int .i64 0), .d (.int .i64 0), .d (.int .i64 0), .d (.int .i64 0), .cap0, .d (.int .i64 0), .d (.int .i64 0), .d (.int .i64 0), .d (.int .i64 0), .d (.int .i64 0), .d (.int .i64 0), .d (.int .i64 0), .d (.int .i64 0), .d (.int .i64 0), .d (.int .i64 0), .d (.int .i64 0), .d (.int .i64 0), .cap0, .cap0, .cap0, .cap0], [], [], none, none⟩,
          ⟨none, .store 22 (.t 12) (.t 28), [], [], none, none⟩])
      (g_book_Year.c5)))
    (g_book_Year.c6))))
def g_book_Year.c7 : ACode :=
  .block 0 [8, 10] (some [8, 10, 17, 19]) (g_book_Year.l0)
def g_book_Year.c8 : ACode :=
  .seq (.region [8] (some [8, 17, 19]) none
     [⟨some 74, .load (some 5) (.t 10), [], [], none, none⟩,
      ⟨none, .store 5 (.t 8) (.t 74), [], [], none, none⟩])
  (.ret)
def g_book_Year.c9 : ACode :=
  .seq (.seq (.region [2, 8, 10, 23, 24, 25] (some [8, 10, 17, 19]) none
      [⟨some 21, .load (some 1) (.t 4), [], [], none, none⟩,
       ⟨some 22, .mv (.t 1), [], [], none, none⟩,
       ⟨some 23, .call 18 [(.t 21), (.t 22)], [], [], none, none⟩,
       ⟨some 24, .len (.t 23), [], [], none, none⟩,
       ⟨some 25, .mv (.c (.d (.int .i64 0))), [], [], none, none⟩])
   (g_book_Year.c7))
  (g_book_Year.c8)
def g_book_Year.c10 : ACode :=
  .seq (.region [1, 2, 4, 8, 10] (some [4, 8, 10, 17, 19]) (some (0 :: g_book_Year.i1, g_book_Year.t17)) g_book_Year.a0)
  (g_book_Year.c9)
def g_book_Year.code : ACode :=
  .seq (.region [1, 2, 3, 4, 8] (some [4, 8, 17, 19]) none
     [⟨some 4, .box 4 1 (.t 0), [], [], none, none⟩,
      ⟨some 8, .alloc 8 [.d (.int .i64 0), .d (.int .i64 0), .d (.int .i64 0), .cap0, .cap0], [], [], none, none⟩])
  (.seq (.region [1, 2, 4, 8, 9] (some [4, 8, 17, 19]) none
      [⟨some 13, .mv (.t 3), [], [], none, none⟩,
       ⟨some 14, .mm true [(.t 13), (.c (.d (.int .i64 0)))], [], [], none, none⟩,
       ⟨some 15, .mm false [(.t 14), (.c (.d (.int .i64 6)))], [], [], none, none⟩,
       ⟨some 9, .mv (.t 15), [], [], none, none⟩])
   (g_book_Year.c10))
def g_book_Year : AFn := { N := 75, res := [.cell 8 (some 5)], own := [], frz := [8], code := g_book_Year.code }

/- slices.Clone[[]paymaster/book.Entry,paymaster/book.Entry]: function 14.  -/
def g_slices_Clone_Entry.code : ACode :=
  .seq (.region [0] (some []) none
     [⟨some 2, .mv (.c (.cap0)), [], [], none, none⟩])
  (.seq (.seq (.region [0, 4] (some []) none
       [⟨some 3, .mv (.t 0), [], [], none, none⟩,
        ⟨some 4, .nilS false (.t 3), [], [], none, none⟩])
    (.cond (.t 4) (.seq (.region [2] (some [5, 7]) none
         [⟨some 2, .mv (.c (.cap0)), [], [], none, none⟩])
      (.ret))
     (.skip)))
   (.seq (.region [2] (some [5, 7]) none
       [⟨some 5, .bsl (some 5) 22 [] 0 [], [], [], none, none⟩,
        ⟨some 6, .mv (.t 0), [], [], none, none⟩,
        ⟨some 7, .app (some 7) 22 256 (.t 5) (.t 6), [], [], none, none⟩,
        ⟨some 2, .mv (.t 7), [], [], none, none⟩])
    (.ret)))
def g_slices_Clone_Entry : AFn := { N := 8, res := [.slot 2], own := [(2, 7, 22)], frz := [], code := g_slices_Clone_Entry.code }

/- slices.ContainsFunc[[]paymaster/book.Entry,paymaster/book.Entry]: function 15.  -/
def g_slices_ContainsFunc_Entry.code : ACode :=
  .seq (.region [0, 1] none none
     [⟨some 4, .mv (.c (.d (.bool false))), [], [], none, none⟩])
  (.seq (.region [4] none none
      [⟨some 5, .mv (.t 0), [], [], none, none⟩,
       ⟨some 6, .mv (.t 1), [], [], none, none⟩,
       ⟨some 7, .call 16 [(.t 5), (.t 6)], [], [], none, none⟩,
       ⟨some 8, .bin .geq (.t 7) (.c (.d (.int .i64 0))), [], [], none, none⟩,
       ⟨some 4, .mv (.t 8), [], [], none, none⟩])
   (.ret))
def g_slices_ContainsFunc_Entry : AFn := { N := 9, res := [.slot 4], own := [], frz := [], code := g_slices_ContainsFunc_Entry.code }

/- paymaster/book.Live$1: function 30.  -/
def g_book_Live_1.code : ACode :=
  .seq (.region [1, 2] none none
     [⟨some 2, .box 2 22 (.t 0), [], [], none, none⟩,
      ⟨some 3, .mv (.c (.d (.bool false))), [], [], none, none⟩])
  (.seq (.region [3] none none
      [⟨some 4, .faddr 4 (.t 2), [], [], none, none⟩,
       ⟨some 5, .load none (.t 4), [], [], none, none⟩,
       ⟨some 6, .load none (.t 1), [], [], none, none⟩,
       ⟨some 7, .bin .add (.t 6) (.c (.d (.int .i64 1))), [], [], none, none⟩,
       ⟨some 8, .bin .eql (.t 5) (.t 7), [], [], none, none⟩,
       ⟨some 3, .mv (.t 8), [], [], none, none⟩])
   (.ret))
def g_book_Live_1 : AFn := { N := 9, res := [.slot 3], own := [], frz := [], code := g_book_Live_1.code }

/- paymaster/paymasterref17.Same: function 17. drawn region 6: first 11, left 0 -/
def g_ref17_Same.o11 : List AOper :=
  [⟨some 55, .pick (.t 47) (.c (.d (.bool true))) (.t 54), [], [], none, none⟩]
def g_ref17_Same.o10 : List AOper :=
  (⟨some 48, .faddr 21 (.t 2), [], [], (some (41, 47, false)), none⟩ ::
     ⟨some 49, .load none (.t 48), [], [], (some (41, 47, false)), none⟩ ::
     ⟨some 50, .len (.t 49), [], [], (some (41, 47, false)), none⟩ ::
     ⟨some 51, .faddr 21 (.t 3), [], [], (some (41, 47, false)), none⟩ ::
     ⟨some 52, .load none (.t 51), [], [], (some (41, 47, false)), none⟩ ::
     ⟨some 53, .len (.t 52), [], [], (some (41, 47, false)), none⟩ ::
     ⟨some 54, .bin .neq (.t 50) (.t 53), [], [], (some (41, 47, false)), (some ([2, 3, 47, 54], (some [2, 3])))⟩ ::
     g_ref17_Same.o11)
def g_ref17_Same.o9 : List AOper :=
  (⟨some 46, .pick (.t 39) (.c (.d (.bool true))) (.t 45), [], [], none, none⟩ ::
     ⟨some 47, .mv (.t 46), [], [], none, (some ([2, 3, 47], (some [2, 3])))⟩ ::
     g_ref17_Same.o10)
def g_ref17_Same.o8 : List AOper :=
  (⟨some 40, .faddr 5 (.t 2), [], [], (some (33, 39, false)), none⟩ ::
     ⟨some 41, .load (some 16) (.t 40), [], [], (some (33, 39, false)), none⟩ ::
     ⟨some 42, .faddr 5 (.t 3), [], [], (some (33, 39, false)), none⟩ ::
     ⟨some 43, .load (some 16) (.t 42), [], [], (some (33, 39, false)), none⟩ ::
     ⟨some 44, .call 20 [(.t 41), (.t 43)], [], [], (some (33, 39, false)), none⟩ ::
     ⟨some 45, .un .not (.t 44), [], [], (some (33, 39, false)), (some ([2, 3, 39, 45], (some [2, 3])))⟩ ::
     g_ref17_Same.o9)
def g_ref17_Same.o7 : List AOper :=
  (⟨some 38, .pick (.t 32) (.c (.d (.bool true))) (.t 37), [], [], none, none⟩ ::
     ⟨some 39, .mv (.t 38), [], [], none, (some ([2, 3, 39], (some [2, 3])))⟩ ::
     g_ref17_Same.o8)
def g_ref17_Same.o6 : List AOper :=
  (⟨some 33, .faddr 4 (.t 2), [], [], (some (26, 32, false)), none⟩ ::
     ⟨some 34, .load none (.t 33), [], [], (some (26, 32, false)), none⟩ ::
     ⟨some 35, .faddr 4 (.t 3), [], [], (some (26, 32, false)), none⟩ ::
     ⟨some 36, .load none (.t 35), [], [], (some (26, 32, false)), none⟩ ::
     ⟨some 37, .bin .neq (.t 34) (.t 36), [], [], (some (26, 32, false)), (some ([2, 3, 32, 37], (some [2, 3])))⟩ ::
     g_ref17_Same.o7)
def g_ref17_Same.o5 : List AOper :=
  (⟨some 31, .pick (.t 25) (.c (.d (.bool true))) (.t 30), [], [], none, none⟩ ::
     ⟨some 32, .mv (.t 31), [], [], none, (some ([2, 3, 32], (some [2, 3])))⟩ ::
     g_ref17_Same.o6)
def g_ref17_Same.o4 : List AOper :=
  (⟨some 26, .faddr 3 (.t 2), [], [], (some (19, 25, false)), none⟩ ::
     ⟨some 27, .load none (.t 26), [], [], (some (19, 25, false)), none⟩ ::
     ⟨some 28, .faddr 3 (.t 3), [], [], (some (19, 25, false)), none⟩ ::
     ⟨some 29, .load none (.t 28), [], [], (some (19, 25, false)), none⟩ ::
     ⟨some 30, .bin .neq (.t 27) (.t 29), [], [], (some (19, 25, false)), (some ([2, 3, 25, 30], (some [2, 3])))⟩ ::
     g_ref17_Same.o5)
def g_ref17_Same.o3 : List AOper :=
  (⟨some 24, .pick (.t 18) (.c (.d (.bool true))) (.t 23), [], [], none, none⟩ ::
     ⟨some 25, .mv (.t 24), [], [], none, (some ([2, 3, 25], (some [2, 3])))⟩ ::
     g_ref17_Same.o4)
def g_ref17_Same.o2 : List AOper :=
  (⟨some 19, .faddr 2 (.t 2), [], [], (some (12, 18, false)), none⟩ ::
     ⟨some 20, .load none (.t 19), [], [], (some (12, 18, false)), none⟩ ::
     ⟨some 21, .faddr 2 (.t 3), [], [], (some (12, 18, false)), none⟩ ::
     ⟨some 22, .load none (.t 21), [], [], (some (12, 18, false)), none⟩ ::
     ⟨some 23, .bin .neq (.t 20) (.t 22), [], [], (some (12, 18, false)), (some ([2, 3, 18, 23], (some [2, 3])))⟩ ::
     g_ref17_Same.o3)
def g_ref17_Same.o1 : List AOper :=
  (⟨some 17, .pick (.t 11) (.c (.d (.bool true))) (.t 16), [], [], none, none⟩ ::
     ⟨some 18, .mv (.t 17), [], [], none, (some ([2, 3, 18], (some [2, 3])))⟩ ::
     g_ref17_Same.o2)
def g_ref17_Same.o0 : List AOper :=
  (⟨some 12, .faddr 1 (.t 2), [], [], (some (5, 11, false)), none⟩ ::
     ⟨some 13, .load none (.t 12), [], [], (some (5, 11, false)), none⟩ ::
     ⟨some 14, .faddr 1 (.t 3), [], [], (some (5, 11, false)), none⟩ ::
     ⟨some 15, .load none (.t 14), [], [], (some (5, 11, false)), none⟩ ::
     ⟨some 16, .bin .neq (.t 13) (.t 15), [], [], (some (5, 11, false)), (some ([2, 3, 11, 16], (some [2, 3])))⟩ ::
     g_ref17_Same.o1)
def g_ref17_Same.c0 : ACode :=
  .cond (.t 55) (.seq (.region [4] (some []) none
      [⟨some 4, .mv (.c (.d (.bool false))), [], [], none, none⟩])
   (.ret))
  (.skip)
def g_ref17_Same.c1 : ACode :=
  .region [2, 3, 5] (some [2, 3]) none
    [⟨some 61, .mv (.t 5), [], [], none, none⟩,
     ⟨some 62, .bin .add (.t 61) (.c (.d (.int .i64 1))), [], [], none, none⟩,
     ⟨some 5, .mv (.t 62), [], [], none, none⟩]
def g_ref17_Same.c2 : ACode :=
  .seq (.block 1 [2, 3, 5] (some [2, 3]) (.seq (.region [2, 3, 5, 73] (some [2, 3]) (some ([0, 1, 2, 3, 4, 5, 6, 7, 8, 9, 10], .done))
       [⟨some 63, .faddr 21 (.t 2), [], [], none, none⟩,
        ⟨some 64, .load none (.t 63), [], [0], none, none⟩,
        ⟨some 65, .mv (.t 5), [], [], none, none⟩,
        ⟨some 66, .iaddr 4 (.t 64) (.t 65), [], [1, 2], none, none⟩,
        ⟨some 67, .load (some 4) (.t 66), [], [3], none, none⟩,
        ⟨some 68, .faddr 21 (.t 3), [], [], none, none⟩,
        ⟨some 69, .load none (.t 68), [], [5], none, none⟩,
        ⟨some 70, .mv (.t 5), [], [], none, none⟩,
        ⟨some 71, .iaddr 4 (.t 69) (.t 70), [], [6, 7], none, none⟩,
        ⟨some 72, .load (some 4) (.t 71), [], [8], none, none⟩,
        ⟨some 73, .eqs true [0, 0, 0, 0] (.t 67) (.t 72), [], [4, 9], none, none⟩])
    (.cond (.t 73) (.seq (.region [4] (some []) none
         [⟨some 4, .mv (.c (.d (.bool false))), [], [], none, none⟩])
      (.ret))
     (.skip))))
  (g_ref17_Same.c1)
def g_ref17_Same.l0 : ACode :=
  .loop [2, 3, 5] (some [2, 3]) (.seq (.seq (.region [2, 3, 5, 60] (some [2, 3]) none
      [⟨some 56, .mv (.t 5), [], [], none, none⟩,
       ⟨some 57, .faddr 21 (.t 2), [], [], none, none⟩,
       ⟨some 58, .load none (.t 57), [], [], none, none⟩,
       ⟨some 59, .len (.t 58), [], [], none, none⟩,
       ⟨some 60, .bin .lss (.t 56) (.t 59), [], [], none, none⟩])
   (.cond (.t 60) (.skip)
    (.exit 0)))
  (g_ref17_Same.c2))
def g_ref17_Same.c3 : ACode :=
  .seq (.region [4] (some []) none
     [⟨some 4, .mv (.c (.d (.bool true))), [], [], none, none⟩])
  (.ret)
def g_ref17_Same.c4 : ACode :=
  .seq (.seq (.region [2, 3, 5] (some [2, 3]) none
      [⟨some 5, .mv (.c (.d (.int .i64 0))), [], [], none, none⟩])
   (.block 0 [] (some []) (g_ref17_Same.l0)))
  (g_ref17_Same.c3)
def g_ref17_Same.code : ACode :=
  .seq (.region [2, 3] (some [2, 3]) none
     [⟨some 2, .box 2 22 (.t 0), [], [], none, none⟩,
      ⟨some 3, .box 3 22 (.t 1), [], [], none, none⟩,
      ⟨some 4, .mv (.c (.d (.bool false))), [], [], none, none⟩])
  (.seq (.seq (.region [2, 3, 55] (some [2, 3]) none
       (⟨some 6, .faddr 0 (.t 2), [], [], none, none⟩ ::
        ⟨some 7, .load none (.t 6), [], [], none, none⟩ ::
        ⟨some 8, .faddr 0 (.t 3), [], [], none, none⟩ ::
        ⟨some 9, .load none (.t 8), [], [], none, none⟩ ::
        ⟨some 10, .bin .neq (.t 7) (.t 9), [], [], none, none⟩ ::
        ⟨some 11, .mv (.t 10), [], [], none, (some ([2, 3, 11], (some [2, 3])))⟩ ::
        g_ref17_Same.o0))
    (g_ref17_Same.c0))
   (g_ref17_Same.c4))
def g_ref17_Same : AFn := { N := 74, res := [.slot 4], own := [], frz := [], code := g_ref17_Same.code }

/- paymaster/book.alive: function 18.  -/
def g_book_alive.c0 : ACode :=
  .region [1, 2, 5, 13, 14, 15] (some [2, 11]) none
    [⟨some 19, .mv (.t 5), [], [], none, none⟩,
     ⟨some 20, .faddr 4 (.t 7), [], [], none, none⟩,
     ⟨some 21, .load none (.t 20), [], [], none, none⟩,
     ⟨some 22, .mget false ((.int .i64 0)) (.t 19) (.t 21) false, [], [], none, none⟩,
     ⟨some 23, .bin .add (.t 22) (.c (.d (.int .i64 1))), [], [], none, none⟩,
     ⟨none, .mset false (.t 19) (.t 21) (.t 23), [], [], none, none⟩]
def g_book_alive.c1 : ACode :=
  .region [1, 2, 5, 13, 14, 15] (some [2, 11]) none
    [⟨some 24, .bin .add (.t 15) (.c (.d (.int .i64 1))), [], [], none, none⟩,
     ⟨some 15, .mv (.t 24), [], [], none, none⟩]
def g_book_alive.l0 : ACode :=
  .loop [1, 2, 5, 13, 14, 15] (some [2, 11]) (.seq (.region [1, 2, 5, 13, 14, 15, 16] (some [2, 11]) none
     [⟨some 16, .bin .lss (.t 15) (.t 14), [], [], none, none⟩])
  (.seq (.cond (.t 16) (.skip)
    (.exit 0))
   (.seq (.block 1 [1, 2, 5, 13, 14, 15] (some [2, 11]) (.seq (.region [1, 2, 5, 7, 13, 14, 15] (some [2, 7, 11]) none
         [⟨some 17, .iaddr 22 (.t 13) (.t 15), [], [], none, none⟩,
          ⟨some 18, .load (some 22) (.t 17), [], [], none, none⟩,
          ⟨some 7, .alloc 7 [.d (.int .i64 0), .d (.int .i64 0), .d (.int .i64 0), .d (.int .i64 0), .d (.int .i64 0), .cap0, .d (.int .i64 0), .d (.int .i64 0), .d (.int .i64 0), .d (.int .i64 0), .d (.int .i64 0), .d (.int .i64 0), .d (.int .i64 0), .d (.int .i64 0), .d (.int .i64 0), .d (.int .i64 0), .d (.int .i64 0), .d (.int .i64 0), .cap0, .cap0, .cap0, .cap0], [], [], none, none⟩,
          ⟨none, .store 22 (.t 7) (.t 18), [], [], none, none⟩])
      (g_book_alive.c0)))
    (g_book_alive.c1))))
def g_book_alive.c2 : ACode :=
  .block 0 [1, 2, 5] (some [2, 11]) (g_book_alive.l0)
def g_book_alive.o3 : List AOper :=
  [⟨some 48, .pick (.t 42) (.t 47) (.c (.d (.bool false))), [], [], none, none⟩]
def g_book_alive.o2 : List AOper :=
  (⟨some 43, .mv (.t 5), [], [], (some (9, 42, true)), none⟩ ::
     ⟨some 44, .mv (.t 9), [], [], (some (9, 42, true)), none⟩ ::
     ⟨some 45, .bin .add (.t 44) (.c (.d (.int .i64 1))), [], [], (some (9, 42, true)), none⟩ ::
     ⟨some 46, .mget false ((.int .i64 0)) (.t 43) (.t 45) false, [], [], (some (9, 42, true)), none⟩ ::
     ⟨some 47, .bin .eql (.t 46) (.c (.d (.int .i64 0))), [], [], (some (9, 42, true)), (some ([1, 5, 8, 10, 26, 27, 28, 42, 47], (some [10, 11, 52])))⟩ ::
     g_book_alive.o3)
def g_book_alive.o1 : List AOper :=
  (⟨some 41, .pick (.t 37) (.t 40) (.c (.d (.bool false))), [], [], none, none⟩ ::
     ⟨some 42, .mv (.t 41), [], [], none, (some ([1, 5, 8, 9, 10, 26, 27, 28, 42], (some [10, 11, 52])))⟩ ::
     g_book_alive.o2)
def g_book_alive.o0 : List AOper :=
  (⟨some 38, .faddr 4 (.t 10), [], [], (some (4, 37, true)), none⟩ ::
     ⟨some 39, .load none (.t 38), [], [], (some (4, 37, true)), none⟩ ::
     ⟨some 40, .bin .eql (.t 39) (.c (.d (.int .i64 0))), [], [], (some (4, 37, true)), (some ([1, 5, 8, 9, 10, 26, 27, 28, 37, 40], (some [10, 11, 52])))⟩ ::
     g_book_alive.o1)
def g_book_alive.c3 : ACode :=
  .cond (.t 48) (.region [1, 5, 8, 26, 27, 28] (some [11, 52]) none
     [⟨some 49, .mv (.t 8), [], [], none, none⟩,
      ⟨some 50, .load (some 22) (.t 10), [], [], none, none⟩,
      ⟨some 51, .bsl none 22 [] 1 [(0, (.t 50))], [], [], none, none⟩,
      ⟨some 52, .app (some 52) 22 256 (.t 49) (.t 51), [], [], none, none⟩,
      ⟨some 8, .mv (.t 52), [], [], none, none⟩])
  (.skip)
def g_book_alive.c4 : ACode :=
  .seq (.region [1, 5, 8, 10, 26, 27, 28, 48] (some [10, 11, 52]) none
     (⟨some 33, .faddr 2 (.t 10), [], [], none, none⟩ ::
      ⟨some 34, .load none (.t 33), [], [], none, none⟩ ::
      ⟨some 35, .mv (.t 1), [], [], none, none⟩ ::
      ⟨some 36, .bin .eql (.t 34) (.t 35), [], [], none, none⟩ ::
      ⟨some 37, .mv (.t 36), [], [], none, (some ([1, 5, 8, 9, 10, 26, 27, 28, 37], (some [10, 11, 52])))⟩ ::
      g_book_alive.o0))
  (g_book_alive.c3)
def g_book_alive.c5 : ACode :=
  .region [1, 5, 8, 26, 27, 28] (some [11, 52]) none
    [⟨some 53, .bin .add (.t 28) (.c (.d (.int .i64 1))), [], [], none, none⟩,
     ⟨some 28, .mv (.t 53), [], [], none, none⟩]
def g_book_alive.l1 : ACode :=
  .loop [1, 5, 8, 26, 27, 28] (some [11, 52]) (.seq (.region [1, 5, 8, 26, 27, 28, 29] (some [11, 52]) none
     [⟨some 29, .bin .lss (.t 28) (.t 27), [], [], none, none⟩])
  (.seq (.cond (.t 29) (.skip)
    (.exit 2))
   (.seq (.block 3 [1, 5, 8, 26, 27, 28] (some [11, 52]) (.seq (.region [1, 5, 8, 9, 10, 26, 27, 28] (some [10, 11, 52]) none
         [⟨some 30, .mv (.t 28), [], [], none, none⟩,
          ⟨some 31, .iaddr 22 (.t 26) (.t 28), [], [], none, none⟩,
          ⟨some 32, .load (some 22) (.t 31), [], [], none, none⟩,
          ⟨some 10, .alloc 10 [.d (.int .i64 0), .d (.int .i64 0), .d (.int .i64 0), .d (.int .i64 0), .d (.int .i64 0), .cap0, .d (.int .i64 0), .d (.int .i64 0), .d (.int .i64 0), .d (.int .i64 0), .d (.int .i64 0), .d (.int .i64 0), .d (.int .i64 0), .d (.int .i64 0), .d (.int .i64 0), .d (.int .i64 0), .d (.int .i64 0), .d (.int .i64 0), .cap0, .cap0, .cap0, .cap0], [], [], none, none⟩,
          ⟨some 9, .mv (.t 30), [], [], none, none⟩,
          ⟨none, .store 22 (.t 10) (.t 32), [], [], none, none⟩])
      (g_book_alive.c4)))
    (g_book_alive.c5))))
def g_book_alive.c6 : ACode :=
  .block 2 [8] (some [52]) (g_book_alive.l1)
def g_book_alive.c7 : ACode :=
  .seq (.region [4] (some [52]) none
     [⟨some 54, .mv (.t 8), [], [], none, none⟩,
      ⟨some 4, .mv (.t 54), [], [], none, none⟩])
  (.ret)
def g_book_alive.c8 : ACode :=
  .seq (.region [1, 2, 5, 8] (some [2, 11, 52]) none
     [⟨some 8, .mv (.c (.cap0)), [], [], none, none⟩])
  (.seq (.seq (.region [1, 5, 8, 26, 27, 28] (some [11, 52]) none
       [⟨some 25, .faddr 0 (.t 2), [], [], none, none⟩,
        ⟨some 26, .load none (.t 25), [], [], none, none⟩,
        ⟨some 27, .len (.t 26), [], [], none, none⟩,
        ⟨some 28, .mv (.c (.d (.int .i64 0))), [], [], none, none⟩])
    (g_book_alive.c6))
   (g_book_alive.c7))
def g_book_alive.code : ACode :=
  .seq (.region [1, 2] (some [2]) none
     [⟨some 2, .box 2 1 (.t 0), [], [], none, none⟩,
      ⟨some 4, .mv (.c (.cap0)), [], [], none, none⟩])
  (.seq (.region [1, 2, 5] (some [2, 11]) none
      [⟨some 11, .mkmap 11, [], [], none, none⟩,
       ⟨some 5, .mv (.t 11), [], [], none, none⟩])
   (.seq (.seq (.region [1, 2, 5, 13, 14, 15] (some [2, 11]) none
        [⟨some 12, .faddr 0 (.t 2), [], [], none, none⟩,
         ⟨some 13, .load none (.t 12), [], [], none, none⟩,
         ⟨some 14, .len (.t 13), [], [], none, none⟩,
         ⟨some 15, .mv (.c (.d (.int .i64 0))), [], [], none, none⟩])
     (g_book_alive.c2))
    (g_book_alive.c8)))
def g_book_alive : AFn := { N := 55, res := [.slot 4], own := [], frz := [4], code := g_book_alive.code }

/- paymaster/book.add: function 19. drawn region 4: first 5, left 6 -/
def g_book_add.c0 : ACode :=
  .region [0, 1, 6, 7] none none
    [⟨some 24, .bin .add (.t 7) (.c (.d (.int .i64 1))), [], [], none, none⟩,
     ⟨some 7, .mv (.t 24), [], [], none, none⟩]
def g_book_add.l0 : ACode :=
  .loop [0, 1, 6, 7] none (.seq (.region [0, 1, 6, 7, 8] none none
     [⟨some 8, .bin .lss (.t 7) (.t 6), [], [], none, none⟩])
  (.seq (.cond (.t 8) (.skip)
    (.exit 0))
   (.seq (.block 1 [0, 1, 6, 7] none (.seq (.region [0, 1, 4, 6, 7] none none
         [⟨some 9, .mv (.t 7), [], [], none, none⟩,
          ⟨some 4, .mv (.t 9), [], [], none, none⟩])
      (.seq (.region [0, 1, 4, 6, 7, 13] none none
          [⟨some 10, .mv (.t 4), [], [], none, none⟩,
           ⟨some 11, .mv (.t 1), [], [], none, none⟩,
           ⟨some 12, .len (.t 11), [], [], none, none⟩,
           ⟨some 13, .bin .lss (.t 10) (.t 12), [], [], none, none⟩])
       (.cond (.t 13) (.region [0, 1, 6, 7] none (some ([1, 4, 5, 6, 7], .one 0 (.one 2 (.one 3 (.one 8 (.one 9 (.one 10 (.done))))))))
           [⟨some 14, .mv (.t 0), [], [], none, none⟩,
            ⟨some 15, .mv (.t 4), [], [], none, none⟩,
            ⟨some 16, .iaddr 1 (.t 14) (.t 15), [], [0, 1], none, none⟩,
            ⟨some 17, .load none (.t 16), [], [2], none, none⟩,
            ⟨some 18, .mv (.t 1), [], [], none, none⟩,
            ⟨some 19, .mv (.t 4), [], [], none, none⟩,
            ⟨some 20, .iaddr 1 (.t 18) (.t 19), [], [4, 5], none, none⟩,
            ⟨some 21, .load none (.t 20), [], [6], none, none⟩,
            ⟨some 22, .bin .add (.t 17) (.t 21), [], [3, 7], none, none⟩,
            ⟨some 23, .iaddr 1 (.t 14) (.t 15), [], [0, 1, 0, 1, 2, 3, 4, 5, 6, 7, 8], none, none⟩,
            ⟨none, .store 1 (.t 23) (.t 22), [], [9, 8, 0, 1, 2, 3, 4, 5, 6, 7, 8], none, none⟩])
        (.skip)))))
    (g_book_add.c0))))
def g_book_add.code : ACode :=
  .seq (.region [0, 1, 6, 7] none none
     [⟨some 5, .mv (.t 0), [], [], none, none⟩,
      ⟨some 6, .len (.t 5), [], [], none, none⟩,
      ⟨some 7, .mv (.c (.d (.int .i64 0))), [], [], none, none⟩])
  (.block 0 [] none (g_book_add.l0))
def g_book_add : AFn := { N := 25, res := [], own := [], frz := [], code := g_book_add.code }

/- slices.IndexFunc[[]paymaster/book.Entry,paymaster/book.Entry]: function 16.  -/
def g_slices_IndexFunc_Entry.c0 : ACode :=
  .region [0, 1, 7, 8] none none
    [⟨some 18, .bin .add (.t 8) (.c (.d (.int .i64 1))), [], [], none, none⟩,
     ⟨some 8, .mv (.t 18), [], [], none, none⟩]
def g_slices_IndexFunc_Entry.l0 : ACode :=
  .loop [0, 1, 7, 8] none (.seq (.region [0, 1, 7, 8, 9] none none
     [⟨some 9, .bin .lss (.t 8) (.t 7), [], [], none, none⟩])
  (.seq (.cond (.t 9) (.skip)
    (.exit 0))
   (.seq (.block 1 [0, 1, 7, 8] none (.seq (.region [0, 1, 5, 7, 8] none none
         [⟨some 10, .mv (.t 8), [], [], none, none⟩,
          ⟨some 5, .mv (.t 10), [], [], none, none⟩])
      (.seq (.region [0, 1, 5, 7, 8, 16] none none
          [⟨some 11, .mv (.t 1), [], [], none, none⟩,
           ⟨some 12, .mv (.t 0), [], [], none, none⟩,
           ⟨some 13, .mv (.t 5), [], [], none, none⟩,
           ⟨some 14, .iaddr 22 (.t 12) (.t 13), [], [], none, none⟩,
           ⟨some 15, .load (some 22) (.t 14), [], [], none, none⟩,
           ⟨some 16, .callv (.t 11) [(.t 15)], [], [], none, none⟩])
       (.cond (.t 16) (.seq (.region [4] none none
            [⟨some 17, .mv (.t 5), [], [], none, none⟩,
             ⟨some 4, .mv (.t 17), [], [], none, none⟩])
         (.ret))
        (.skip)))))
    (g_slices_IndexFunc_Entry.c0))))
def g_slices_IndexFunc_Entry.c1 : ACode :=
  .seq (.region [4] none none
     [⟨some 4, .mv (.c (.d (.int .i64 (-1)))), [], [], none, none⟩])
  (.ret)
def g_slices_IndexFunc_Entry.code : ACode :=
  .seq (.region [0, 1] none none
     [⟨some 4, .mv (.c (.d (.int .i64 0))), [], [], none, none⟩])
  (.seq (.seq (.region [0, 1, 7, 8] none none
       [⟨some 6, .mv (.t 0), [], [], none, none⟩,
        ⟨some 7, .len (.t 6), [], [], none, none⟩,
        ⟨some 8, .mv (.c (.d (.int .i64 0))), [], [], none, none⟩])
    (.block 0 [] none (g_slices_IndexFunc_Entry.l0)))
   (g_slices_IndexFunc_Entry.c1))
def g_slices_IndexFunc_Entry : AFn := { N := 19, res := [.slot 4], own := [], frz := [], code := g_slices_IndexFunc_Entry.code }

/- paymaster/paymasterref16.Same: function 20. drawn region 6: first 11, left 0 -/
def g_ref16_Same.o15 : List AOper :=
  [⟨some 68, .pick (.t 62) (.c (.d (.bool true))) (.t 67), [], [], none, none⟩]
def g_ref16_Same.o14 : List AOper :=
  (⟨some 63, .faddr 12 (.t 2), [], [], (some (56, 62, false)), none⟩ ::
     ⟨some 64, .load none (.t 63), [], [], (some (56, 62, false)), none⟩ ::
     ⟨some 65, .faddr 12 (.t 3), [], [], (some (56, 62, false)), none⟩ ::
     ⟨some 66, .load none (.t 65), [], [], (some (56, 62, false)), none⟩ ::
     ⟨some 67, .bin .neq (.t 64) (.t 66), [], [], (some (56, 62, false)), (some ([2, 3, 62, 67], (some [2, 3])))⟩ ::
     g_ref16_Same.o15)
def g_ref16_Same.o13 : List AOper :=
  (⟨some 61, .pick (.t 55) (.c (.d (.bool true))) (.t 60), [], [], none, none⟩ ::
     ⟨some 62, .mv (.t 61), [], [], none, (some ([2, 3, 62], (some [2, 3])))⟩ ::
     g_ref16_Same.o14)
def g_ref16_Same.o12 : List AOper :=
  (⟨some 56, .faddr 11 (.t 2), [], [], (some (49, 55, false)), none⟩ ::
     ⟨some 57, .load none (.t 56), [], [], (some (49, 55, false)), none⟩ ::
     ⟨some 58, .faddr 11 (.t 3), [], [], (some (49, 55, false)), none⟩ ::
     ⟨some 59, .load none (.t 58), [], [], (some (49, 55, false)), none⟩ ::
     ⟨some 60, .bin .neq (.t 57) (.t 59), [], [], (some (49, 55, false)), (some ([2, 3, 55, 60], (some [2, 3])))⟩ ::
     g_ref16_Same.o13)
def g_ref16_Same.o11 : List AOper :=
  (⟨some 54, .pick (.t 48) (.c (.d (.bool true))) (.t 53), [], [], none, none⟩ ::
     ⟨some 55, .mv (.t 54), [], [], none, (some ([2, 3, 55], (some [2, 3])))⟩ ::
     g_ref16_Same.o12)
def g_ref16_Same.o10 : List AOper :=
  (⟨some 49, .faddr 10 (.t 2), [], [], (some (42, 48, false)), none⟩ ::
     ⟨some 50, .load none (.t 49), [], [], (some (42, 48, false)), none⟩ ::
     ⟨some 51, .faddr 10 (.t 3), [], [], (some (42, 48, false)), none⟩ ::
     ⟨some 52, .load none (.t 51), [], [], (some (42, 48, false)), none⟩ ::
     ⟨some 53, .bin .neq (.t 50) (.t 52), [], [], (some (42, 48, false)), (some ([2, 3, 48, 53], (some [2, 3])))⟩ ::
     g_ref16_Same.o11)
def g_ref16_Same.o9 : List AOper :=
  (⟨some 47, .pick (.t 41) (.c (.d (.bool true))) (.t 46), [], [], none, none⟩ ::
     ⟨some 48, .mv (.t 47), [], [], none, (some ([2, 3, 48], (some [2, 3])))⟩ ::
     g_ref16_Same.o10)
def g_ref16_Same.o8 : List AOper :=
  (⟨some 42, .faddr 9 (.t 2), [], [], (some (35, 41, false)), none⟩ ::
     ⟨some 43, .load none (.t 42), [], [], (some (35, 41, false)), none⟩ ::
     ⟨some 44, .faddr 9 (.t 3), [], [], (some (35, 41, false)), none⟩ ::
     ⟨some 45, .load none (.t 44), [], [], (some (35, 41, false)), none⟩ ::
     ⟨some 46, .bin .neq (.t 43) (.t 45), [], [], (some (35, 41, false)), (some ([2, 3, 41, 46], (some [2, 3])))⟩ ::
     g_ref16_Same.o9)
def g_ref16_Same.o7 : List AOper :=
  (⟨some 40, .pick (.t 34) (.c (.d (.bool true))) (.t 39), [], [], none, none⟩ ::
     ⟨some 41, .mv (.t 40), [], [], none, (some ([2, 3, 41], (some [2, 3])))⟩ ::
     g_ref16_Same.o8)
def g_ref16_Same.o6 : List AOper :=
  (⟨some 35, .faddr 8 (.t 2), [], [], (some (28, 34, false)), none⟩ ::
     ⟨some 36, .load none (.t 35), [], [], (some (28, 34, false)), none⟩ ::
     ⟨some 37, .faddr 8 (.t 3), [], [], (some (28, 34, false)), none⟩ ::
     ⟨some 38, .load none (.t 37), [], [], (some (28, 34, false)), none⟩ ::
     ⟨some 39, .bin .neq (.t 36) (.t 38), [], [], (some (28, 34, false)), (some ([2, 3, 34, 39], (some [2, 3])))⟩ ::
     g_ref16_Same.o7)
def g_ref16_Same.o5 : List AOper :=
  (⟨some 33, .pick (.t 27) (.c (.d (.bool true))) (.t 32), [], [], none, none⟩ ::
     ⟨some 34, .mv (.t 33), [], [], none, (some ([2, 3, 34], (some [2, 3])))⟩ ::
     g_ref16_Same.o6)
def g_ref16_Same.o4 : List AOper :=
  (⟨some 28, .faddr 7 (.t 2), [], [], (some (21, 27, false)), none⟩ ::
     ⟨some 29, .load none (.t 28), [], [], (some (21, 27, false)), none⟩ ::
     ⟨some 30, .faddr 7 (.t 3), [], [], (some (21, 27, false)), none⟩ ::
     ⟨some 31, .load none (.t 30), [], [], (some (21, 27, false)), none⟩ ::
     ⟨some 32, .bin .neq (.t 29) (.t 31), [], [], (some (21, 27, false)), (some ([2, 3, 27, 32], (some [2, 3])))⟩ ::
     g_ref16_Same.o5)
def g_ref16_Same.o3 : List AOper :=
  (⟨some 26, .pick (.t 20) (.c (.d (.bool true))) (.t 25), [], [], none, none⟩ ::
     ⟨some 27, .mv (.t 26), [], [], none, (some ([2, 3, 27], (some [2, 3])))⟩ ::
     g_ref16_Same.o4)
def g_ref16_Same.o2 : List AOper :=
  (⟨some 21, .faddr 4 (.t 2), [], [], (some (14, 20, false)), none⟩ ::
     ⟨some 22, .load (some 3) (.t 21), [], [], (some (14, 20, false)), none⟩ ::
     ⟨some 23, .faddr 4 (.t 3), [], [], (some (14, 20, false)), none⟩ ::
     ⟨some 24, .load (some 3) (.t 23), [], [], (some (14, 20, false)), none⟩ ::
     ⟨some 25, .eqs true [0, 0, 0] (.t 22) (.t 24), [], [], (some (14, 20, false)), (some ([2, 3, 20, 25], (some [2, 3])))⟩ ::
     g_ref16_Same.o3)
def g_ref16_Same.o1 : List AOper :=
  (⟨some 19, .pick (.t 13) (.c (.d (.bool true))) (.t 18), [], [], none, none⟩ ::
     ⟨some 20, .mv (.t 19), [], [], none, (some ([2, 3, 20], (some [2, 3])))⟩ ::
     g_ref16_Same.o2)
def g_ref16_Same.o0 : List AOper :=
  (⟨some 14, .faddr 1 (.t 2), [], [], (some (7, 13, false)), none⟩ ::
     ⟨some 15, .load (some 3) (.t 14), [], [], (some (7, 13, false)), none⟩ ::
     ⟨some 16, .faddr 1 (.t 3), [], [], (some (7, 13, false)), none⟩ ::
     ⟨some 17, .load (some 3) (.t 16), [], [], (some (7, 13, false)), none⟩ ::
     ⟨some 18, .eqs true [0, 0, 0] (.t 15) (.t 17), [], [], (some (7, 13, false)), (some ([2, 3, 13, 18], (some [2, 3])))⟩ ::
     g_ref16_Same.o1)
def g_ref16_Same.c0 : ACode :=
  .cond (.t 68) (.seq (.region [4] (some []) none
      [⟨some 4, .mv (.c (.d (.bool false))), [], [], none, none⟩])
   (.ret))
  (.skip)
def g_ref16_Same.c1 : ACode :=
  .region [2, 3, 5] (some [2, 3]) none
    [⟨some 74, .mv (.t 5), [], [], none, none⟩,
     ⟨some 75, .bin .add (.t 74) (.c (.d (.int .i64 1))), [], [], none, none⟩,
     ⟨some 5, .mv (.t 75), [], [], none, none⟩]
def g_ref16_Same.c2 : ACode :=
  .seq (.block 1 [2, 3, 5] (some [2, 3]) (.seq (.region [2, 3, 5, 86] (some [2, 3]) (some ([0, 1, 2, 3, 4, 5, 6, 7, 8, 9, 10], .done))
       [⟨some 76, .faddr 0 (.t 2), [], [], none, none⟩,
        ⟨some 77, .load none (.t 76), [], [0], none, none⟩,
        ⟨some 78, .mv (.t 5), [], [], none, none⟩,
        ⟨some 79, .iaddr 3 (.t 77) (.t 78), [], [1, 2], none, none⟩,
        ⟨some 80, .load (some 3) (.t 79), [], [3], none, none⟩,
        ⟨some 81, .faddr 0 (.t 3), [], [], none, none⟩,
        ⟨some 82, .load none (.t 81), [], [5], none, none⟩,
        ⟨some 83, .mv (.t 5), [], [], none, none⟩,
        ⟨some 84, .iaddr 3 (.t 82) (.t 83), [], [6, 7], none, none⟩,
        ⟨some 85, .load (some 3) (.t 84), [], [8], none, none⟩,
        ⟨some 86, .eqs true [2, 2, 0] (.t 80) (.t 85), [], [4, 9], none, none⟩])
    (.cond (.t 86) (.seq (.region [4] (some []) none
         [⟨some 4, .mv (.c (.d (.bool false))), [], [], none, none⟩])
      (.ret))
     (.skip))))
  (g_ref16_Same.c1)
def g_ref16_Same.l0 : ACode :=
  .loop [2, 3, 5] (some [2, 3]) (.seq (.seq (.region [2, 3, 5, 73] (some [2, 3]) none
      [⟨some 69, .mv (.t 5), [], [], none, none⟩,
       ⟨some 70, .faddr 0 (.t 2), [], [], none, none⟩,
       ⟨some 71, .load none (.t 70), [], [], none, none⟩,
       ⟨some 72, .len (.t 71), [], [], none, none⟩,
       ⟨some 73, .bin .lss (.t 69) (.t 72), [], [], none, none⟩])
   (.cond (.t 73) (.skip)
    (.exit 0)))
  (g_ref16_Same.c2))
def g_ref16_Same.o19 : List AOper :=
  [⟨some 105, .pick (.t 99) (.t 104) (.c (.d (.bool false))), [], [], none, none⟩,
     ⟨some 4, .mv (.t 105), [], [], none, none⟩]
def g_ref16_Same.o18 : List AOper :=
  (⟨some 100, .faddr 15 (.t 2), [], [], (some (12, 99, true)), none⟩ ::
     ⟨some 101, .load none (.t 100), [], [], (some (12, 99, true)), none⟩ ::
     ⟨some 102, .faddr 15 (.t 3), [], [], (some (12, 99, true)), none⟩ ::
     ⟨some 103, .load none (.t 102), [], [], (some (12, 99, true)), none⟩ ::
     ⟨some 104, .call 21 [(.t 101), (.t 103)], [], [], (some (12, 99, true)), (some ([99, 104], (some [])))⟩ ::
     g_ref16_Same.o19)
def g_ref16_Same.o17 : List AOper :=
  (⟨some 98, .pick (.t 92) (.t 97) (.c (.d (.bool false))), [], [], none, none⟩ ::
     ⟨some 99, .mv (.t 98), [], [], none, (some ([2, 3, 99], (some [2, 3])))⟩ ::
     g_ref16_Same.o18)
def g_ref16_Same.o16 : List AOper :=
  (⟨some 93, .faddr 14 (.t 2), [], [], (some (5, 92, true)), none⟩ ::
     ⟨some 94, .load none (.t 93), [], [], (some (5, 92, true)), none⟩ ::
     ⟨some 95, .faddr 14 (.t 3), [], [], (some (5, 92, true)), none⟩ ::
     ⟨some 96, .load none (.t 95), [], [], (some (5, 92, true)), none⟩ ::
     ⟨some 97, .call 21 [(.t 94), (.t 96)], [], [], (some (5, 92, true)), (some ([2, 3, 92, 97], (some [2, 3])))⟩ ::
     g_ref16_Same.o17)
def g_ref16_Same.c3 : ACode :=
  .ret
def g_ref16_Same.c4 : ACode :=
  .seq (.region [4] (some []) none
     (⟨some 87, .faddr 13 (.t 2), [], [], none, none⟩ ::
      ⟨some 88, .load none (.t 87), [], [], none, none⟩ ::
      ⟨some 89, .faddr 13 (.t 3), [], [], none, none⟩ ::
      ⟨some 90, .load none (.t 89), [], [], none, none⟩ ::
      ⟨some 91, .call 21 [(.t 88), (.t 90)], [], [], none, none⟩ ::
      ⟨some 92, .mv (.t 91), [], [], none, (some ([2, 3, 92], (some [2, 3])))⟩ ::
      g_ref16_Same.o16))
  (g_ref16_Same.c3)
def g_ref16_Same.c5 : ACode :=
  .seq (.seq (.region [2, 3, 5] (some [2, 3]) none
      [⟨some 5, .mv (.c (.d (.int .i64 0))), [], [], none, none⟩])
   (.block 0 [2, 3] (some [2, 3]) (g_ref16_Same.l0)))
  (g_ref16_Same.c4)
def g_ref16_Same.code : ACode :=
  .seq (.region [2, 3] (some [2, 3]) none
     [⟨some 2, .box 2 16 (.t 0), [], [], none, none⟩,
      ⟨some 3, .box 3 16 (.t 1), [], [], none, none⟩,
      ⟨some 4, .mv (.c (.d (.bool false))), [], [], none, none⟩])
  (.seq (.seq (.region [2, 3, 68] (some [2, 3]) none
       (⟨some 6, .faddr 0 (.t 2), [], [], none, none⟩ ::
        ⟨some 7, .load none (.t 6), [], [], none, none⟩ ::
        ⟨some 8, .len (.t 7), [], [], none, none⟩ ::
        ⟨some 9, .faddr 0 (.t 3), [], [], none, none⟩ ::
        ⟨some 10, .load none (.t 9), [], [], none, none⟩ ::
        ⟨some 11, .len (.t 10), [], [], none, none⟩ ::
        ⟨some 12, .bin .neq (.t 8) (.t 11), [], [], none, none⟩ ::
        ⟨some 13, .mv (.t 12), [], [], none, (some ([2, 3, 13], (some [2, 3])))⟩ ::
        g_ref16_Same.o0))
    (g_ref16_Same.c0))
   (g_ref16_Same.c5))
def g_ref16_Same : AFn := { N := 106, res := [.slot 4], own := [], frz := [], code := g_ref16_Same.code }

/- paymaster/paymasterref16.same: function 21. drawn region 6: first 9, left 0 -/
def g_ref16_same.c0 : ACode :=
  .region [0, 1, 5] (some []) none
    [⟨some 15, .mv (.t 5), [], [], none, none⟩,
     ⟨some 16, .bin .add (.t 15) (.c (.d (.int .i64 1))), [], [], none, none⟩,
     ⟨some 5, .mv (.t 16), [], [], none, none⟩]
def g_ref16_same.c1 : ACode :=
  .seq (.block 1 [0, 1, 5] (some []) (.seq (.region [0, 1, 5, 25] (some []) (some ([0, 1, 2, 3, 4, 5, 6, 7, 8], .done))
       [⟨some 17, .mv (.t 0), [], [], none, none⟩,
        ⟨some 18, .mv (.t 5), [], [], none, none⟩,
        ⟨some 19, .iaddr 1 (.t 17) (.t 18), [], [0, 1], none, none⟩,
        ⟨some 20, .load none (.t 19), [], [2], none, none⟩,
        ⟨some 21, .mv (.t 1), [], [], none, none⟩,
        ⟨some 22, .mv (.t 5), [], [], none, none⟩,
        ⟨some 23, .iaddr 1 (.t 21) (.t 22), [], [4, 5], none, none⟩,
        ⟨some 24, .load none (.t 23), [], [6], none, none⟩,
        ⟨some 25, .bin .neq (.t 20) (.t 24), [], [3, 7], none, none⟩])
    (.cond (.t 25) (.seq (.region [4] (some []) none
         [⟨some 4, .mv (.c (.d (.bool false))), [], [], none, none⟩])
      (.ret))
     (.skip))))
  (g_ref16_same.c0)
def g_ref16_same.l0 : ACode :=
  .loop [0, 1, 5] (some []) (.seq (.seq (.region [0, 1, 5, 14] (some []) none
      [⟨some 11, .mv (.t 5), [], [], none, none⟩,
       ⟨some 12, .mv (.t 0), [], [], none, none⟩,
       ⟨some 13, .len (.t 12), [], [], none, none⟩,
       ⟨some 14, .bin .lss (.t 11) (.t 13), [], [], none, none⟩])
   (.cond (.t 14) (.skip)
    (.exit 0)))
  (g_ref16_same.c1))
def g_ref16_same.c2 : ACode :=
  .seq (.region [4] (some []) none
     [⟨some 4, .mv (.c (.d (.bool true))), [], [], none, none⟩])
  (.ret)
def g_ref16_same.c3 : ACode :=
  .seq (.seq (.region [0, 1, 5] (some []) none
      [⟨some 5, .mv (.c (.d (.int .i64 0))), [], [], none, none⟩])
   (.block 0 [] (some []) (g_ref16_same.l0)))
  (g_ref16_same.c2)
def g_ref16_same.code : ACode :=
  .seq (.region [0, 1] (some []) none
     [⟨some 4, .mv (.c (.d (.bool false))), [], [], none, none⟩])
  (.seq (.seq (.region [0, 1, 10] (some []) none
       [⟨some 6, .mv (.t 0), [], [], none, none⟩,
        ⟨some 7, .len (.t 6), [], [], none, none⟩,
        ⟨some 8, .mv (.t 1), [], [], none, none⟩,
        ⟨some 9, .len (.t 8), [], [], none, none⟩,
        ⟨some 10, .bin .neq (.t 7) (.t 9), [], [], none, none⟩])
    (.cond (.t 10) (.seq (.region [4] (some []) none
         [⟨some 4, .mv (.c (.d (.bool false))), [], [], none, none⟩])
      (.ret))
     (.skip)))
   (g_ref16_same.c3))
def g_ref16_same : AFn := { N := 26, res := [.slot 4], own := [], frz := [], code := g_ref16_same.code }
end Pay
