/- The program's functions, as code of the abstract machine: for every function listed here; written by a program of ours. -/
import Derived.Test.YtbhjjheefdilbaaPayQ
set_option maxRecDepth 20000
namespace Pay
/- paymaster/paymasterlaw17.BookOnce: function 2. drawn region 9: first 9, left 4 -/
def g_law17_BookOnce.o1 : List AOper :=
  [⟨some 20, .pick (.t 17) (.t 19) (.c (.d (.bool false))), [], [], none, none⟩]
def g_law17_BookOnce.o0 : List AOper :=
  (⟨some 18, .mv (.t 5), [], [], (some (4, 17, true)), none⟩ ::
     ⟨some 19, .bin .lss (.t 18) (.c (.d (.int .i64 60))), [], [], (some (4, 17, true)), (some ([0, 3, 4, 5, 17, 19], (some [3, 4])))⟩ ::
     g_law17_BookOnce.o1)
def g_law17_BookOnce.c0 : ACode :=
  .cond (.t 20) (.skip)
  (.exit 0)
def g_law17_BookOnce.c1 : ACode :=
  .seq (.region [0, 3, 4, 5, 8] (some [3, 4, 8]) none
     [⟨some 55, .mv (.t 6), [], [], none, none⟩,
      ⟨some 56, .iaddrA 4 1 (.t 4) (.t 55), [], [], none, none⟩,
      ⟨none, .store 1 (.t 56) (.c (.d (.int .i64 1))), [], [], none, none⟩])
  (.region [0, 3, 4, 5] (some [3, 4]) none
     [⟨some 57, .load (some 1) (.t 8), [], [], none, none⟩,
      ⟨none, .store 1 (.t 3) (.t 57), [], [], none, none⟩])
def g_law17_BookOnce.c2 : ACode :=
  .seq (.seq (.region [0, 3, 4, 5, 6, 8, 54] (some [3, 4, 8]) none
      [⟨some 48, .mv (.t 9), [], [], none, none⟩,
       ⟨some 49, .bin .eql (.t 48) (.c (.d (.int .i64 0))), [], [], none, none⟩,
       ⟨some 50, .mv (.t 6), [], [], none, none⟩,
       ⟨some 51, .iaddrA 4 1 (.t 4) (.t 50), [], [], none, none⟩,
       ⟨some 52, .load none (.t 51), [], [], none, none⟩,
       ⟨some 53, .bin .eql (.t 52) (.c (.d (.int .i64 0))), [], [], none, none⟩,
       ⟨some 54, .beq true (.t 49) (.t 53), [], [], none, none⟩])
   (.cond (.t 54) (.seq (.region [2] (some []) none
        [⟨some 2, .mv (.c (.d (.bool false))), [], [], none, none⟩])
     (.ret))
    (.skip)))
  (g_law17_BookOnce.c1)
def g_law17_BookOnce.c3 : ACode :=
  .seq (.region [0, 3, 4, 5, 10] (some [3, 4, 10]) none
     [⟨some 71, .mv (.t 6), [], [], none, none⟩,
      ⟨some 72, .iaddrA 4 1 (.t 4) (.t 71), [], [], none, none⟩,
      ⟨none, .store 1 (.t 72) (.c (.d (.int .i64 0))), [], [], none, none⟩])
  (.region [0, 3, 4, 5] (some [3, 4]) none
     [⟨some 73, .load (some 1) (.t 10), [], [], none, none⟩,
      ⟨none, .store 1 (.t 3) (.t 73), [], [], none, none⟩])
def g_law17_BookOnce.c4 : ACode :=
  .seq (.seq (.region [0, 3, 4, 5, 6, 10, 70] (some [3, 4, 10]) none
      [⟨some 64, .mv (.t 11), [], [], none, none⟩,
       ⟨some 65, .bin .eql (.t 64) (.c (.d (.int .i64 0))), [], [], none, none⟩,
       ⟨some 66, .mv (.t 6), [], [], none, none⟩,
       ⟨some 67, .iaddrA 4 1 (.t 4) (.t 66), [], [], none, none⟩,
       ⟨some 68, .load none (.t 67), [], [], none, none⟩,
       ⟨some 69, .bin .eql (.t 68) (.c (.d (.int .i64 1))), [], [], none, none⟩,
       ⟨some 70, .beq true (.t 65) (.t 69), [], [], none, none⟩])
   (.cond (.t 70) (.seq (.region [2] (some []) none
        [⟨some 2, .mv (.c (.d (.bool false))), [], [], none, none⟩])
     (.ret))
    (.skip)))
  (g_law17_BookOnce.c3)
def g_law17_BookOnce.c5 : ACode :=
  .seq (.region [0, 3, 4, 5, 92] (some [3, 4]) none
     [⟨some 76, .faddr 0 (.t 12), [], [], none, none⟩,
      ⟨some 77, .load none (.t 76), [], [], none, none⟩,
      ⟨some 78, .iaddrA 4 1 (.t 4) (.c (.d (.int .i64 0))), [], [], none, none⟩,
      ⟨some 79, .load none (.t 78), [], [], none, none⟩,
      ⟨some 80, .iaddrA 4 1 (.t 4) (.c (.d (.int .i64 1))), [], [], none, none⟩,
      ⟨some 81, .load none (.t 80), [], [], none, none⟩,
      ⟨some 82, .bin .mul (.c (.d (.int .i64 2))) (.t 81), [], [], none, none⟩,
      ⟨some 83, .bin .add (.t 79) (.t 82), [], [], none, none⟩,
      ⟨some 84, .iaddrA 4 1 (.t 4) (.c (.d (.int .i64 2))), [], [], none, none⟩,
      ⟨some 85, .load none (.t 84), [], [], none, none⟩,
      ⟨some 86, .bin .mul (.c (.d (.int .i64 4))) (.t 85), [], [], none, none⟩,
      ⟨some 87, .bin .add (.t 83) (.t 86), [], [], none, none⟩,
      ⟨some 88, .iaddrA 4 1 (.t 4) (.c (.d (.int .i64 3))), [], [], none, none⟩,
      ⟨some 89, .load none (.t 88), [], [], none, none⟩,
      ⟨some 90, .bin .mul (.c (.d (.int .i64 8))) (.t 89), [], [], none, none⟩,
      ⟨some 91, .bin .add (.t 87) (.t 90), [], [], none, none⟩,
      ⟨some 92, .bin .neq (.t 77) (.t 91), [], [], none, none⟩])
  (.cond (.t 92) (.seq (.region [2] (some []) none
       [⟨some 2, .mv (.c (.d (.bool false))), [], [], none, none⟩])
    (.ret))
   (.skip))
def g_law17_BookOnce.c6 : ACode :=
  .seq (.region [0, 3, 4, 5, 12] (some [3, 4, 12]) none
     [⟨some 74, .load (some 1) (.t 3), [], [], none, none⟩,
      ⟨some 75, .call 6 [(.t 74), (.c (.d (.int .i64 1))), (.c (.d (.int .i64 0))), (.c (.d (.int .i64 0)))], [], [], none, none⟩,
      ⟨some 12, .alloc 12 [.d (.int .i64 0), .d (.int .i64 0), .d (.int .i64 0), .cap0, .cap0], [], [], none, none⟩,
      ⟨none, .store 5 (.t 12) (.t 75), [], [], none, none⟩])
  (g_law17_BookOnce.c5)
def g_law17_BookOnce.c7 : ACode :=
  .seq (.seq (.region [0, 3, 4, 5, 6, 7, 37] (some [3, 4]) none
      [⟨some 32, .mv (.t 0), [], [], none, none⟩,
       ⟨some 33, .mv (.t 5), [], [], none, none⟩,
       ⟨some 34, .iaddr 1 (.t 32) (.t 33), [], [], none, none⟩,
       ⟨some 35, .load none (.t 34), [], [], none, none⟩,
       ⟨some 36, .bin .rem (.t 35) (.c (.d (.int .u8 8))), [], [], none, none⟩,
       ⟨some 37, .bin .lss (.t 36) (.c (.d (.int .u8 4))), [], [], none, none⟩])
   (.cond (.t 37) (.seq (.region [0, 3, 4, 5, 6, 8, 9] (some [3, 4, 8]) (some ([0, 1, 2, 3, 4, 5, 6, 7, 8], .two 9 (.one 10 (.one 11 (.one 12 (.done)))) (.one 10 (.two 9 (.one 11 (.one 12 (.done))) (.one 11 (.one 9 (.one 12 (.done))))))))
        [⟨some 39, .load (some 1) (.t 3), [], [], none, none⟩,
         ⟨some 40, .mv (.t 6), [], [], none, none⟩,
         ⟨some 41, .mv (.t 6), [], [], none, none⟩,
         ⟨some 42, .bin .shl (.c (.d (.int .i64 1))) (.t 41), [], [2], none, none⟩,
         ⟨some 43, .build [.cap0, .d (.int .i64 0), .d (.int .i64 0), .d (.int .i64 0), .d (.int .i64 0), .d (.int .i64 0), .d (.int .i64 0), .d (.int .i64 0), .d (.int .i64 0), .d (.int .i64 0), .d (.int .i64 0), .d (.int .i64 0), .d (.int .i64 0), .cap0, .cap0, .cap0] [(7, 1, (.t 42))], [], [3], none, none⟩,
         ⟨some 44, .build [.d (.int .i64 0), .d (.int .i64 0), .d (.int .i64 0), .d (.int .i64 0), .d (.int .i64 0), .cap0, .d (.int .i64 0), .d (.int .i64 0), .d (.int .i64 0), .d (.int .i64 0), .d (.int .i64 0), .d (.int .i64 0), .d (.int .i64 0), .d (.int .i64 0), .d (.int .i64 0), .d (.int .i64 0), .d (.int .i64 0), .d (.int .i64 0), .cap0, .cap0, .cap0, .cap0] [(1, 1, (.t 40)), (2, 1, (.c (.d (.int .i64 1)))), (5, 16, (.t 43))], [], [1, 4], none, none⟩,
         ⟨some 45, .call 5 [(.t 39), (.t 44)], [], [0, 5], none, none⟩,
         ⟨some 38, .mv (.t 45), [], [6], none, none⟩,
         ⟨some 46, .ext (.t 38) 0, [], [7], none, none⟩,
         ⟨some 47, .ext (.t 38) 1, [], [7], none, none⟩,
         ⟨some 8, .alloc 8 [.cap0], [], [], none, none⟩,
         ⟨none, .store 1 (.t 8) (.t 46), [], [10, 8, 6, 0, 1, 2, 3, 4, 5, 6, 7, 8, 10], none, none⟩,
         ⟨some 9, .mv (.t 47), [], [9, 11, 0, 1, 2, 3, 4, 5, 6, 7, 8, 9, 10, 11], none, none⟩])
     (g_law17_BookOnce.c2))
    (.seq (.region [0, 3, 4, 5, 6, 10, 11] (some [3, 4, 10]) none
        [⟨some 59, .load (some 1) (.t 3), [], [], none, none⟩,
         ⟨some 60, .mv (.t 7), [], [], none, none⟩,
         ⟨some 61, .call 7 [(.t 59), (.t 60)], [], [], none, none⟩,
         ⟨some 58, .mv (.t 61), [], [], none, none⟩,
         ⟨some 62, .ext (.t 58) 0, [], [], none, none⟩,
         ⟨some 63, .ext (.t 58) 1, [], [], none, none⟩,
         ⟨some 10, .alloc 10 [.cap0], [], [], none, none⟩,
         ⟨none, .store 1 (.t 10) (.t 62), [], [], none, none⟩,
         ⟨some 11, .mv (.t 63), [], [], none, none⟩])
     (g_law17_BookOnce.c4))))
  (g_law17_BookOnce.c6)
def g_law17_BookOnce.c8 : ACode :=
  .seq (.region [0, 3, 4, 5, 6, 7] (some [3, 4]) none
     [⟨some 29, .load (some 1) (.t 3), [], [], none, none⟩,
      ⟨some 30, .mv (.t 6), [], [], none, none⟩,
      ⟨some 31, .call 8 [(.t 29), (.c (.d (.int .i64 1))), (.t 30)], [], [], none, none⟩,
      ⟨some 7, .mv (.t 31), [], [], none, none⟩])
  (g_law17_BookOnce.c7)
def g_law17_BookOnce.c9 : ACode :=
  .region [0, 3, 4, 5] (some [3, 4]) none
    [⟨some 21, .mv (.t 5), [], [], none, none⟩,
     ⟨some 22, .bin .add (.t 21) (.c (.d (.int .i64 1))), [], [], none, none⟩,
     ⟨some 5, .mv (.t 22), [], [], none, none⟩]
def g_law17_BookOnce.c10 : ACode :=
  .seq (.block 1 [0, 3, 4, 5] (some [3, 4]) (.seq (.region [0, 3, 4, 5, 6] (some [3, 4]) none
       [⟨some 23, .mv (.t 0), [], [], none, none⟩,
        ⟨some 24, .mv (.t 5), [], [], none, none⟩,
        ⟨some 25, .iaddr 1 (.t 23) (.t 24), [], [], none, none⟩,
        ⟨some 26, .load none (.t 25), [], [], none, none⟩,
        ⟨some 27, .bin .rem (.t 26) (.c (.d (.int .u8 4))), [], [], none, none⟩,
        ⟨some 28, .conv .i64 (.t 27), [], [], none, none⟩,
        ⟨some 6, .mv (.t 28), [], [], none, none⟩])
    (g_law17_BookOnce.c8)))
  (g_law17_BookOnce.c9)
def g_law17_BookOnce.l0 : ACode :=
  .loop [0, 3, 4, 5] (some [3, 4]) (.seq (.seq (.region [0, 3, 4, 5, 20] (some [3, 4]) none
      (⟨some 13, .mv (.t 5), [], [], none, none⟩ ::
       ⟨some 14, .mv (.t 0), [], [], none, none⟩ ::
       ⟨some 15, .len (.t 14), [], [], none, none⟩ ::
       ⟨some 16, .bin .lss (.t 13) (.t 15), [], [], none, none⟩ ::
       ⟨some 17, .mv (.t 16), [], [], none, (some ([0, 3, 4, 5, 17], (some [3, 4])))⟩ ::
       g_law17_BookOnce.o0))
   (g_law17_BookOnce.c0))
  (g_law17_BookOnce.c10))
def g_law17_BookOnce.c11 : ACode :=
  .seq (.region [2] (some []) none
     [⟨some 93, .call 4 [], [], [], none, none⟩,
      ⟨some 2, .mv (.t 93), [], [], none, none⟩])
  (.ret)
def g_law17_BookOnce.code : ACode :=
  .seq (.region [0] (some []) none
     [⟨some 2, .mv (.c (.d (.bool false))), [], [], none, none⟩])
  (.seq (.region [0, 3] (some [3]) none
      [⟨some 3, .alloc 3 [.cap0], [], [], none, none⟩])
   (.seq (.region [0, 3, 4] (some [3, 4]) none
       [⟨some 4, .alloc 4 [.d (.int .i64 0), .d (.int .i64 0), .d (.int .i64 0), .d (.int .i64 0)], [], [], none, none⟩])
    (.seq (.seq (.region [0, 3, 4, 5] (some [3, 4]) none
         [⟨some 5, .mv (.c (.d (.int .i64 0))), [], [], none, none⟩])
      (.block 0 [] (some []) (g_law17_BookOnce.l0)))
     (g_law17_BookOnce.c11))))
def g_law17_BookOnce : AFn := { N := 94, res := [.slot 2], own := [], frz := [], code := g_law17_BookOnce.code }

/- paymaster/paymasterlaw17.awake: function 4.  -/
def g_law17_awake.o15 : List AOper :=
  [⟨some 67, .pick (.t 63) (.t 66) (.c (.d (.bool false))), [], [], none, none⟩,
     ⟨some 0, .mv (.t 67), [], [], none, none⟩]
def g_law17_awake.o14 : List AOper :=
  (⟨some 64, .load (some 1) (.t 4), [], [], (some (35, 63, true)), none⟩ ::
     ⟨some 65, .call 9 [(.t 64), (.c (.d (.int .i64 1)))], [], [], (some (35, 63, true)), none⟩ ::
     ⟨some 66, .un .not (.t 65), [], [], (some (35, 63, true)), (some ([63, 66], (some [])))⟩ ::
     g_law17_awake.o15)
def g_law17_awake.o13 : List AOper :=
  (⟨some 62, .pick (.t 59) (.t 61) (.c (.d (.bool false))), [], [], none, none⟩ ::
     ⟨some 63, .mv (.t 62), [], [], none, (some ([4, 63], (some [4])))⟩ ::
     g_law17_awake.o14)
def g_law17_awake.o12 : List AOper :=
  (⟨some 60, .load (some 1) (.t 1), [], [], (some (31, 59, true)), none⟩ ::
     ⟨some 61, .call 9 [(.t 60), (.c (.d (.int .i64 0)))], [], [], (some (31, 59, true)), (some ([4, 59, 61], (some [4])))⟩ ::
     g_law17_awake.o13)
def g_law17_awake.o11 : List AOper :=
  (⟨some 58, .pick (.t 55) (.t 57) (.c (.d (.bool false))), [], [], none, none⟩ ::
     ⟨some 59, .mv (.t 58), [], [], none, (some ([1, 4, 59], (some [1, 4])))⟩ ::
     g_law17_awake.o12)
def g_law17_awake.o10 : List AOper :=
  (⟨some 56, .mv (.t 7), [], [], (some (27, 55, true)), none⟩ ::
     ⟨some 57, .bin .eql (.t 56) (.c (.d (.int .i64 6))), [], [], (some (27, 55, true)), (some ([1, 4, 55, 57], (some [1, 4])))⟩ ::
     g_law17_awake.o11)
def g_law17_awake.o9 : List AOper :=
  (⟨some 54, .pick (.t 50) (.t 53) (.c (.d (.bool false))), [], [], none, none⟩ ::
     ⟨some 55, .mv (.t 54), [], [], none, (some ([1, 4, 7, 55], (some [1, 4])))⟩ ::
     g_law17_awake.o10)
def g_law17_awake.o8 : List AOper :=
  (⟨some 51, .load (some 1) (.t 4), [], [], (some (22, 50, true)), none⟩ ::
     ⟨some 52, .call 8 [(.t 51), (.c (.d (.int .i64 1))), (.c (.d (.int .i64 24276)))], [], [], (some (22, 50, true)), none⟩ ::
     ⟨some 53, .bin .eql (.t 52) (.c (.d (.int .i64 (-1)))), [], [], (some (22, 50, true)), (some ([1, 4, 7, 50, 53], (some [1, 4])))⟩ ::
     g_law17_awake.o9)
def g_law17_awake.o7 : List AOper :=
  (⟨some 49, .pick (.t 45) (.t 48) (.c (.d (.bool false))), [], [], none, none⟩ ::
     ⟨some 50, .mv (.t 49), [], [], none, (some ([1, 4, 7, 50], (some [1, 4])))⟩ ::
     g_law17_awake.o8)
def g_law17_awake.o6 : List AOper :=
  (⟨some 46, .load (some 1) (.t 1), [], [], (some (17, 45, true)), none⟩ ::
     ⟨some 47, .call 8 [(.t 46), (.c (.d (.int .i64 1))), (.c (.d (.int .i64 24276)))], [], [], (some (17, 45, true)), none⟩ ::
     ⟨some 48, .bin .eql (.t 47) (.c (.d (.int .i64 0))), [], [], (some (17, 45, true)), (some ([1, 4, 7, 45, 48], (some [1, 4])))⟩ ::
     g_law17_awake.o7)
def g_law17_awake.o5 : List AOper :=
  (⟨some 44, .pick (.t 41) (.t 43) (.c (.d (.bool false))), [], [], none, none⟩ ::
     ⟨some 45, .mv (.t 44), [], [], none, (some ([1, 4, 7, 45], (some [1, 4])))⟩ ::
     g_law17_awake.o6)
def g_law17_awake.o4 : List AOper :=
  (⟨some 42, .mv (.t 5), [], [], (some (13, 41, true)), none⟩ ::
     ⟨some 43, .bin .eql (.t 42) (.c (.d (.int .i64 0))), [], [], (some (13, 41, true)), (some ([1, 4, 7, 41, 43], (some [1, 4])))⟩ ::
     g_law17_awake.o5)
def g_law17_awake.o3 : List AOper :=
  (⟨some 40, .pick (.t 35) (.t 39) (.c (.d (.bool false))), [], [], none, none⟩ ::
     ⟨some 41, .mv (.t 40), [], [], none, (some ([1, 4, 5, 7, 41], (some [1, 4])))⟩ ::
     g_law17_awake.o4)
def g_law17_awake.o2 : List AOper :=
  (⟨some 36, .faddr 3 (.t 3), [], [], (some (7, 35, true)), none⟩ ::
     ⟨some 37, .load none (.t 36), [], [], (some (7, 35, true)), none⟩ ::
     ⟨some 38, .len (.t 37), [], [], (some (7, 35, true)), none⟩ ::
     ⟨some 39, .bin .eql (.t 38) (.c (.d (.int .i64 1))), [], [], (some (7, 35, true)), (some ([1, 4, 5, 7, 35, 39], (some [1, 4])))⟩ ::
     g_law17_awake.o3)
def g_law17_awake.o1 : List AOper :=
  (⟨some 34, .pick (.t 30) (.t 33) (.c (.d (.bool false))), [], [], none, none⟩ ::
     ⟨some 35, .mv (.t 34), [], [], none, (some ([1, 3, 4, 5, 7, 35], (some [1, 3, 4])))⟩ ::
     g_law17_awake.o2)
def g_law17_awake.o0 : List AOper :=
  (⟨some 31, .faddr 0 (.t 3), [], [], (some (2, 30, true)), none⟩ ::
     ⟨some 32, .load none (.t 31), [], [], (some (2, 30, true)), none⟩ ::
     ⟨some 33, .bin .eql (.t 32) (.c (.d (.int .i64 7))), [], [], (some (2, 30, true)), (some ([1, 3, 4, 5, 7, 30, 33], (some [1, 3, 4])))⟩ ::
     g_law17_awake.o1)
def g_law17_awake.c0 : ACode :=
  .ret
def g_law17_awake.c1 : ACode :=
  .seq (.region [0] (some []) none
     (⟨some 28, .mv (.t 2), [], [], none, none⟩ ::
      ⟨some 29, .bin .eql (.t 28) (.c (.d (.int .i64 0))), [], [], none, none⟩ ::
      ⟨some 30, .mv (.t 29), [], [], none, (some ([1, 3, 4, 5, 7, 30], (some [1, 3, 4])))⟩ ::
      g_law17_awake.o0))
  (g_law17_awake.c0)
def g_law17_awake.c2 : ACode :=
  .seq (.region [1, 2, 3, 4, 5, 7] (some [1, 3, 4]) none
     [⟨some 23, .load (some 1) (.t 1), [], [], none, none⟩,
      ⟨some 24, .build [.d (.int .i64 0), .d (.int .i64 0), .d (.int .i64 0), .d (.int .i64 0), .d (.int .i64 0), .cap0, .d (.int .i64 0), .d (.int .i64 0), .d (.int .i64 0), .d (.int .i64 0), .d (.int .i64 0), .d (.int .i64 0), .d (.int .i64 0), .d (.int .i64 0), .d (.int .i64 0), .d (.int .i64 0), .d (.int .i64 0), .d (.int .i64 0), .cap0, .cap0, .cap0, .cap0] [(1, 1, (.c (.d (.int .i64 24276)))), (2, 1, (.c (.d (.int .i64 1))))], [], [], none, none⟩,
      ⟨some 25, .call 5 [(.t 23), (.t 24)], [], [], none, none⟩,
      ⟨some 22, .mv (.t 25), [], [], none, none⟩,
      ⟨some 26, .ext (.t 22) 0, [], [], none, none⟩,
      ⟨some 27, .ext (.t 22) 1, [], [], none, none⟩,
      ⟨some 6, .alloc 6 [.cap0], [], [], none, none⟩,
      ⟨none, .store 1 (.t 6) (.t 26), [], [], none, none⟩,
      ⟨some 7, .mv (.t 27), [], [], none, none⟩])
  (g_law17_awake.c1)
def g_law17_awake.c3 : ACode :=
  .seq (.region [1, 2, 3, 4, 5] (some [1, 3, 4]) none
     [⟨some 18, .load (some 1) (.t 1), [], [], none, none⟩,
      ⟨some 19, .call 7 [(.t 18), (.c (.d (.int .i64 0)))], [], [], none, none⟩,
      ⟨some 17, .mv (.t 19), [], [], none, none⟩,
      ⟨some 20, .ext (.t 17) 0, [], [], none, none⟩,
      ⟨some 21, .ext (.t 17) 1, [], [], none, none⟩,
      ⟨some 4, .alloc 4 [.cap0], [], [], none, none⟩,
      ⟨none, .store 1 (.t 4) (.t 20), [], [], none, none⟩,
      ⟨some 5, .mv (.t 21), [], [], none, none⟩])
  (g_law17_awake.c2)
def g_law17_awake.c4 : ACode :=
  .seq (.region [1, 2, 3] (some [1, 3]) none
     [⟨some 15, .load (some 1) (.t 1), [], [], none, none⟩,
      ⟨some 16, .call 6 [(.t 15), (.c (.d (.int .i64 1))), (.c (.d (.int .i64 2023))), (.c (.d (.int .i64 1)))], [], [], none, none⟩,
      ⟨some 3, .alloc 3 [.d (.int .i64 0), .d (.int .i64 0), .d (.int .i64 0), .cap0, .cap0], [], [], none, none⟩,
      ⟨none, .store 5 (.t 3) (.t 16), [], [], none, none⟩])
  (g_law17_awake.c3)
def g_law17_awake.code : ACode :=
  .seq (.region [] (some []) none
     [⟨some 0, .mv (.c (.d (.bool false))), [], [], none, none⟩])
  (.seq (.region [1, 2] (some [1]) none
      [⟨some 9, .build [.cap0] [], [], [], none, none⟩,
       ⟨some 10, .build [.cap0, .d (.int .i64 0), .d (.int .i64 0), .d (.int .i64 0), .d (.int .i64 0), .d (.int .i64 0), .d (.int .i64 0), .d (.int .i64 0), .d (.int .i64 0), .d (.int .i64 0), .d (.int .i64 0), .d (.int .i64 0), .d (.int .i64 0), .cap0, .cap0, .cap0] [(7, 1, (.c (.d (.int .i64 7))))], [], [], none, none⟩,
       ⟨some 11, .build [.d (.int .i64 0), .d (.int .i64 0), .d (.int .i64 0), .d (.int .i64 0), .d (.int .i64 0), .cap0, .d (.int .i64 0), .d (.int .i64 0), .d (.int .i64 0), .d (.int .i64 0), .d (.int .i64 0), .d (.int .i64 0), .d (.int .i64 0), .d (.int .i64 0), .d (.int .i64 0), .d (.int .i64 0), .d (.int .i64 0), .d (.int .i64 0), .cap0, .cap0, .cap0, .cap0] [(1, 1, (.c (.d (.int .i64 24276)))), (2, 1, (.c (.d (.int .i64 1)))), (5, 16, (.t 10))], [], [], none, none⟩,
       ⟨some 12, .call 5 [(.t 9), (.t 11)], [], [], none, none⟩,
       ⟨some 8, .mv (.t 12), [], [], none, none⟩,
       ⟨some 13, .ext (.t 8) 0, [], [], none, none⟩,
       ⟨some 14, .ext (.t 8) 1, [], [], none, none⟩,
       ⟨some 1, .alloc 1 [.cap0], [], [], none, none⟩,
       ⟨none, .store 1 (.t 1) (.t 13), [], [], none, none⟩,
       ⟨some 2, .mv (.t 14), [], [], none, none⟩])
   (g_law17_awake.c4))
def g_law17_awake : AFn := { N := 68, res := [.slot 0], own := [], frz := [], code := g_law17_awake.code }

/- paymaster/book.Add: function 5. drawn region 5: first 4, left 5 -/
def g_book_Add.c0 : ACode :=
  .seq (.region [4, 5] (some [4]) (some ([0, 1, 3, 4], .one 2 (.one 5 (.one 6 (.one 7 (.one 8 (.done)))))))
     [⟨some 20, .faddr 0 (.t 2), [], [], none, none⟩,
      ⟨some 21, .load none (.t 20), [], [0], none, none⟩,
      ⟨some 22, .call 14 [(.t 21)], [], [1], none, none⟩,
      ⟨some 23, .load (some 22) (.t 3), [], [], none, none⟩,
      ⟨some 24, .bsl none 22 [] 1 [(0, (.t 23))], [], [3], none, none⟩,
      ⟨some 25, .app none 22 256 (.t 22) (.t 24), [], [2, 4, 2], none, none⟩,
      ⟨some 26, .build [.cap0] [(0, 1, (.t 25))], [], [5], none, none⟩,
      ⟨none, .store 1 (.t 4) (.t 26), [], [6, 5, 0, 1, 2, 3, 4, 5, 6], none, none⟩,
      ⟨some 5, .mv (.c (.d (.int .i64 0))), [], [7, 0, 1, 2, 3, 4, 5, 6, 7], none, none⟩])
  (.ret)
def g_book_Add.c1 : ACode :=
  .seq (.block 0 [2, 3, 4] (some [2, 3, 4]) (.seq (.region [2, 3, 4, 6] (some [2, 3, 4]) none
       [⟨some 7, .faddr 4 (.t 3), [], [], none, none⟩,
        ⟨some 8, .load none (.t 7), [], [], none, none⟩,
        ⟨some 9, .bin .neq (.t 8) (.c (.d (.int .i64 0))), [], [], none, none⟩,
        ⟨some 6, .mv (.t 9), [], [], none, none⟩])
    (.cond (.t 6) (.seq (.region [4, 5] (some [4]) none
         [⟨some 10, .load (some 1) (.t 2), [], [], none, none⟩,
          ⟨none, .store 1 (.t 4) (.t 10), [], [], none, none⟩,
          ⟨some 5, .mv (.c (.d (.int .i64 1))), [], [], none, none⟩])
      (.ret))
     (.seq (.region [2, 3, 4, 11] (some [2, 3, 4]) none
         [⟨some 12, .load (some 1) (.t 2), [], [], none, none⟩,
          ⟨some 13, .faddr 2 (.t 3), [], [], none, none⟩,
          ⟨some 14, .load none (.t 13), [], [], none, none⟩,
          ⟨some 15, .faddr 1 (.t 3), [], [], none, none⟩,
          ⟨some 16, .load none (.t 15), [], [], none, none⟩,
          ⟨some 17, .call 8 [(.t 12), (.t 14), (.t 16)], [], [], none, none⟩,
          ⟨some 18, .bin .geq (.t 17) (.c (.d (.int .i64 0))), [], [], none, none⟩,
          ⟨some 11, .mv (.t 18), [], [], none, none⟩])
      (.cond (.t 11) (.seq (.region [4, 5] (some [4]) none
           [⟨some 19, .load (some 1) (.t 2), [], [], none, none⟩,
            ⟨none, .store 1 (.t 4) (.t 19), [], [], none, none⟩,
            ⟨some 5, .mv (.c (.d (.int .i64 6))), [], [], none, none⟩])
        (.ret))
       (.skip))))))
  (g_book_Add.c0)
def g_book_Add.code : ACode :=
  .seq (.region [2, 3, 4] (some [2, 3, 4]) none
     [⟨some 2, .box 2 1 (.t 0), [], [], none, none⟩,
      ⟨some 3, .box 3 22 (.t 1), [], [], none, none⟩,
      ⟨some 4, .alloc 4 [.cap0], [], [], none, none⟩,
      ⟨some 5, .mv (.c (.d (.int .i64 0))), [], [], none, none⟩])
  (g_book_Add.c1)
def g_book_Add : AFn := { N := 27, res := [.cell 4 (some 1), .slot 5], own := [], frz := [4], code := g_book_Add.code }

/- paymaster/book.Reverse: function 7. drawn region 9: first 4, left 5 -/
def g_book_Reverse.o1 : List AOper :=
  [⟨some 16, .pick (.t 10) (.c (.d (.bool true))) (.t 15), [], [], none, none⟩,
     ⟨some 7, .mv (.t 16), [], [], none, none⟩]
def g_book_Reverse.o0 : List AOper :=
  (⟨some 11, .mv (.t 1), [], [], (some (2, 10, false)), none⟩ ::
     ⟨some 12, .faddr 0 (.t 2), [], [], (some (2, 10, false)), none⟩ ::
     ⟨some 13, .load none (.t 12), [], [], (some (2, 10, false)), none⟩ ::
     ⟨some 14, .len (.t 13), [], [], (some (2, 10, false)), none⟩ ::
     ⟨some 15, .bin .geq (.t 11) (.t 14), [], [], (some (2, 10, false)), (some ([1, 2, 4, 10, 15], (some [2, 4])))⟩ ::
     g_book_Reverse.o1)
def g_book_Reverse.c0 : ACode :=
  .cond (.t 7) (.seq (.region [4, 5] (some [4]) none
      [⟨some 17, .load (some 1) (.t 2), [], [], none, none⟩,
       ⟨none, .store 1 (.t 4) (.t 17), [], [], none, none⟩,
       ⟨some 5, .mv (.c (.d (.int .i64 5))), [], [], none, none⟩])
   (.ret))
  (.seq (.region [1, 2, 4, 18] (some [2, 4]) none
      [⟨some 19, .faddr 0 (.t 2), [], [], none, none⟩,
       ⟨some 20, .load none (.t 19), [], [], none, none⟩,
       ⟨some 21, .mv (.t 1), [], [], none, none⟩,
       ⟨some 22, .iaddr 22 (.t 20) (.t 21), [], [], none, none⟩,
       ⟨some 23, .faddr 4 (.t 22), [], [], none, none⟩,
       ⟨some 24, .load none (.t 23), [], [], none, none⟩,
       ⟨some 25, .bin .neq (.t 24) (.c (.d (.int .i64 0))), [], [], none, none⟩,
       ⟨some 18, .mv (.t 25), [], [], none, none⟩])
   (.cond (.t 18) (.seq (.region [4, 5] (some [4]) none
        [⟨some 26, .load (some 1) (.t 2), [], [], none, none⟩,
         ⟨none, .store 1 (.t 4) (.t 26), [], [], none, none⟩,
         ⟨some 5, .mv (.c (.d (.int .i64 1))), [], [], none, none⟩])
     (.ret))
    (.seq (.region [1, 2, 4, 27] (some [2, 4]) none
        [⟨some 28, .load (some 1) (.t 2), [], [], none, none⟩,
         ⟨some 29, .mv (.t 1), [], [], none, none⟩,
         ⟨some 30, .call 9 [(.t 28), (.t 29)], [], [], none, none⟩,
         ⟨some 31, .un .not (.t 30), [], [], none, none⟩,
         ⟨some 27, .mv (.t 31), [], [], none, none⟩])
     (.cond (.t 27) (.seq (.region [4, 5] (some [4]) none
          [⟨some 32, .load (some 1) (.t 2), [], [], none, none⟩,
           ⟨none, .store 1 (.t 4) (.t 32), [], [], none, none⟩,
           ⟨some 5, .mv (.c (.d (.int .i64 6))), [], [], none, none⟩])
       (.ret))
      (.skip)))))
def g_book_Reverse.c1 : ACode :=
  .seq (.region [4, 5] (some [4]) (some ([0, 1, 3, 4], .one 2 (.one 5 (.one 6 (.one 7 (.one 8 (.done)))))))
     [⟨some 41, .faddr 0 (.t 2), [], [], none, none⟩,
      ⟨some 42, .load none (.t 41), [], [0], none, none⟩,
      ⟨some 43, .call 14 [(.t 42)], [], [1], none, none⟩,
      ⟨some 44, .load (some 22) (.t 6), [], [], none, none⟩,
      ⟨some 45, .bsl none 22 [] 1 [(0, (.t 44))], [], [3], none, none⟩,
      ⟨some 46, .app none 22 256 (.t 43) (.t 45), [], [2, 4, 2], none, none⟩,
      ⟨some 47, .build [.cap0] [(0, 1, (.t 46))], [], [5], none, none⟩,
      ⟨none, .store 1 (.t 4) (.t 47), [], [6, 5, 0, 1, 2, 3, 4, 5, 6], none, none⟩,
      ⟨some 5, .mv (.c (.d (.int .i64 0))), [], [7, 0, 1, 2, 3, 4, 5, 6, 7], none, none⟩])
  (.ret)
def g_book_Reverse.c2 : ACode :=
  .seq (.region [2, 4, 6] (some [2, 4, 6]) none
     [⟨some 38, .mv (.t 1), [], [], none, none⟩,
      ⟨some 39, .bin .add (.t 38) (.c (.d (.int .i64 1))), [], [], none, none⟩,
      ⟨some 40, .faddr 4 (.t 6), [], [], none, none⟩,
      ⟨none, .store 1 (.t 40) (.t 39), [], [], none, none⟩])
  (g_book_Reverse.c1)
def g_book_Reverse.c3 : ACode :=
  .seq (.region [1, 2, 4, 6] (some [2, 4, 6]) none
     [⟨some 33, .faddr 0 (.t 2), [], [], none, none⟩,
      ⟨some 34, .load none (.t 33), [], [], none, none⟩,
      ⟨some 35, .mv (.t 1), [], [], none, none⟩,
      ⟨some 36, .iaddr 22 (.t 34) (.t 35), [], [], none, none⟩,
      ⟨some 37, .load (some 22) (.t 36), [], [], none, none⟩,
      ⟨some 6, .alloc 6 [.d (.int .i64 0), .d (.int .i64 0), .d (.int .i64 0), .d (.int .i64 0), .d (.int .i64 0), .cap0, .d (.int .i64 0), .d (.int .i64 0), .d (.int .i64 0), .d (.int .i64 0), .d (.int .i64 0), .d (.int .i64 0), .d (.int .i64 0), .d (.int .i64 0), .d (.int .i64 0), .d (.int .i64 0), .d (.int .i64 0), .d (.int .i64 0), .cap0, .cap0, .cap0, .cap0], [], [], none, none⟩,
      ⟨none, .store 22 (.t 6) (.t 37), [], [], none, none⟩])
  (g_book_Reverse.c2)
def g_book_Reverse.code : ACode :=
  .seq (.region [1, 2, 4] (some [2, 4]) none
     [⟨some 2, .box 2 1 (.t 0), [], [], none, none⟩,
      ⟨some 4, .alloc 4 [.cap0], [], [], none, none⟩,
      ⟨some 5, .mv (.c (.d (.int .i64 0))), [], [], none, none⟩])
  (.seq (.block 0 [1, 2, 4] (some [2, 4]) (.seq (.region [1, 2, 4, 7] (some [2, 4]) none
        (⟨some 8, .mv (.t 1), [], [], none, none⟩ ::
         ⟨some 9, .bin .lss (.t 8) (.c (.d (.int .i64 0))), [], [], none, none⟩ ::
         ⟨some 10, .mv (.t 9), [], [], none, (some ([1, 2, 4, 10], (some [2, 4])))⟩ ::
         g_book_Reverse.o0))
     (g_book_Reverse.c0)))
   (g_book_Reverse.c3))
def g_book_Reverse : AFn := { N := 48, res := [.cell 4 (some 1), .slot 5], own := [], frz := [4], code := g_book_Reverse.code }

/- paymaster/book.Live: function 9.  -/
def g_book_Live.o5 : List AOper :=
  [⟨some 29, .pick (.t 23) (.t 28) (.c (.d (.bool false))), [], [], none, none⟩,
     ⟨some 4, .mv (.t 29), [], [], none, none⟩]
def g_book_Live.o4 : List AOper :=
  (⟨some 24, .faddr 0 (.t 2), [], [], (some (18, 23, true)), none⟩ ::
     ⟨some 25, .load none (.t 24), [], [], (some (18, 23, true)), none⟩ ::
     ⟨some 26, .fnv 30 [(.t 3)], [], [], (some (18, 23, true)), none⟩ ::
     ⟨some 27, .call 15 [(.t 25), (.t 26)], [], [], (some (18, 23, true)), none⟩ ::
     ⟨some 28, .un .not (.t 27), [], [], (some (18, 23, true)), (some ([23, 28], (some [])))⟩ ::
     g_book_Live.o5)
def g_book_Live.o3 : List AOper :=
  (⟨some 22, .pick (.t 14) (.t 21) (.c (.d (.bool false))), [], [], none, none⟩ ::
     ⟨some 23, .mv (.t 22), [], [], none, (some ([2, 3, 23], (some [2, 3])))⟩ ::
     g_book_Live.o4)
def g_book_Live.o2 : List AOper :=
  (⟨some 15, .faddr 0 (.t 2), [], [], (some (9, 14, true)), none⟩ ::
     ⟨some 16, .load none (.t 15), [], [], (some (9, 14, true)), none⟩ ::
     ⟨some 17, .load none (.t 3), [], [], (some (9, 14, true)), none⟩ ::
     ⟨some 18, .iaddr 22 (.t 16) (.t 17), [], [], (some (9, 14, true)), none⟩ ::
     ⟨some 19, .faddr 4 (.t 18), [], [], (some (9, 14, true)), none⟩ ::
     ⟨some 20, .load none (.t 19), [], [], (some (9, 14, true)), none⟩ ::
     ⟨some 21, .bin .eql (.t 20) (.c (.d (.int .i64 0))), [], [], (some (9, 14, true)), (some ([2, 3, 14, 21], (some [2, 3])))⟩ ::
     g_book_Live.o3)
def g_book_Live.o1 : List AOper :=
  (⟨some 13, .pick (.t 7) (.t 12) (.c (.d (.bool false))), [], [], none, none⟩ ::
     ⟨some 14, .mv (.t 13), [], [], none, (some ([2, 3, 14], (some [2, 3])))⟩ ::
     g_book_Live.o2)
def g_book_Live.o0 : List AOper :=
  (⟨some 8, .load none (.t 3), [], [], (some (2, 7, true)), none⟩ ::
     ⟨some 9, .faddr 0 (.t 2), [], [], (some (2, 7, true)), none⟩ ::
     ⟨some 10, .load none (.t 9), [], [], (some (2, 7, true)), none⟩ ::
     ⟨some 11, .len (.t 10), [], [], (some (2, 7, true)), none⟩ ::
     ⟨some 12, .bin .lss (.t 8) (.t 11), [], [], (some (2, 7, true)), (some ([2, 3, 7, 12], (some [2, 3])))⟩ ::
     g_book_Live.o1)
def g_book_Live.c0 : ACode :=
  .ret
def g_book_Live.code : ACode :=
  .seq (.region [2, 3] (some [2, 3]) none
     [⟨some 2, .box 2 1 (.t 0), [], [], none, none⟩,
      ⟨some 3, .box 3 1 (.t 1), [], [], none, none⟩,
      ⟨some 4, .mv (.c (.d (.bool false))), [], [], none, none⟩])
  (.seq (.region [4] (some []) none
      (⟨some 5, .load none (.t 3), [], [], none, none⟩ ::
       ⟨some 6, .bin .geq (.t 5) (.c (.d (.int .i64 0))), [], [], none, none⟩ ::
       ⟨some 7, .mv (.t 6), [], [], none, (some ([2, 3, 7], (some [2, 3])))⟩ ::
       g_book_Live.o0))
   (g_book_Live.c0))
def g_book_Live : AFn := { N := 30, res := [.slot 4], own := [], frz := [], code := g_book_Live.code }

/- paymaster/book.Find: function 8.  -/
def g_book_Find.o3 : List AOper :=
  [⟨some 31, .pick (.t 27) (.t 30) (.c (.d (.bool false))), [], [], none, none⟩]
def g_book_Find.o2 : List AOper :=
  (⟨some 28, .load (some 1) (.t 3), [], [], (some (10, 27, true)), none⟩ ::
     ⟨some 29, .mv (.t 7), [], [], (some (10, 27, true)), none⟩ ::
     ⟨some 30, .call 9 [(.t 28), (.t 29)], [], [], (some (10, 27, true)), (some ([1, 2, 3, 7, 10, 11, 12, 27, 30], (some [3])))⟩ ::
     g_book_Find.o3)
def g_book_Find.o1 : List AOper :=
  (⟨some 26, .pick (.t 21) (.t 25) (.c (.d (.bool false))), [], [], none, none⟩ ::
     ⟨some 27, .mv (.t 26), [], [], none, (some ([1, 2, 3, 7, 10, 11, 12, 27], (some [3])))⟩ ::
     g_book_Find.o2)
def g_book_Find.o0 : List AOper :=
  (⟨some 22, .faddr 1 (.t 8), [], [], (some (4, 21, true)), none⟩ ::
     ⟨some 23, .load none (.t 22), [], [], (some (4, 21, true)), none⟩ ::
     ⟨some 24, .mv (.t 2), [], [], (some (4, 21, true)), none⟩ ::
     ⟨some 25, .bin .eql (.t 23) (.t 24), [], [], (some (4, 21, true)), (some ([1, 2, 3, 7, 10, 11, 12, 21, 25], (some [3])))⟩ ::
     g_book_Find.o1)
def g_book_Find.c0 : ACode :=
  .cond (.t 31) (.seq (.region [6] (some []) none
      [⟨some 32, .mv (.t 7), [], [], none, none⟩,
       ⟨some 6, .mv (.t 32), [], [], none, none⟩])
   (.ret))
  (.skip)
def g_book_Find.c1 : ACode :=
  .seq (.region [1, 2, 3, 7, 10, 11, 12, 31] (some [3]) none
     (⟨some 17, .faddr 2 (.t 8), [], [], none, none⟩ ::
      ⟨some 18, .load none (.t 17), [], [], none, none⟩ ::
      ⟨some 19, .mv (.t 1), [], [], none, none⟩ ::
      ⟨some 20, .bin .eql (.t 18) (.t 19), [], [], none, none⟩ ::
      ⟨some 21, .mv (.t 20), [], [], none, (some ([1, 2, 3, 7, 8, 10, 11, 12, 21], (some [3, 8])))⟩ ::
      g_book_Find.o0))
  (g_book_Find.c0)
def g_book_Find.c2 : ACode :=
  .region [1, 2, 3, 10, 11, 12] (some [3]) none
    [⟨some 33, .bin .add (.t 12) (.c (.d (.int .i64 1))), [], [], none, none⟩,
     ⟨some 12, .mv (.t 33), [], [], none, none⟩]
def g_book_Find.l0 : ACode :=
  .loop [1, 2, 3, 10, 11, 12] (some [3]) (.seq (.region [1, 2, 3, 10, 11, 12, 13] (some [3]) none
     [⟨some 13, .bin .lss (.t 12) (.t 11), [], [], none, none⟩])
  (.seq (.cond (.t 13) (.skip)
    (.exit 0))
   (.seq (.block 1 [1, 2, 3, 10, 11, 12] (some [3]) (.seq (.region [1, 2, 3, 7, 8, 10, 11, 12] (some [3, 8]) none
         [⟨some 14, .mv (.t 12), [], [], none, none⟩,
          ⟨some 15, .iaddr 22 (.t 10) (.t 12), [], [], none, none⟩,
          ⟨some 16, .load (some 22) (.t 15), [], [], none, none⟩,
          ⟨some 8, .alloc 8 [.d (.int .i64 0), .d (.int .i64 0), .d (.int .i64 0), .d (.int .i64 0), .d (.int .i64 0), .cap0, .d (.int .i64 0), .d (.int .i64 0), .d (.int .i64 0), .d (.int .i64 0), .d (.int .i64 0), .d (.int .i64 0), .d (.int .i64 0), .d (.int .i64 0), .d (.int .i64 0), .d (.int .i64 0), .d (.int .i64 0), .d (.int .i64 0), .cap0, .cap0, .cap0, .cap0], [], [], none, none⟩,
          ⟨some 7, .mv (.t 14), [], [], none, none⟩,
          ⟨none, .store 22 (.t 8) (.t 16), [], [], none, none⟩])
      (g_book_Find.c1)))
    (g_book_Find.c2))))
def g_book_Find.c3 : ACode :=
  .block 0 [] (some []) (g_book_Find.l0)
def g_book_Find.c4 : ACode :=
  .seq (.region [6] (some []) none
     [⟨some 6, .mv (.c (.d (.int .i64 (-1)))), [], [], none, none⟩])
  (.ret)
def g_book_Find.code : ACode :=
  .seq (.region [1, 2, 3] (some [3]) none
     [⟨some 3, .box 3 1 (.t 0), [], [], none, none⟩,
      ⟨some 6, .mv (.c (.d (.int .i64 0))), [], [], none, none⟩])
  (.seq (.seq (.region [1, 2, 3, 10, 11, 12] (some [3]) none
       [⟨some 9, .faddr 0 (.t 3), [], [], none, none⟩,
        ⟨some 10, .load none (.t 9), [], [], none, none⟩,
        ⟨some 11, .len (.t 10), [], [], none, none⟩,
        ⟨some 12, .mv (.c (.d (.int .i64 0))), [], [], none, none⟩])
    (g_book_Find.c3))
   (g_book_Find.c4))
def g_book_Find : AFn := { N := 34, res := [.slot 6], own := [], frz := [], code := g_book_Find.code }

/- paymaster/book.Year: function 6. drawn region 2: first 2, left 5 -/
def g_book_Year.a0 : List AOper :=
  [⟨some 16, .mv (.t 9), [], [], none, none⟩,
     ⟨some 17, .mks (some 17) 1 8 [(.int .i64 0)] (.t 16), [], [0, 0], none, none⟩,
     ⟨some 18, .mv (.t 9), [], [], none, none⟩,
     ⟨some 19, .mks (some 19) 1 8 [(.int .i64 0)] (.t 18), [], [2, 2], none, none⟩,
     ⟨some 20, .build [.d (.int .i64 0), .d (.int .i64 0), .d (.int .i64 0), .cap0, .cap0] [(3, 1, (.t 17)), (4, 1, (.t 19))], [], [1, 3], none, none⟩,
     ⟨some 10, .alloc 10 [.d (.int .i64 0), .d (.int .i64 0), .d (.int .i64 0), .cap0, .cap0], [], [], none, none⟩,
     ⟨none, .store 5 (.t 10) (.t 20), [], [5, 4, 0, 1, 2, 3, 4, 5], none, none⟩]
def g_book_Year.t2 : Tr := .one 6 .done
def g_book_Year.t3 : Tr := .one 5 g_book_Year.t2
def g_book_Year.t4 : Tr := .one 4 g_book_Year.t2
def g_book_Year.t5 : Tr := .one 5 g_book_Year.t4
def g_book_Year.t6 : Tr := .two 4 g_book_Year.t3 g_book_Year.t5
def g_book_Year.t7 : Tr := .one 3 g_book_Year.t4
def g_book_Year.t8 : Tr := .one 5 g_book_Year.t7
def g_book_Year.t9 : Tr := .two 3 g_book_Year.t6 g_book_Year.t8
def g_book_Year.t10 : Tr := .one 1 g_book_Year.t4
def g_book_Year.t11 : Tr := .one 5 g_book_Year.t10
def g_book_Year.t12 : Tr := .two 1 g_book_Year.t6 g_book_Year.t11
def g_book_Year.t13 : Tr := .one 3 g_book_Year.t10
def g_book_Year.t14 : Tr := .two 1 g_book_Year.t7 g_book_Year.t13
def g_book_Year.t15 : Tr := .one 5 g_book_Year.t14
def g_book_Year.t16 : Tr := .two 3 g_book_Year.t12 g_book_Year.t15
def g_book_Year.t17 : Tr := .two 1 g_book_Year.t9 g_book_Year.t16
def g_book_Year.i1 : List Nat := 2 :: []
def g_book_Year.c0 : ACode :=
  .region [2, 8, 10, 23, 24, 25] (some [8, 10, 17, 19]) none
    [⟨some 67, .faddr 4 (.t 10), [], [], none, none⟩,
     ⟨some 68, .load none (.t 67), [], [], none, none⟩,
     ⟨some 69, .faddr 5 (.t 12), [], [], none, none⟩,
     ⟨some 70, .faddr 14 (.t 69), [], [], none, none⟩,
     ⟨some 71, .load none (.t 70), [], [], none, none⟩,
     ⟨some 72, .call 19 [(.t 68), (.t 71)], [71], [], none, none⟩]
def g_book_Year.c1 : ACode :=
  .seq (.region [2, 8, 10, 12, 23, 24, 25] (some [8, 10, 12, 17, 19]) none
     [⟨some 61, .faddr 3 (.t 10), [], [], none, none⟩,
      ⟨some 62, .load none (.t 61), [], [], none, none⟩,
      ⟨some 63, .faddr 5 (.t 12), [], [], none, none⟩,
      ⟨some 64, .faddr 13 (.t 63), [], [], none, none⟩,
      ⟨some 65, .load none (.t 64), [], [], none, none⟩,
      ⟨some 66, .call 19 [(.t 62), (.t 65)], [65], [], none, none⟩])
  (g_book_Year.c0)
def g_book_Year.c2 : ACode :=
  .seq (.region [2, 8, 10, 12, 23, 24, 25] (some [8, 10, 12, 17, 19]) none
     [⟨some 54, .faddr 2 (.t 10), [], [], none, none⟩,
      ⟨some 55, .load none (.t 54), [], [], none, none⟩,
      ⟨some 56, .faddr 5 (.t 12), [], [], none, none⟩,
      ⟨some 57, .faddr 8 (.t 56), [], [], none, none⟩,
      ⟨some 58, .load none (.t 57), [], [], none, none⟩,
      ⟨some 59, .bin .add (.t 55) (.t 58), [], [], none, none⟩,
      ⟨some 60, .faddr 2 (.t 10), [], [], none, none⟩,
      ⟨none, .store 1 (.t 60) (.t 59), [], [], none, none⟩])
  (g_book_Year.c1)
def g_book_Year.c3 : ACode :=
  .seq (.region [2, 8, 10, 12, 23, 24, 25] (some [8, 10, 12, 17, 19]) none
     [⟨some 41, .faddr 1 (.t 10), [], [], none, none⟩,
      ⟨some 42, .load none (.t 41), [], [], none, none⟩,
      ⟨some 43, .faddr 5 (.t 12), [], [], none, none⟩,
      ⟨some 44, .faddr 1 (.t 43), [], [], none, none⟩,
      ⟨some 45, .faddr 0 (.t 44), [], [], none, none⟩,
      ⟨some 46, .load none (.t 45), [], [], none, none⟩,
      ⟨some 47, .faddr 5 (.t 12), [], [], none, none⟩,
      ⟨some 48, .faddr 4 (.t 47), [], [], none, none⟩,
      ⟨some 49, .faddr 0 (.t 48), [], [], none, none⟩,
      ⟨some 50, .load none (.t 49), [], [], none, none⟩,
      ⟨some 51, .bin .add (.t 46) (.t 50), [], [], none, none⟩,
      ⟨some 52, .bin .add (.t 42) (.t 51), [], [], none, none⟩,
      ⟨some 53, .faddr 1 (.t 10), [], [], none, none⟩,
      ⟨none, .store 1 (.t 53) (.t 52), [], [], none, none⟩])
  (g_book_Year.c2)
def g_book_Year.c4 : ACode :=
  .seq (.region [2, 8, 10, 12, 23, 24, 25] (some [8, 10, 12, 17, 19]) none
     [⟨some 34, .faddr 0 (.t 10), [], [], none, none⟩,
      ⟨some 35, .load none (.t 34), [], [], none, none⟩,
      ⟨some 36, .faddr 5 (.t 12), [], [], none, none⟩,
      ⟨some 37, .faddr 7 (.t 36), [], [], none, none⟩,
      ⟨some 38, .load none (.t 37), [], [], none, none⟩,
      ⟨some 39, .bin .add (.t 35) (.t 38), [], [], none, none⟩,
      ⟨some 40, .faddr 0 (.t 10), [], [], none, none⟩,
      ⟨none, .store 1 (.t 40) (.t 39), [], [], none, none⟩])
  (g_book_Year.c3)
def g_book_Year.c5 : ACode :=
  .seq (.seq (.region [2, 8, 10, 12, 23, 24, 25, 33] (some [8, 10, 12, 17, 19]) none
      [⟨some 29, .faddr 1 (.t 12), [], [], none, none⟩,
       ⟨some 30, .load none (.t 29), [], [], none, none⟩,
       ⟨some 31, .bin .quo (.t 30) (.c (.d (.int .i64 12))), [], [], none, none⟩,
       ⟨some 32, .mv (.t 2), [], [], none, none⟩,
       ⟨some 33, .bin .neq (.t 31) (.t 32), [], [], none, none⟩])
   (.cond (.t 33) (.exit 1)
    (.skip)))
  (g_book_Year.c4)
def g_book_Year.c6 : ACode :=
  .region [2, 8, 10, 23, 24, 25] (some [8, 10, 17, 19]) none
    [⟨some 73, .bin .add (.t 25) (.c (.d (.int .i64 1))), [], [], none, none⟩,
     ⟨some 25, .mv (.t 73), [], [], none, none⟩]
def g_book_Year.l0 : ACode :=
  .loop [2, 8, 10, 23, 24, 25] (some [8, 10, 17, 19]) (.seq (.region [2, 8, 10, 23, 24, 25, 26] (some [8, 10, 17, 19]) none
     [⟨some 26, .bin .lss (.t 25) (.t 24), [], [], none, none⟩])
  (.seq (.cond (.t 26) (.skip)
    (.exit 0))
   (.seq (.block 1 [2, 8, 10, 23, 24, 25] (some [8, 10, 17, 19]) (.seq (.region [2, 8, 10, 12, 23, 24, 25] (some [8, 10, 12, 17, 19]) none
         [⟨some 27, .iaddr 22 (.t 23) (.t 25), [], [], none, none⟩,
          ⟨some 28, .load (some 22) (.t 27), [], [], none, none⟩,
          ⟨some 12, .alloc 12 [.d (.int .i64 0), .d (.int .i64 0), .d (.int .i64 0), .d (.int .i64 0), .d (.int .i64 0), .cap0, .d (.int .i64 0), .d (.int .i64 0), .d (.int .i64 0), .d (.int .i64 0), .d (.int .i64 0), .d (.int .i64 0), .d (.int .i64 0), .d (.int .i64 0), .d (.int .i64 0), .d (.int .i64 0), .d (.int .i64 0), .d (.int .i64 0), .cap0, .cap0, .cap0, .cap0], [], [], none, none⟩,
          ⟨none, .store 22 (.t 12) (.t 28), [], [], none, none⟩])
      (g_book_Year.c5)))
    (g_book_Year.c6))))
def g_book_Year.c7 : ACode :=
  .block 0 [8, 10] (some [8, 10, 17, 19]) (g_book_Year.l0)
def g_book_Year.c8 : ACode :=
  .seq (.region [8] (some [8, 17, 19]) none
     [⟨some 74, .load (some 5) (.t 10), [], [], none, none⟩,
      ⟨none, .store 5 (.t 8) (.t 74), [], [], none, none⟩])
  (.ret)
def g_book_Year.c9 : ACode :=
  .seq (.seq (.region [2, 8, 10, 23, 24, 25] (some [8, 10, 17, 19]) none
      [⟨some 21, .load (some 1) (.t 4), [], [], none, none⟩,
       ⟨some 22, .mv (.t 1), [], [], none, none⟩,
       ⟨some 23, .call 18 [(.t 21), (.t 22)], [], [], none, none⟩,
       ⟨some 24, .len (.t 23), [], [], none, none⟩,
       ⟨some 25, .mv (.c (.d (.int .i64 0))), [], [], none, none⟩])
   (g_book_Year.c7))
  (g_book_Year.c8)
def g_book_Year.c10 : ACode :=
  .seq (.region [1, 2, 4, 8, 10] (some [4, 8, 10, 17, 19]) (some (0 :: g_book_Year.i1, g_book_Year.t17)) g_book_Year.a0)
  (g_book_Year.c9)
def g_book_Year.code : ACode :=
  .seq (.region [1, 2, 3, 4, 8] (some [4, 8, 17, 19]) none
     [⟨some 4, .box 4 1 (.t 0), [], [], none, none⟩,
      ⟨some 8, .alloc 8 [.d (.int .i64 0), .d (.int .i64 0), .d (.int .i64 0), .cap0, .cap0], [], [], none, none⟩])
  (.seq (.region [1, 2, 4, 8, 9] (some [4, 8, 17, 19]) none
      [⟨some 13, .mv (.t 3), [], [], none, none⟩,
       ⟨some 14, .mm true [(.t 13), (.c (.d (.int .i64 0)))], [], [], none, none⟩,
       ⟨some 15, .mm false [(.t 14), (.c (.d (.int .i64 6)))], [], [], none, none⟩,
       ⟨some 9, .mv (.t 15), [], [], none, none⟩])
   (g_book_Year.c10))
def g_book_Year : AFn := { N := 75, res := [.cell 8 (some 5)], own := [], frz := [8], code := g_book_Year.code }

/- slices.Clone[[]paymaster/book.Entry,paymaster/book.Entry]: function 14.  -/
def g_slices_Clone_Entry.code : ACode :=
  .seq (.region [0] (some []) none
     [⟨some 2, .mv (.c (.cap0)), [], [], none, none⟩])
  (.seq (.seq (.region [0, 4] (some []) none
       [⟨some 3, .mv (.t 0), [], [], none, none⟩,
        ⟨some 4, .nilS false (.t 3), [], [], none, none⟩])
    (.cond (.t 4) (.seq (.region [2] (some [5, 7]) none
         [⟨some 2, .mv (.c (.cap0)), [], [], none, none⟩])
      (.ret))
     (.skip)))
   (.seq (.region [2] (some [5, 7]) none
       [⟨some 5, .bsl (some 5) 22 [] 0 [], [], [], none, none⟩,
        ⟨some 6, .mv (.t 0), [], [], none, none⟩,
        ⟨some 7, .app (some 7) 22 256 (.t 5) (.t 6), [], [], none, none⟩,
        ⟨some 2, .mv (.t 7), [], [], none, none⟩])
    (.ret)))
def g_slices_Clone_Entry : AFn := { N := 8, res := [.slot 2], own := [(2, 7, 22)], frz := [], code := g_slices_Clone_Entry.code }

/- slices.ContainsFunc[[]paymaster/book.Entry,paymaster/book.Entry]: function 15.  -/
def g_slices_ContainsFunc_Entry.code : ACode :=
  .seq (.region [0, 1] none none
     [⟨some 4, .mv (.c (.d (.bool false))), [], [], none, none⟩])
  (.seq (.region [4] none none
      [⟨some 5, .mv (.t 0), [], [], none, none⟩,
       ⟨some 6, .mv (.t 1), [], [], none, none⟩,
       ⟨some 7, .call 16 [(.t 5), (.t 6)], [], [], none, none⟩,
       ⟨some 8, .bin .geq (.t 7) (.c (.d (.int .i64 0))), [], [], none, none⟩,
       ⟨some 4, .mv (.t 8), [], [], none, none⟩])
   (.ret))
def g_slices_ContainsFunc_Entry : AFn := { N := 9, res := [.slot 4], own := [], frz := [], code := g_slices_ContainsFunc_Entry.code }

/- paymaster/book.Live$1: function 30.  -/
def g_book_Live_1.code : ACode :=
  .seq (.region [1, 2] none none
     [⟨some 2, .box 2 22 (.t 0), [], [], none, none⟩,
      ⟨some 3, .mv (.c (.d (.bool false))), [], [], none, none⟩])
  (.seq (.region [3] none none
      [⟨some 4, .faddr 4 (.t 2), [], [], none, none⟩,
       ⟨some 5, .load none (.t 4), [], [], none, none⟩,
       ⟨some 6, .load none (.t 1), [], [], none, none⟩,
       ⟨some 7, .bin .add (.t 6) (.c (.d (.int .i64 1))), [], [], none, none⟩,
       ⟨some 8, .bin .eql (.t 5) (.t 7), [], [], none, none⟩,
       ⟨some 3, .mv (.t 8), [], [], none, none⟩])
   (.ret))
def g_book_Live_1 : AFn := { N := 9, res := [.slot 3], own := [], frz := [], code := g_book_Live_1.code }

/- paymaster/book.alive: function 18.  -/
def g_book_alive.c0 : ACode :=
  .region [1, 2, 5, 13, 14, 15] (some [2, 11]) none
    [⟨some 19, .mv (.t 5), [], [], none, none⟩,
     ⟨some 20, .faddr 4 (.t 7), [], [], none, none⟩,
     ⟨some 21, .load none (.t 20), [], [], none, none⟩,
     ⟨some 22, .mget false ((.int .i64 0)) (.t 19) (.t 21) false, [], [], none, none⟩,
     ⟨some 23, .bin .add (.t 22) (.c (.d (.int .i64 1))), [], [], none, none⟩,
     ⟨none, .mset false (.t 19) (.t 21) (.t 23), [], [], none, none⟩]
def g_book_alive.c1 : ACode :=
  .region [1, 2, 5, 13, 14, 15] (some [2, 11]) none
    [⟨some 24, .bin .add (.t 15) (.c (.d (.int .i64 1))), [], [], none, none⟩,
     ⟨some 15, .mv (.t 24), [], [], none, none⟩]
def g_book_alive.l0 : ACode :=
  .loop [1, 2, 5, 13, 14, 15] (some [2, 11]) (.seq (.region [1, 2, 5, 13, 14, 15, 16] (some [2, 11]) none
     [⟨some 16, .bin .lss (.t 15) (.t 14), [], [], none, none⟩])
  (.seq (.cond (.t 16) (.skip)
    (.exit 0))
   (.seq (.block 1 [1, 2, 5, 13, 14, 15] (some [2, 11]) (.seq (.region [1, 2, 5, 7, 13, 14, 15] (some [2, 7, 11]) none
         [⟨some 17, .iaddr 22 (.t 13) (.t 15), [], [], none, none⟩,
          ⟨some 18, .load (some 22) (.t 17), [], [], none, none⟩,
          ⟨some 7, .alloc 7 [.d (.int .i64 0), .d (.int .i64 0), .d (.int .i64 0), .d (.int .i64 0), .d (.int .i64 0), .cap0, .d (.int .i64 0), .d (.int .i64 0), .d (.int .i64 0), .d (.int .i64 0), .d (.int .i64 0), .d (.int .i64 0), .d (.int .i64 0), .d (.int .i64 0), .d (.int .i64 0), .d (.int .i64 0), .d (.int .i64 0), .d (.int .i64 0), .cap0, .cap0, .cap0, .cap0], [], [], none, none⟩,
          ⟨none, .store 22 (.t 7) (.t 18), [], [], none, none⟩])
      (g_book_alive.c0)))
    (g_book_alive.c1))))
def g_book_alive.c2 : ACode :=
  .block 0 [1, 2, 5] (some [2, 11]) (g_book_alive.l0)
def g_book_alive.o3 : List AOper :=
  [⟨some 48, .pick (.t 42) (.t 47) (.c (.d (.bool false))), [], [], none, none⟩]
def g_book_alive.o2 : List AOper :=
  (⟨some 43, .mv (.t 5), [], [], (some (9, 42, true)), none⟩ ::
     ⟨some 44, .mv (.t 9), [], [], (some (9, 42, true)), none⟩ ::
     ⟨some 45, .bin .add (.t 44) (.c (.d (.int .i64 1))), [], [], (some (9, 42, true)), none⟩ ::
     ⟨some 46, .mget false ((.int .i64 0)) (.t 43) (.t 45) false, [], [], (some (9, 42, true)), none⟩ ::
     ⟨some 47, .bin .eql (.t 46) (.c (.d (.int .i64 0))), [], [], (some (9, 42, true)), (some ([1, 5, 8, 10, 26, 27, 28, 42, 47], (some [10, 11, 52])))⟩ ::
     g_book_alive.o3)
def g_book_alive.o1 : List AOper :=
  (⟨some 41, .pick (.t 37) (.t 40) (.c (.d (.bool false))), [], [], none, none⟩ ::
     ⟨some 42, .mv (.t 41), [], [], none, (some ([1, 5, 8, 9, 10, 26, 27, 28, 42], (some [10, 11, 52])))⟩ ::
     g_book_alive.o2)
def g_book_alive.o0 : List AOper :=
  (⟨some 38, .faddr 4 (.t 10), [], [], (some (4, 37, true)), none⟩ ::
     ⟨some 39, .load none (.t 38), [], [], (some (4, 37, true)), none⟩ ::
     ⟨some 40, .bin .eql (.t 39) (.c (.d (.int .i64 0))), [], [], (some (4, 37, true)), (some ([1, 5, 8, 9, 10, 26, 27, 28, 37, 40], (some [10, 11, 52])))⟩ ::
     g_book_alive.o1)
def g_book_alive.c3 : ACode :=
  .cond (.t 48) (.region [1, 5, 8, 26, 27, 28] (some [11, 52]) none
     [⟨some 49, .mv (.t 8), [], [], none, none⟩,
      ⟨some 50, .load (some 22) (.t 10), [], [], none, none⟩,
      ⟨some 51, .bsl none 22 [] 1 [(0, (.t 50))], [], [], none, none⟩,
      ⟨some 52, .app (some 52) 22 256 (.t 49) (.t 51), [], [], none, none⟩,
      ⟨some 8, .mv (.t 52), [], [], none, none⟩])
  (.skip)
def g_book_alive.c4 : ACode :=
  .seq (.region [1, 5, 8, 10, 26, 27, 28, 48] (some [10, 11, 52]) none
     (⟨some 33, .faddr 2 (.t 10), [], [], none, none⟩ ::
      ⟨some 34, .load none (.t 33), [], [], none, none⟩ ::
      ⟨some 35, .mv (.t 1), [], [], none, none⟩ ::
      ⟨some 36, .bin .eql (.t 34) (.t 35), [], [], none, none⟩ ::
      ⟨some 37, .mv (.t 36), [], [], none, (some ([1, 5, 8, 9, 10, 26, 27, 28, 37], (some [10, 11, 52])))⟩ ::
      g_book_alive.o0))
  (g_book_alive.c3)
def g_book_alive.c5 : ACode :=
  .region [1, 5, 8, 26, 27, 28] (some [11, 52]) none
    [⟨some 53, .bin .add (.t 28) (.c (.d (.int .i64 1))), [], [], none, none⟩,
     ⟨some 28, .mv (.t 53), [], [], none, none⟩]
def g_book_alive.l1 : ACode :=
  .loop [1, 5, 8, 26, 27, 28] (some [11, 52]) (.seq (.region [1, 5, 8, 26, 27, 28, 29] (some [11, 52]) none
     [⟨some 29, .bin .lss (.t 28) (.t 27), [], [], none, none⟩])
  (.seq (.cond (.t 29) (.skip)
    (.exit 2))
   (.seq (.block 3 [1, 5, 8, 26, 27, 28] (some [11, 52]) (.seq (.region [1, 5, 8, 9, 10, 26, 27, 28] (some [10, 11, 52]) none
         [⟨some 30, .mv (.t 28), [], [], none, none⟩,
          ⟨some 31, .iaddr 22 (.t 26) (.t 28), [], [], none, none⟩,
          ⟨some 32, .load (some 22) (.t 31), [], [], none, none⟩,
          ⟨some 10, .alloc 10 [.d (.int .i64 0), .d (.int .i64 0), .d (.int .i64 0), .d (.int .i64 0), .d (.int .i64 0), .cap0, .d (.int .i64 0), .d (.int .i64 0), .d (.int .i64 0), .d (.int .i64 0), .d (.int .i64 0), .d (.int .i64 0), .d (.int .i64 0), .d (.int .i64 0), .d (.int .i64 0), .d (.int .i64 0), .d (.int .i64 0), .d (.int .i64 0), .cap0, .cap0, .cap0, .cap0], [], [], none, none⟩,
          ⟨some 9, .mv (.t 30), [], [], none, none⟩,
          ⟨none, .store 22 (.t 10) (.t 32), [], [], none, none⟩])
      (g_book_alive.c4)))
    (g_book_alive.c5))))
def g_book_alive.c6 : ACode :=
  .block 2 [8] (some [52]) (g_book_alive.l1)
def g_book_alive.c7 : ACode :=
  .seq (.region [4] (some [52]) none
     [⟨some 54, .mv (.t 8), [], [], none, none⟩,
      ⟨some 4, .mv (.t 54), [], [], none, none⟩])
  (.ret)
def g_book_alive.c8 : ACode :=
  .seq (.region [1, 2, 5, 8] (some [2, 11, 52]) none
     [⟨some 8, .mv (.c (.cap0)), [], [], none, none⟩])
  (.seq (.seq (.region [1, 5, 8, 26, 27, 28] (some [11, 52]) none
       [⟨some 25, .faddr 0 (.t 2), [], [], none, none⟩,
        ⟨some 26, .load none (.t 25), [], [], none, none⟩,
        ⟨some 27, .len (.t 26), [], [], none, none⟩,
        ⟨some 28, .mv (.c (.d (.int .i64 0))), [], [], none, none⟩])
    (g_book_alive.c6))
   (g_book_alive.c7))
def g_book_alive.code : ACode :=
  .seq (.region [1, 2] (some [2]) none
     [⟨some 2, .box 2 1 (.t 0), [], [], none, none⟩,
      ⟨some 4, .mv (.c (.cap0)), [], [], none, none⟩])
  (.seq (.region [1, 2, 5] (some [2, 11]) none
      [⟨some 11, .mkmap 11, [], [], none, none⟩,
       ⟨some 5, .mv (.t 11), [], [], none, none⟩])
   (.seq (.seq (.region [1, 2, 5, 13, 14, 15] (some [2, 11]) none
        [⟨some 12, .faddr 0 (.t 2), [], [], none, none⟩,
         ⟨some 13, .load none (.t 12), [], [], none, none⟩,
         ⟨some 14, .len (.t 13), [], [], none, none⟩,
         ⟨some 15, .mv (.c (.d (.int .i64 0))), [], [], none, none⟩])
     (g_book_alive.c2))
    (g_book_alive.c8)))
def g_book_alive : AFn := { N := 55, res := [.slot 4], own := [], frz := [4], code := g_book_alive.code }

/- paymaster/book.add: function 19. drawn region 4: first 5, left 6 -/
def g_book_add.c0 : ACode :=
  .region [0, 1, 6, 7] none none
    [⟨some 24, .bin .add (.t 7) (.c (.d (.int .i64 1))), [], [], none, none⟩,
     ⟨some 7, .mv (.t 24), [], [], none, none⟩]
def g_book_add.l0 : ACode :=
  .loop [0, 1, 6, 7] none (.seq (.region [0, 1, 6, 7, 8] none none
     [⟨some 8, .bin .lss (.t 7) (.t 6), [], [], none, none⟩])
  (.seq (.cond (.t 8) (.skip)
    (.exit 0))
   (.seq (.block 1 [0, 1, 6, 7] none (.seq (.region [0, 1, 4, 6, 7] none none
         [⟨some 9, .mv (.t 7), [], [], none, none⟩,
          ⟨some 4, .mv (.t 9), [], [], none, none⟩])
      (.seq (.region [0, 1, 4, 6, 7, 13] none none
          [⟨some 10, .mv (.t 4), [], [], none, none⟩,
           ⟨some 11, .mv (.t 1), [], [], none, none⟩,
           ⟨some 12, .len (.t 11), [], [], none, none⟩,
           ⟨some 13, .bin .lss (.t 10) (.t 12), [], [], none, none⟩])
       (.cond (.t 13) (.region [0, 1, 6, 7] none (some ([1, 4, 5, 6, 7], .one 0 (.one 2 (.one 3 (.one 8 (.one 9 (.one 10 (.done))))))))
           [⟨some 14, .mv (.t 0), [], [], none, none⟩,
            ⟨some 15, .mv (.t 4), [], [], none, none⟩,
            ⟨some 16, .iaddr 1 (.t 14) (.t 15), [], [0, 1], none, none⟩,
            ⟨some 17, .load none (.t 16), [], [2], none, none⟩,
            ⟨some 18, .mv (.t 1), [], [], none, none⟩,
            ⟨some 19, .mv (.t 4), [], [], none, none⟩,
            ⟨some 20, .iaddr 1 (.t 18) (.t 19), [], [4, 5], none, none⟩,
            ⟨some 21, .load none (.t 20), [], [6], none, none⟩,
            ⟨some 22, .bin .add (.t 17) (.t 21), [], [3, 7], none, none⟩,
            ⟨some 23, .iaddr 1 (.t 14) (.t 15), [], [0, 1, 0, 1, 2, 3, 4, 5, 6, 7, 8], none, none⟩,
            ⟨none, .store 1 (.t 23) (.t 22), [], [9, 8, 0, 1, 2, 3, 4, 5, 6, 7, 8], none, none⟩])
        (.skip)))))
    (g_book_add.c0))))
def g_book_add.code : ACode :=
  .seq (.region [0, 1, 6, 7] none none
     [⟨some 5, .mv (.t 0), [], [], none, none⟩,
      ⟨some 6, .len (.t 5), [], [], none, none⟩,
      ⟨some 7, .mv (.c (.d (.int .i64 0))), [], [], none, none⟩])
  (.block 0 [] none (g_book_add.l0))
def g_book_add : AFn := { N := 25, res := [], own := [], frz := [], code := g_book_add.code }

/- slices.IndexFunc[[]paymaster/book.Entry,paymaster/book.Entry]: function 16.  -/
def g_slices_IndexFunc_Entry.c0 : ACode :=
  .region [0, 1, 7, 8] none none
    [⟨some 18, .bin .add (.t 8) (.c (.d (.int .i64 1))), [], [], none, none⟩,
     ⟨some 8, .mv (.t 18), [], [], none, none⟩]
def g_slices_IndexFunc_Entry.l0 : ACode :=
  .loop [0, 1, 7, 8] none (.seq (.region [0, 1, 7, 8, 9] none none
     [⟨some 9, .bin .lss (.t 8) (.t 7), [], [], none, none⟩])
  (.seq (.cond (.t 9) (.skip)
    (.exit 0))
   (.seq (.block 1 [0, 1, 7, 8] none (.seq (.region [0, 1, 5, 7, 8] none none
         [⟨some 10, .mv (.t 8), [], [], none, none⟩,
          ⟨some 5, .mv (.t 10), [], [], none, none⟩])
      (.seq (.region [0, 1, 5, 7, 8, 16] none none
          [⟨some 11, .mv (.t 1), [], [], none, none⟩,
           ⟨some 12, .mv (.t 0), [], [], none, none⟩,
           ⟨some 13, .mv (.t 5), [], [], none, none⟩,
           ⟨some 14, .iaddr 22 (.t 12) (.t 13), [], [], none, none⟩,
           ⟨some 15, .load (some 22) (.t 14), [], [], none, none⟩,
           ⟨some 16, .callv (.t 11) [(.t 15)], [], [], none, none⟩])
       (.cond (.t 16) (.seq (.region [4] none none
            [⟨some 17, .mv (.t 5), [], [], none, none⟩,
             ⟨some 4, .mv (.t 17), [], [], none, none⟩])
         (.ret))
        (.skip)))))
    (g_slices_IndexFunc_Entry.c0))))
def g_slices_IndexFunc_Entry.c1 : ACode :=
  .seq (.region [4] none none
     [⟨some 4, .mv (.c (.d (.int .i64 (-1)))), [], [], none, none⟩])
  (.ret)
def g_slices_IndexFunc_Entry.code : ACode :=
  .seq (.region [0, 1] none none
     [⟨some 4, .mv (.c (.d (.int .i64 0))), [], [], none, none⟩])
  (.seq (.seq (.region [0, 1, 7, 8] none none
       [⟨some 6, .mv (.t 0), [], [], none, none⟩,
        ⟨some 7, .len (.t 6), [], [], none, none⟩,
        ⟨some 8, .mv (.c (.d (.int .i64 0))), [], [], none, none⟩])
    (.block 0 [] none (g_slices_IndexFunc_Entry.l0)))
   (g_slices_IndexFunc_Entry.c1))
def g_slices_IndexFunc_Entry : AFn := { N := 19, res := [.slot 4], own := [], frz := [], code := g_slices_IndexFunc_Entry.code }
end Pay
