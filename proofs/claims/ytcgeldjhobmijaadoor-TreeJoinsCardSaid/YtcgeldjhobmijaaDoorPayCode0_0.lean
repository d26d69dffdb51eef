/- The program's functions as abstract code. -/
import Derived.Test.YtcgeldjhobmijaaDoorPayBa1
set_option maxRecDepth 20000
namespace Pay
def g_law08_awake.o13 : List AOper :=
  [⟨some 62, .pick (.t 59) (.t 61) (.c (.d (.bool false))), [], [], none, none⟩,
     ⟨some 0, .mv (.t 62), [], [], none, none⟩]
def g_law08_awake.o12 : List AOper :=
  (⟨some 60, .mv (.t 6), [], [], (some (42, 59, true)), none⟩ ::
     ⟨some 61, .bin .eql (.t 60) (.c (.d (.int .i64 2))), [], [], (some (42, 59, true)), (some ([59, 61], (some [])))⟩ ::
     g_law08_awake.o13)
def g_law08_awake.o11 : List AOper :=
  (⟨some 58, .pick (.t 55) (.t 57) (.c (.d (.bool false))), [], [], none, none⟩ ::
     ⟨some 59, .mv (.t 58), [], [], none, (some ([6, 59], (some [])))⟩ ::
     g_law08_awake.o12)
def g_law08_awake.o10 : List AOper :=
  (⟨some 56, .mv (.t 5), [], [], (some (38, 55, true)), none⟩ ::
     ⟨some 57, .bin .eql (.t 56) (.c (.d (.int .i64 8))), [], [], (some (38, 55, true)), (some ([6, 55, 57], (some [])))⟩ ::
     g_law08_awake.o11)
def g_law08_awake.o9 : List AOper :=
  (⟨some 54, .pick (.t 51) (.t 53) (.c (.d (.bool false))), [], [], none, none⟩ ::
     ⟨some 55, .mv (.t 54), [], [], none, (some ([5, 6, 55], (some [])))⟩ ::
     g_law08_awake.o10)
def g_law08_awake.o8 : List AOper :=
  (⟨some 52, .mv (.t 3), [], [], (some (34, 51, true)), none⟩ ::
     ⟨some 53, .bin .eql (.t 52) (.c (.d (.int .i64 0))), [], [], (some (34, 51, true)), (some ([5, 6, 51, 53], (some [])))⟩ ::
     g_law08_awake.o9)
def g_law08_awake.o7 : List AOper :=
  (⟨some 50, .pick (.t 43) (.t 49) (.c (.d (.bool false))), [], [], none, none⟩ ::
     ⟨some 51, .mv (.t 50), [], [], none, (some ([3, 5, 6, 51], (some [])))⟩ ::
     g_law08_awake.o8)
def g_law08_awake.o6 : List AOper :=
  (⟨some 44, .faddr 0 (.t 1), [], [], (some (26, 43, true)), none⟩ ::
     ⟨some 45, .load none (.t 44), [], [], (some (26, 43, true)), none⟩ ::
     ⟨some 46, .iaddr 3 (.t 45) (.c (.d (.int .i64 0))), [], [], (some (26, 43, true)), none⟩ ::
     ⟨some 47, .faddr 2 (.t 46), [], [], (some (26, 43, true)), none⟩ ::
     ⟨some 48, .load none (.t 47), [], [], (some (26, 43, true)), none⟩ ::
     ⟨some 49, .bin .eql (.t 48) (.c (.d (.int .i64 4))), [], [], (some (26, 43, true)), (some ([3, 5, 6, 43, 49], (some [])))⟩ ::
     g_law08_awake.o7)
def g_law08_awake.o5 : List AOper :=
  (⟨some 42, .pick (.t 35) (.t 41) (.c (.d (.bool false))), [], [], none, none⟩ ::
     ⟨some 43, .mv (.t 42), [], [], none, (some ([1, 3, 5, 6, 43], (some [1])))⟩ ::
     g_law08_awake.o6)
def g_law08_awake.o4 : List AOper :=
  (⟨some 36, .faddr 1 (.t 1), [], [], (some (18, 35, true)), none⟩ ::
     ⟨some 37, .load none (.t 36), [], [], (some (18, 35, true)), none⟩ ::
     ⟨some 38, .iaddr 6 (.t 37) (.c (.d (.int .i64 4))), [], [], (some (18, 35, true)), none⟩ ::
     ⟨some 39, .faddr 4 (.t 38), [], [], (some (18, 35, true)), none⟩ ::
     ⟨some 40, .load none (.t 39), [], [], (some (18, 35, true)), none⟩ ::
     ⟨some 41, .bin .eql (.t 40) (.c (.d (.int .i64 3))), [], [], (some (18, 35, true)), (some ([1, 3, 5, 6, 35, 41], (some [1])))⟩ ::
     g_law08_awake.o5)
def g_law08_awake.o3 : List AOper :=
  (⟨some 34, .pick (.t 27) (.t 33) (.c (.d (.bool false))), [], [], none, none⟩ ::
     ⟨some 35, .mv (.t 34), [], [], none, (some ([1, 3, 5, 6, 35], (some [1])))⟩ ::
     g_law08_awake.o4)
def g_law08_awake.o2 : List AOper :=
  (⟨some 28, .faddr 1 (.t 1), [], [], (some (10, 27, true)), none⟩ ::
     ⟨some 29, .load none (.t 28), [], [], (some (10, 27, true)), none⟩ ::
     ⟨some 30, .iaddr 6 (.t 29) (.c (.d (.int .i64 4))), [], [], (some (10, 27, true)), none⟩ ::
     ⟨some 31, .faddr 0 (.t 30), [], [], (some (10, 27, true)), none⟩ ::
     ⟨some 32, .load none (.t 31), [], [], (some (10, 27, true)), none⟩ ::
     ⟨some 33, .bin .eql (.t 32) (.c (.d (.str [43]))), [], [], (some (10, 27, true)), (some ([1, 3, 5, 6, 27, 33], (some [1])))⟩ ::
     g_law08_awake.o3)
def g_law08_awake.o1 : List AOper :=
  (⟨some 26, .pick (.t 21) (.t 25) (.c (.d (.bool false))), [], [], none, none⟩ ::
     ⟨some 27, .mv (.t 26), [], [], none, (some ([1, 3, 5, 6, 27], (some [1])))⟩ ::
     g_law08_awake.o2)
def g_law08_awake.o0 : List AOper :=
  (⟨some 22, .faddr 1 (.t 1), [], [], (some (4, 21, true)), none⟩ ::
     ⟨some 23, .load none (.t 22), [], [], (some (4, 21, true)), none⟩ ::
     ⟨some 24, .len (.t 23), [], [], (some (4, 21, true)), none⟩ ::
     ⟨some 25, .bin .eql (.t 24) (.c (.d (.int .i64 5))), [], [], (some (4, 21, true)), (some ([1, 3, 5, 6, 21, 25], (some [1])))⟩ ::
     g_law08_awake.o1)
def g_law08_awake.c0 : ACode :=
  .ret
def g_law08_awake.c1 : ACode :=
  .seq (.region [0] (some []) none
     (⟨some 17, .faddr 0 (.t 1), [], [], none, none⟩ ::
      ⟨some 18, .load none (.t 17), [], [], none, none⟩ ::
      ⟨some 19, .len (.t 18), [], [], none, none⟩ ::
      ⟨some 20, .bin .eql (.t 19) (.c (.d (.int .i64 1))), [], [], none, none⟩ ::
      ⟨some 21, .mv (.t 20), [], [], none, (some ([1, 3, 5, 6, 21], (some [1])))⟩ ::
      g_law08_awake.o0))
  (g_law08_awake.c0)
def g_law08_awake.c2 : ACode :=
  .seq (.region [1, 3, 5, 6] (some [1]) none
     [⟨some 13, .call 144 [(.c (.d (.str [108, 101, 116, 32, 97, 32, 61, 32, 59])))], [], [], none, none⟩,
      ⟨some 12, .mv (.t 13), [], [], none, none⟩,
      ⟨some 14, .ext (.t 12) 0, [], [], none, none⟩,
      ⟨some 15, .ext (.t 12) 1, [], [], none, none⟩,
      ⟨some 16, .ext (.t 12) 2, [], [], none, none⟩,
      ⟨some 4, .alloc 4 [.cap0, .cap0], [], [], none, none⟩,
      ⟨none, .store 2 (.t 4) (.t 14), [], [], none, none⟩,
      ⟨some 5, .mv (.t 15), [], [], none, none⟩,
      ⟨some 6, .mv (.t 16), [], [], none, none⟩])
  (g_law08_awake.c1)
def g_law08_awake.code : ACode :=
  .seq (.region [] (some []) none
     [⟨some 0, .mv (.c (.d (.bool false))), [], [], none, none⟩])
  (.seq (.region [1, 3] (some [1]) none
      [⟨some 8, .call 144 [(.c (.d (.str [108, 101, 116, 32, 97, 32, 61, 32, 49, 32, 43, 32, 50, 32, 42, 32, 98, 59])))], [], [], none, none⟩,
       ⟨some 7, .mv (.t 8), [], [], none, none⟩,
       ⟨some 9, .ext (.t 7) 0, [], [], none, none⟩,
       ⟨some 10, .ext (.t 7) 1, [], [], none, none⟩,
       ⟨some 11, .ext (.t 7) 2, [], [], none, none⟩,
       ⟨some 1, .alloc 1 [.cap0, .cap0], [], [], none, none⟩,
       ⟨none, .store 2 (.t 1) (.t 9), [], [], none, none⟩,
       ⟨some 2, .mv (.t 10), [], [], none, none⟩,
       ⟨some 3, .mv (.t 11), [], [], none, none⟩])
   (g_law08_awake.c2))
def g_law08_awake : AFn := { N := 63, res := [.slot 0], own := [], frz := [], code := g_law08_awake.code }
def g_tree_Parse.o1 : List AOper :=
  [⟨some 38, .pick (.t 32) (.t 37) (.c (.d (.bool false))), [], [], none, none⟩]
def g_tree_Parse.o0 : List AOper :=
  (⟨some 33, .mv (.t 8), [], [], (some (7, 32, true)), none⟩ ::
     ⟨some 34, .nilc (.t 33), [], [], (some (7, 32, true)), none⟩ ::
     ⟨some 35, .faddr 5 (.t 34), [], [], (some (7, 32, true)), none⟩ ::
     ⟨some 36, .load none (.t 35), [], [], (some (7, 32, true)), none⟩ ::
     ⟨some 37, .bin .eql (.t 36) (.c (.d (.int .i64 0))), [], [], (some (7, 32, true)), (some ([2, 5, 8, 32, 37], none))⟩ ::
     g_tree_Parse.o1)
def g_tree_Parse.c0 : ACode :=
  .cond (.t 38) (.skip)
  (.exit 0)
def g_tree_Parse.c1 : ACode :=
  .block 1 [2, 5, 8] none (.region [2, 5, 8] none none
     [⟨some 39, .mv (.t 8), [], [], none, none⟩,
      ⟨some 40, .call 153 [(.t 39)], [], [], none, none⟩])
def g_tree_Parse.l0 : ACode :=
  .loop [2, 5, 8] none (.seq (.seq (.region [2, 5, 8, 38] none none
      (⟨some 25, .mv (.t 8), [], [], none, none⟩ ::
       ⟨some 26, .nilc (.t 25), [], [], none, none⟩ ::
       ⟨some 27, .faddr 2 (.t 26), [], [], none, none⟩ ::
       ⟨some 28, .load none (.t 27), [], [], none, none⟩ ::
       ⟨some 29, .mv (.t 5), [], [], none, none⟩ ::
       ⟨some 30, .len (.t 29), [], [], none, none⟩ ::
       ⟨some 31, .bin .lss (.t 28) (.t 30), [], [], none, none⟩ ::
       ⟨some 32, .mv (.t 31), [], [], none, (some ([2, 5, 8, 32], none))⟩ ::
       g_tree_Parse.o0))
   (g_tree_Parse.c0))
  (g_tree_Parse.c1))
def g_tree_Parse.c2 : ACode :=
  .seq (.region [2, 3, 4] none none
     [⟨some 55, .mv (.t 8), [], [], none, none⟩,
      ⟨some 56, .nilc (.t 55), [], [], none, none⟩,
      ⟨some 57, .faddr 3 (.t 56), [], [], none, none⟩,
      ⟨some 58, .load (some 2) (.t 57), [], [], none, none⟩,
      ⟨none, .store 2 (.t 2) (.t 58), [], [], none, none⟩,
      ⟨some 3, .mv (.c (.d (.int .i64 0))), [], [], none, none⟩,
      ⟨some 4, .mv (.c (.d (.int .i64 0))), [], [], none, none⟩])
  (.ret)
def g_tree_Parse.c3 : ACode :=
  .seq (.seq (.region [2, 8, 45] none none
      [⟨some 41, .mv (.t 8), [], [], none, none⟩,
       ⟨some 42, .nilc (.t 41), [], [], none, none⟩,
       ⟨some 43, .faddr 5 (.t 42), [], [], none, none⟩,
       ⟨some 44, .load none (.t 43), [], [], none, none⟩,
       ⟨some 45, .bin .neq (.t 44) (.c (.d (.int .i64 0))), [], [], none, none⟩])
   (.cond (.t 45) (.seq (.region [2, 3, 4] none (some ([0, 1, 2, 3, 1004, 5, 6, 7, 1008], .one 9 (.one 10 (.one 11 (.done)))))
        [⟨some 46, .build [.cap0, .cap0] [], [], [], none, none⟩,
         ⟨some 47, .mv (.t 8), [], [], none, none⟩,
         ⟨some 48, .nilc (.t 47), [], [1], none, none⟩,
         ⟨some 49, .faddr 6 (.t 48), [], [2], none, none⟩,
         ⟨some 50, .load none (.t 49), [], [3], none, none⟩,
         ⟨some 51, .mv (.t 8), [], [], none, none⟩,
         ⟨some 52, .nilc (.t 51), [], [5], none, none⟩,
         ⟨some 53, .faddr 5 (.t 52), [], [6], none, none⟩,
         ⟨some 54, .load none (.t 53), [], [7], none, none⟩,
         ⟨none, .store 2 (.t 2) (.t 46), [], [0, 0], none, none⟩,
         ⟨some 3, .mv (.t 50), [], [4, 9, 0, 1, 2, 3, 4, 9], none, none⟩,
         ⟨some 4, .mv (.t 54), [], [8, 10, 0, 1, 2, 3, 4, 5, 6, 7, 8, 9, 10], none, none⟩])
     (.ret))
    (.skip)))
  (g_tree_Parse.c2)
def g_tree_Parse.c4 : ACode :=
  .seq (.block 0 [2, 8] none (g_tree_Parse.l0))
  (g_tree_Parse.c3)
def g_tree_Parse.c5 : ACode :=
  .seq (.region [2, 5, 8] none none
     [⟨some 20, .mv (.t 5), [], [], none, none⟩,
      ⟨some 21, .mv (.t 0), [], [], none, none⟩,
      ⟨some 22, .lenS (.t 21), [], [], none, none⟩,
      ⟨some 23, .build [.cap0, .d (.int .i64 0), .d (.int .i64 0), .cap0, .cap0, .d (.int .i64 0), .d (.int .i64 0)] [(0, 1, (.t 20)), (1, 1, (.t 22))], [], [], none, none⟩,
      ⟨some 24, .box 24 7 (.t 23), [], [], none, none⟩,
      ⟨some 8, .mv (.t 24), [], [], none, none⟩])
  (g_tree_Parse.c4)
def g_tree_Parse.c6 : ACode :=
  .seq (.seq (.region [0, 2, 5, 6, 7, 16] none none
      [⟨some 15, .mv (.t 7), [], [], none, none⟩,
       ⟨some 16, .bin .neq (.t 15) (.c (.d (.int .i64 0))), [], [], none, none⟩])
   (.cond (.t 16) (.seq (.region [2, 3, 4] none none
        [⟨some 17, .build [.cap0, .cap0] [], [], [], none, none⟩,
         ⟨some 18, .mv (.t 6), [], [], none, none⟩,
         ⟨some 19, .mv (.t 7), [], [], none, none⟩,
         ⟨none, .store 2 (.t 2) (.t 17), [], [], none, none⟩,
         ⟨some 3, .mv (.t 18), [], [], none, none⟩,
         ⟨some 4, .mv (.t 19), [], [], none, none⟩])
     (.ret))
    (.skip)))
  (g_tree_Parse.c5)
def g_tree_Parse.code : ACode :=
  .seq (.region [0, 2] none none
     [⟨some 2, .alloc 2 [.cap0, .cap0], [], [], none, none⟩,
      ⟨some 3, .mv (.c (.d (.int .i64 0))), [], [], none, none⟩,
      ⟨some 4, .mv (.c (.d (.int .i64 0))), [], [], none, none⟩])
  (.seq (.region [0, 2, 5, 6, 7] none none
      [⟨some 10, .mv (.t 0), [], [], none, none⟩,
       ⟨some 11, .call 74 [(.t 10)], [], [], none, none⟩,
       ⟨some 9, .mv (.t 11), [], [], none, none⟩,
       ⟨some 12, .ext (.t 9) 0, [], [], none, none⟩,
       ⟨some 13, .ext (.t 9) 1, [], [], none, none⟩,
       ⟨some 14, .ext (.t 9) 2, [], [], none, none⟩,
       ⟨some 5, .mv (.t 12), [], [], none, none⟩,
       ⟨some 6, .mv (.t 13), [], [], none, none⟩,
       ⟨some 7, .mv (.t 14), [], [], none, none⟩])
   (g_tree_Parse.c6))
def g_tree_Parse : AFn := { N := 59, res := [.cell 2 (some 2), .slot 3, .slot 4], own := [], frz := [2], code := g_tree_Parse.code }
def g_lex_All.o1 : List AOper :=
  [⟨some 23, .pick (.t 18) (.c (.d (.bool true))) (.t 22), [], [], none, none⟩]
def g_lex_All.o0 : List AOper :=
  (⟨some 19, .mv (.t 0), [], [], (some (4, 18, false)), none⟩ ::
     ⟨some 20, .mv (.t 6), [], [], (some (4, 18, false)), none⟩ ::
     ⟨some 21, .idx (.t 19) (.t 20), [], [], (some (4, 18, false)), none⟩ ::
     ⟨some 22, .bin .eql (.t 21) (.c (.d (.int .u8 10))), [], [], (some (4, 18, false)), (some ([0, 5, 6, 18, 22], (some [55])))⟩ ::
     g_lex_All.o1)
def g_lex_All.c0 : ACode :=
  .cond (.t 23) (.seq (.region [0, 5, 6] (some [55]) none
      [⟨some 24, .mv (.t 6), [], [], none, none⟩,
       ⟨some 25, .bin .add (.t 24) (.c (.d (.int .i64 1))), [], [], none, none⟩,
       ⟨some 6, .mv (.t 25), [], [], none, none⟩])
   (.exit 1000000))
  (.skip)
def g_lex_All.c1 : ACode :=
  .seq (.region [0, 5, 6] (some [55]) none
     [⟨some 56, .mv (.t 6), [], [], none, none⟩,
      ⟨some 57, .mv (.t 8), [], [], none, none⟩,
      ⟨some 58, .bin .add (.t 56) (.t 57), [], [], none, none⟩,
      ⟨some 6, .mv (.t 58), [], [], none, none⟩])
  (.exit 1000000)
def g_lex_All.c2 : ACode :=
  .seq (.region [0, 5, 6, 8] (some [55]) none
     [⟨some 44, .mv (.t 5), [], [], none, none⟩,
      ⟨some 45, .mv (.t 7), [], [], none, none⟩,
      ⟨some 46, .mv (.t 0), [], [], none, none⟩,
      ⟨some 47, .mv (.t 6), [], [], none, none⟩,
      ⟨some 48, .mv (.t 6), [], [], none, none⟩,
      ⟨some 49, .mv (.t 8), [], [], none, none⟩,
      ⟨some 50, .bin .add (.t 48) (.t 49), [], [], none, none⟩,
      ⟨some 51, .slcS (.t 46) (some (.t 47)) (some (.t 50)), [], [], none, none⟩,
      ⟨some 52, .mv (.t 6), [], [], none, none⟩,
      ⟨some 53, .build [.d (.int .i64 0), .d (.str []), .d (.int .i64 0)] [(0, 1, (.t 45)), (1, 1, (.t 51)), (2, 1, (.t 52))], [], [], none, none⟩,
      ⟨some 54, .bsl none 3 [] 1 [(0, (.t 53))], [], [], none, none⟩,
      ⟨some 55, .app (some 55) 3 32 (.t 44) (.t 54), [], [], none, none⟩,
      ⟨some 5, .mv (.t 55), [], [], none, none⟩])
  (g_lex_All.c1)
def g_lex_All.c3 : ACode :=
  .seq (.seq (.region [0, 5, 6, 7, 8, 42] (some [55]) none
      [⟨some 41, .mv (.t 7), [], [], none, none⟩,
       ⟨some 42, .bin .eql (.t 41) (.c (.d (.int .i64 0))), [], [], none, none⟩])
   (.cond (.t 42) (.seq (.region [2, 3, 4] (some [55]) none
        [⟨some 43, .mv (.t 6), [], [], none, none⟩,
         ⟨some 2, .mv (.c (.cap0)), [], [], none, none⟩,
         ⟨some 3, .mv (.t 43), [], [], none, none⟩,
         ⟨some 4, .mv (.c (.d (.int .i64 2))), [], [], none, none⟩])
     (.ret))
    (.skip)))
  (g_lex_All.c2)
def g_lex_All.c4 : ACode :=
  .seq (.region [0, 5, 6, 7, 8] (some [55]) none
     [⟨some 36, .mv (.t 0), [], [], none, none⟩,
      ⟨some 37, .mv (.t 6), [], [], none, none⟩,
      ⟨some 38, .call 104 [(.t 36), (.t 37)], [], [], none, none⟩,
      ⟨some 35, .mv (.t 38), [], [], none, none⟩,
      ⟨some 39, .ext (.t 35) 0, [], [], none, none⟩,
      ⟨some 40, .ext (.t 35) 1, [], [], none, none⟩,
      ⟨some 7, .mv (.t 39), [], [], none, none⟩,
      ⟨some 8, .mv (.t 40), [], [], none, none⟩])
  (g_lex_All.c3)
def g_lex_All.c5 : ACode :=
  .seq (.seq (.region [0, 5, 6, 29] (some [55]) none
      [⟨some 26, .mv (.t 0), [], [], none, none⟩,
       ⟨some 27, .mv (.t 6), [], [], none, none⟩,
       ⟨some 28, .idx (.t 26) (.t 27), [], [], none, none⟩,
       ⟨some 29, .bin .eql (.t 28) (.c (.d (.int .u8 35))), [], [], none, none⟩])
   (.cond (.t 29) (.seq (.region [0, 5, 6] (some [55]) none
        [⟨some 30, .mv (.t 6), [], [], none, none⟩,
         ⟨some 31, .mv (.t 0), [], [], none, none⟩,
         ⟨some 32, .mv (.t 6), [], [], none, none⟩,
         ⟨some 33, .call 102 [(.t 31), (.t 32), (.f 103)], [], [], none, none⟩,
         ⟨some 34, .bin .add (.t 30) (.t 33), [], [], none, none⟩,
         ⟨some 6, .mv (.t 34), [], [], none, none⟩])
     (.exit 1000000))
    (.skip)))
  (g_lex_All.c4)
def g_lex_All.c6 : ACode :=
  .seq (.seq (.region [0, 5, 6, 23] (some [55]) none
      (⟨some 14, .mv (.t 0), [], [], none, none⟩ ::
       ⟨some 15, .mv (.t 6), [], [], none, none⟩ ::
       ⟨some 16, .idx (.t 14) (.t 15), [], [], none, none⟩ ::
       ⟨some 17, .bin .eql (.t 16) (.c (.d (.int .u8 32))), [], [], none, none⟩ ::
       ⟨some 18, .mv (.t 17), [], [], none, (some ([0, 5, 6, 18], (some [55])))⟩ ::
       g_lex_All.o0))
   (g_lex_All.c0))
  (g_lex_All.c5)
def g_lex_All.c7 : ACode :=
  .seq (.seq (.region [0, 5, 6, 12] (some [55]) none
      [⟨some 9, .mv (.t 6), [], [], none, none⟩,
       ⟨some 10, .mv (.t 0), [], [], none, none⟩,
       ⟨some 11, .lenS (.t 10), [], [], none, none⟩,
       ⟨some 12, .bin .geq (.t 9) (.t 11), [], [], none, none⟩])
   (.cond (.t 12) (.seq (.region [2, 3, 4] (some [55]) none
        [⟨some 13, .mv (.t 5), [], [], none, none⟩,
         ⟨some 2, .mv (.t 13), [], [], none, none⟩,
         ⟨some 3, .mv (.c (.d (.int .i64 0))), [], [], none, none⟩,
         ⟨some 4, .mv (.c (.d (.int .i64 0))), [], [], none, none⟩])
     (.ret))
    (.skip)))
  (g_lex_All.c6)
def g_lex_All.code : ACode :=
  .seq (.region [0] (some []) none
     [⟨some 2, .mv (.c (.cap0)), [], [], none, none⟩,
      ⟨some 3, .mv (.c (.d (.int .i64 0))), [], [], none, none⟩,
      ⟨some 4, .mv (.c (.d (.int .i64 0))), [], [], none, none⟩])
  (.scope 0 [0, 5, 6] (some [55]) (.seq (.region [0, 5] (some [55]) none
       [⟨some 5, .mv (.c (.cap0)), [], [], none, none⟩])
    (.seq (.region [0, 5, 6] (some [55]) none
        [⟨some 6, .mv (.c (.d (.int .i64 0))), [], [], none, none⟩,
         ⟨some 7, .mv (.c (.d (.int .i64 0))), [], [], none, none⟩,
         ⟨some 8, .mv (.c (.d (.int .i64 0))), [], [], none, none⟩])
     (.seq (.skip)
      (g_lex_All.c7))))
   (.seq .skip g_lex_All.c7))
def g_lex_All : AFn := { N := 59, res := [.slot 2, .slot 3, .slot 4], own := [], frz := [2], code := g_lex_All.code }
def g_ref08_Same.o1 : List AOper :=
  [⟨some 22, .pick (.t 14) (.c (.d (.bool true))) (.t 21), [], [], none, none⟩]
def g_ref08_Same.o0 : List AOper :=
  (⟨some 15, .faddr 1 (.t 2), [], [], (some (7, 14, false)), none⟩ ::
     ⟨some 16, .load none (.t 15), [], [], (some (7, 14, false)), none⟩ ::
     ⟨some 17, .len (.t 16), [], [], (some (7, 14, false)), none⟩ ::
     ⟨some 18, .faddr 1 (.t 3), [], [], (some (7, 14, false)), none⟩ ::
     ⟨some 19, .load none (.t 18), [], [], (some (7, 14, false)), none⟩ ::
     ⟨some 20, .len (.t 19), [], [], (some (7, 14, false)), none⟩ ::
     ⟨some 21, .bin .neq (.t 17) (.t 20), [], [], (some (7, 14, false)), (some ([2, 3, 14, 21], (some [2, 3])))⟩ ::
     g_ref08_Same.o1)
def g_ref08_Same.c0 : ACode :=
  .cond (.t 22) (.seq (.region [4] (some []) none
      [⟨some 4, .mv (.c (.d (.bool false))), [], [], none, none⟩])
   (.ret))
  (.skip)
def g_ref08_Same.c1 : ACode :=
  .region [2, 3, 5] (some [2, 3]) none
    [⟨some 28, .mv (.t 5), [], [], none, none⟩,
     ⟨some 29, .bin .add (.t 28) (.c (.d (.int .i64 1))), [], [], none, none⟩,
     ⟨some 5, .mv (.t 29), [], [], none, none⟩]
def g_ref08_Same.c2 : ACode :=
  .seq (.block 1 [2, 3, 5] (some [2, 3]) (.seq (.region [2, 3, 5, 40] (some [2, 3]) (some ([0, 1, 2, 3, 4, 5, 6, 7, 8, 9, 10], .done))
       [⟨some 30, .faddr 0 (.t 2), [], [], none, none⟩,
        ⟨some 31, .load none (.t 30), [], [0], none, none⟩,
        ⟨some 32, .mv (.t 5), [], [], none, none⟩,
        ⟨some 33, .iaddr 3 (.t 31) (.t 32), [], [1, 2], none, none⟩,
        ⟨some 34, .load (some 3) (.t 33), [], [3], none, none⟩,
        ⟨some 35, .faddr 0 (.t 3), [], [], none, none⟩,
        ⟨some 36, .load none (.t 35), [], [5], none, none⟩,
        ⟨some 37, .mv (.t 5), [], [], none, none⟩,
        ⟨some 38, .iaddr 3 (.t 36) (.t 37), [], [6, 7], none, none⟩,
        ⟨some 39, .load (some 3) (.t 38), [], [8], none, none⟩,
        ⟨some 40, .eqs true [2, 2, 0] (.t 34) (.t 39), [], [4, 9], none, none⟩])
    (.cond (.t 40) (.seq (.region [4] (some []) none
         [⟨some 4, .mv (.c (.d (.bool false))), [], [], none, none⟩])
      (.ret))
     (.skip))))
  (g_ref08_Same.c1)
def g_ref08_Same.l0 : ACode :=
  .loop [2, 3, 5] (some [2, 3]) (.seq (.seq (.region [2, 3, 5, 27] (some [2, 3]) none
      [⟨some 23, .mv (.t 5), [], [], none, none⟩,
       ⟨some 24, .faddr 0 (.t 2), [], [], none, none⟩,
       ⟨some 25, .load none (.t 24), [], [], none, none⟩,
       ⟨some 26, .len (.t 25), [], [], none, none⟩,
       ⟨some 27, .bin .lss (.t 23) (.t 26), [], [], none, none⟩])
   (.cond (.t 27) (.skip)
    (.exit 0)))
  (g_ref08_Same.c2))
def g_ref08_Same.c3 : ACode :=
  .region [2, 3, 6] (some [2, 3]) none
    [⟨some 46, .mv (.t 6), [], [], none, none⟩,
     ⟨some 47, .bin .add (.t 46) (.c (.d (.int .i64 1))), [], [], none, none⟩,
     ⟨some 6, .mv (.t 47), [], [], none, none⟩]
def g_ref08_Same.c4 : ACode :=
  .seq (.block 3 [2, 3, 6] (some [2, 3]) (.seq (.region [2, 3, 6, 58] (some [2, 3]) (some ([0, 1, 2, 3, 4, 5, 6, 7, 8, 9, 10], .done))
       [⟨some 48, .faddr 1 (.t 2), [], [], none, none⟩,
        ⟨some 49, .load none (.t 48), [], [0], none, none⟩,
        ⟨some 50, .mv (.t 6), [], [], none, none⟩,
        ⟨some 51, .iaddr 6 (.t 49) (.t 50), [], [1, 2], none, none⟩,
        ⟨some 52, .load (some 6) (.t 51), [], [3], none, none⟩,
        ⟨some 53, .faddr 1 (.t 3), [], [], none, none⟩,
        ⟨some 54, .load none (.t 53), [], [5], none, none⟩,
        ⟨some 55, .mv (.t 6), [], [], none, none⟩,
        ⟨some 56, .iaddr 6 (.t 54) (.t 55), [], [6, 7], none, none⟩,
        ⟨some 57, .load (some 6) (.t 56), [], [8], none, none⟩,
        ⟨some 58, .eqs true [2, 2, 0, 0, 0, 0] (.t 52) (.t 57), [], [4, 9], none, none⟩])
    (.cond (.t 58) (.seq (.region [4] (some []) none
         [⟨some 4, .mv (.c (.d (.bool false))), [], [], none, none⟩])
      (.ret))
     (.skip))))
  (g_ref08_Same.c3)
def g_ref08_Same.l1 : ACode :=
  .loop [2, 3, 6] (some [2, 3]) (.seq (.seq (.region [2, 3, 6, 45] (some [2, 3]) none
      [⟨some 41, .mv (.t 6), [], [], none, none⟩,
       ⟨some 42, .faddr 1 (.t 2), [], [], none, none⟩,
       ⟨some 43, .load none (.t 42), [], [], none, none⟩,
       ⟨some 44, .len (.t 43), [], [], none, none⟩,
       ⟨some 45, .bin .lss (.t 41) (.t 44), [], [], none, none⟩])
   (.cond (.t 45) (.skip)
    (.exit 2)))
  (g_ref08_Same.c4))
def g_ref08_Same.c5 : ACode :=
  .seq (.region [4] (some []) none
     [⟨some 4, .mv (.c (.d (.bool true))), [], [], none, none⟩])
  (.ret)
def g_ref08_Same.c6 : ACode :=
  .seq (.seq (.region [2, 3, 6] (some [2, 3]) none
      [⟨some 6, .mv (.c (.d (.int .i64 0))), [], [], none, none⟩])
   (.block 2 [] (some []) (g_ref08_Same.l1)))
  (g_ref08_Same.c5)
def g_ref08_Same.c7 : ACode :=
  .seq (.seq (.region [2, 3, 5] (some [2, 3]) none
      [⟨some 5, .mv (.c (.d (.int .i64 0))), [], [], none, none⟩])
   (.block 0 [2, 3] (some [2, 3]) (g_ref08_Same.l0)))
  (g_ref08_Same.c6)
def g_ref08_Same.code : ACode :=
  .seq (.region [2, 3] (some [2, 3]) none
     [⟨some 2, .box 2 2 (.t 0), [], [], none, none⟩,
      ⟨some 3, .box 3 2 (.t 1), [], [], none, none⟩,
      ⟨some 4, .mv (.c (.d (.bool false))), [], [], none, none⟩])
  (.seq (.seq (.region [2, 3, 22] (some [2, 3]) none
       (⟨some 7, .faddr 0 (.t 2), [], [], none, none⟩ ::
        ⟨some 8, .load none (.t 7), [], [], none, none⟩ ::
        ⟨some 9, .len (.t 8), [], [], none, none⟩ ::
        ⟨some 10, .faddr 0 (.t 3), [], [], none, none⟩ ::
        ⟨some 11, .load none (.t 10), [], [], none, none⟩ ::
        ⟨some 12, .len (.t 11), [], [], none, none⟩ ::
        ⟨some 13, .bin .neq (.t 9) (.t 12), [], [], none, none⟩ ::
        ⟨some 14, .mv (.t 13), [], [], none, (some ([2, 3, 14], (some [2, 3])))⟩ ::
        g_ref08_Same.o0))
    (g_ref08_Same.c0))
   (g_ref08_Same.c7))
def g_ref08_Same : AFn := { N := 59, res := [.slot 4], own := [], frz := [], code := g_ref08_Same.code }
def g_law08_ref.c0 : ACode :=
  .region [1, 2, 3, 9, 10, 11] (some [1, 2, 3, 19, 33]) none
    [⟨some 15, .faddr 0 (.t 3), [], [], none, none⟩,
     ⟨some 16, .load none (.t 15), [], [], none, none⟩,
     ⟨some 17, .load (some 3) (.t 5), [], [], none, none⟩,
     ⟨some 18, .bsl none 3 [] 1 [(0, (.t 17))], [], [], none, none⟩,
     ⟨some 19, .app (some 19) 3 40 (.t 16) (.t 18), [], [], none, none⟩,
     ⟨some 20, .faddr 0 (.t 3), [], [], none, none⟩,
     ⟨none, .store 1 (.t 20) (.t 19), [], [], none, none⟩]
def g_law08_ref.c1 : ACode :=
  .region [1, 2, 3, 9, 10, 11] (some [1, 2, 3, 19, 33]) none
    [⟨some 21, .bin .add (.t 11) (.c (.d (.int .i64 1))), [], [], none, none⟩,
     ⟨some 11, .mv (.t 21), [], [], none, none⟩]
def g_law08_ref.l0 : ACode :=
  .loop [1, 2, 3, 9, 10, 11] (some [1, 2, 3, 19, 33]) (.seq (.region [1, 2, 3, 9, 10, 11, 12] (some [1, 2, 3, 19, 33]) none
     [⟨some 12, .bin .lss (.t 11) (.t 10), [], [], none, none⟩])
  (.seq (.cond (.t 12) (.skip)
    (.exit 0))
   (.seq (.block 1 [1, 2, 3, 9, 10, 11] (some [1, 2, 3, 19, 33]) (.seq (.region [1, 2, 3, 5, 9, 10, 11] (some [1, 2, 3, 5, 19, 33]) none
         [⟨some 13, .iaddr 3 (.t 9) (.t 11), [], [], none, none⟩,
          ⟨some 14, .load (some 3) (.t 13), [], [], none, none⟩,
          ⟨some 5, .alloc 5 [.d (.str []), .d (.str []), .d (.int .i64 0)], [], [], none, none⟩,
          ⟨none, .store 3 (.t 5) (.t 14), [], [], none, none⟩])
      (g_law08_ref.c0)))
    (g_law08_ref.c1))))
def g_law08_ref.c2 : ACode :=
  .block 0 [1, 2, 3] (some [1, 2, 3, 19, 33]) (g_law08_ref.l0)
def g_law08_ref.c3 : ACode :=
  .region [2, 3, 23, 24, 25] (some [2, 3, 19, 33]) none
    [⟨some 29, .faddr 1 (.t 3), [], [], none, none⟩,
     ⟨some 30, .load none (.t 29), [], [], none, none⟩,
     ⟨some 31, .load (some 6) (.t 7), [], [], none, none⟩,
     ⟨some 32, .bsl none 6 [] 1 [(0, (.t 31))], [], [], none, none⟩,
     ⟨some 33, .app (some 33) 6 64 (.t 30) (.t 32), [], [], none, none⟩,
     ⟨some 34, .faddr 1 (.t 3), [], [], none, none⟩,
     ⟨none, .store 1 (.t 34) (.t 33), [], [], none, none⟩]
def g_law08_ref.c4 : ACode :=
  .region [2, 3, 23, 24, 25] (some [2, 3, 19, 33]) none
    [⟨some 35, .bin .add (.t 25) (.c (.d (.int .i64 1))), [], [], none, none⟩,
     ⟨some 25, .mv (.t 35), [], [], none, none⟩]
def g_law08_ref.l1 : ACode :=
  .loop [2, 3, 23, 24, 25] (some [2, 3, 19, 33]) (.seq (.region [2, 3, 23, 24, 25, 26] (some [2, 3, 19, 33]) none
     [⟨some 26, .bin .lss (.t 25) (.t 24), [], [], none, none⟩])
  (.seq (.cond (.t 26) (.skip)
    (.exit 2))
   (.seq (.block 3 [2, 3, 23, 24, 25] (some [2, 3, 19, 33]) (.seq (.region [2, 3, 7, 23, 24, 25] (some [2, 3, 7, 19, 33]) none
         [⟨some 27, .iaddr 6 (.t 23) (.t 25), [], [], none, none⟩,
          ⟨some 28, .load (some 6) (.t 27), [], [], none, none⟩,
          ⟨some 7, .alloc 7 [.d (.str []), .d (.str []), .d (.int .i64 0), .d (.int .i64 0), .d (.int .i64 0), .d (.int .i64 0)], [], [], none, none⟩,
          ⟨none, .store 6 (.t 7) (.t 28), [], [], none, none⟩])
      (g_law08_ref.c3)))
    (g_law08_ref.c4))))
def g_law08_ref.c5 : ACode :=
  .block 2 [2, 3] (some [2, 3, 19, 33]) (g_law08_ref.l1)
def g_law08_ref.c6 : ACode :=
  .seq (.region [2] (some [2, 19, 33]) none
     [⟨some 36, .load (some 2) (.t 3), [], [], none, none⟩,
      ⟨none, .store 2 (.t 2) (.t 36), [], [], none, none⟩])
  (.ret)
def g_law08_ref.c7 : ACode :=
  .seq (.seq (.region [2, 3, 23, 24, 25] (some [2, 3, 19, 33]) none
      [⟨some 22, .faddr 1 (.t 1), [], [], none, none⟩,
       ⟨some 23, .load none (.t 22), [], [], none, none⟩,
       ⟨some 24, .len (.t 23), [], [], none, none⟩,
       ⟨some 25, .mv (.c (.d (.int .i64 0))), [], [], none, none⟩])
   (g_law08_ref.c5))
  (g_law08_ref.c6)
def g_law08_ref.code : ACode :=
  .seq (.region [1, 2] (some [1, 2, 19, 33]) none
     [⟨some 1, .box 1 2 (.t 0), [], [], none, none⟩,
      ⟨some 2, .alloc 2 [.cap0, .cap0], [], [], none, none⟩])
  (.seq (.region [1, 2, 3] (some [1, 2, 3, 19, 33]) none
      [⟨some 3, .alloc 3 [.cap0, .cap0], [], [], none, none⟩])
   (.seq (.seq (.region [1, 2, 3, 9, 10, 11] (some [1, 2, 3, 19, 33]) none
        [⟨some 8, .faddr 0 (.t 1), [], [], none, none⟩,
         ⟨some 9, .load none (.t 8), [], [], none, none⟩,
         ⟨some 10, .len (.t 9), [], [], none, none⟩,
         ⟨some 11, .mv (.c (.d (.int .i64 0))), [], [], none, none⟩])
     (g_law08_ref.c2))
    (g_law08_ref.c7)))
def g_law08_ref : AFn := { N := 37, res := [.cell 2 (some 2)], own := [], frz := [2], code := g_law08_ref.code }
def g_ref08_Taken.code : ACode :=
  .seq (.region [0] (some []) none
     [⟨some 2, .mv (.c (.d (.bool false))), [], [], none, none⟩])
  (.seq (.region [2] (some []) none
      [⟨some 3, .mv (.t 0), [], [], none, none⟩,
       ⟨some 4, .bsl none 1 [] 9 [(0, (.c (.d (.str [101, 97, 114, 110])))), (1, (.c (.d (.str [112, 114, 101, 116, 97, 120])))), (2, (.c (.d (.str [112, 111, 115, 116])))), (3, (.c (.d (.str [108, 101, 116])))), (4, (.c (.d (.str [105, 102])))), (5, (.c (.d (.str [116, 104, 101, 110])))), (6, (.c (.d (.str [101, 108, 115, 101])))), (7, (.c (.d (.str [109, 105, 110])))), (8, (.c (.d (.str [109, 97, 120]))))], [], [], none, none⟩,
       ⟨some 5, .call 154 [(.t 3), (.t 4)], [], [], none, none⟩,
       ⟨some 2, .mv (.t 5), [], [], none, none⟩])
   (.ret))
def g_ref08_Taken : AFn := { N := 6, res := [.slot 2], own := [], frz := [], code := g_ref08_Taken.code }
def g_tree_parser_rule.a0 : List AOper :=
  [⟨some 9, .mv (.t 0), [], [], none, none⟩,
     ⟨some 10, .nilc (.t 9), [], [0], none, none⟩,
     ⟨some 11, .faddr 3 (.t 10), [], [1], none, none⟩,
     ⟨some 12, .faddr 0 (.t 11), [], [2], none, none⟩,
     ⟨some 13, .load none (.t 12), [], [3], none, none⟩,
     ⟨some 14, .len (.t 13), [], [4], none, none⟩,
     ⟨some 15, .bin .geq (.t 14) (.c (.d (.int .i64 60))), [], [5], none, none⟩,
     ⟨some 16, .mv (.t 15), [], [6], none, none⟩,
     ⟨some 17, .faddr 0 (.t 2), [], [7], (some (7, 16, true)), none⟩,
     ⟨some 18, .load none (.t 17), [], [8, 7], (some (7, 16, true)), none⟩,
     ⟨some 19, .bin .eql (.t 18) (.c (.d (.int .i64 1))), [], [9, 7], (some (7, 16, true)), none⟩,
     ⟨some 20, .pick (.t 16) (.t 19) (.c (.d (.bool false))), [], [7, 10], none, none⟩,
     ⟨some 21, .mv (.t 20), [], [11, 7], none, none⟩,
     ⟨some 22, .call 157 [], [], [12, 12], (some (12, 21, true)), none⟩,
     ⟨some 23, .faddr 1 (.t 2), [], [12], (some (12, 21, true)), none⟩,
     ⟨some 24, .load none (.t 23), [], [14, 12], (some (12, 21, true)), none⟩,
     ⟨some 25, .call 155 [(.t 22), (.t 24)], [], [13, 15, 13, 12], (some (12, 21, true)), none⟩,
     ⟨some 26, .pick (.t 21) (.t 25) (.c (.d (.bool false))), [], [12, 16], none, none⟩]
def g_tree_parser_rule.t4 : Tr := .one 17 .done
def g_tree_parser_rule.t5 : Tr := .one 16 g_tree_parser_rule.t4
def g_tree_parser_rule.t6 : Tr := .one 15 g_tree_parser_rule.t5
def g_tree_parser_rule.t7 : Tr := .one 14 g_tree_parser_rule.t6
def g_tree_parser_rule.t8 : Tr := .one 13 g_tree_parser_rule.t5
def g_tree_parser_rule.t9 : Tr := .one 15 g_tree_parser_rule.t8
def g_tree_parser_rule.t10 : Tr := .two 13 g_tree_parser_rule.t6 g_tree_parser_rule.t9
def g_tree_parser_rule.t11 : Tr := .one 14 g_tree_parser_rule.t10
def g_tree_parser_rule.t12 : Tr := .two 13 g_tree_parser_rule.t7 g_tree_parser_rule.t11
def g_tree_parser_rule.t13 : Tr := .one 12 g_tree_parser_rule.t12
def g_tree_parser_rule.t14 : Tr := .one 11 g_tree_parser_rule.t13
def g_tree_parser_rule.t15 : Tr := .one 10 g_tree_parser_rule.t14
def g_tree_parser_rule.t16 : Tr := .one 9 g_tree_parser_rule.t15
def g_tree_parser_rule.t17 : Tr := .one 8 g_tree_parser_rule.t16
def g_tree_parser_rule.t18 : Tr := .one 7 g_tree_parser_rule.t17
def g_tree_parser_rule.t19 : Tr := .one 6 g_tree_parser_rule.t18
def g_tree_parser_rule.t20 : Tr := .one 5 g_tree_parser_rule.t19
def g_tree_parser_rule.t21 : Tr := .one 4 g_tree_parser_rule.t20
def g_tree_parser_rule.i3 : List Nat := 3 :: []
def g_tree_parser_rule.i2 : List Nat := 2 :: g_tree_parser_rule.i3
def g_tree_parser_rule.i1 : List Nat := 1 :: g_tree_parser_rule.i2
def g_tree_parser_rule.c0 : ACode :=
  .cond (.t 26) (.seq (.region [] none none
      [⟨some 27, .mv (.t 0), [], [], none, none⟩,
       ⟨some 28, .call 218 [(.t 27), (.c (.d (.int .i64 9)))], [], [], none, none⟩])
   (.ret))
  (.skip)
def g_tree_parser_rule.o23 : List AOper :=
  [⟨some 49, .pick (.t 44) (.c (.d (.bool true))) (.t 48), [], [], none, none⟩]
def g_tree_parser_rule.o22 : List AOper :=
  (⟨some 45, .faddr 1 (.t 5), [], [], (some (3, 44, false)), none⟩ ::
     ⟨some 46, .load none (.t 45), [], [], (some (3, 44, false)), none⟩ ::
     ⟨some 47, .call 158 [(.t 46)], [], [], (some (3, 44, false)), none⟩ ::
     ⟨some 48, .un .not (.t 47), [], [], (some (3, 44, false)), (some ([0, 3, 5, 44, 48], none))⟩ ::
     g_tree_parser_rule.o23)
def g_tree_parser_rule.c1 : ACode :=
  .cond (.t 49) (.seq (.region [] none none
      [⟨some 50, .mv (.t 0), [], [], none, none⟩,
       ⟨some 51, .call 218 [(.t 50), (.c (.d (.int .i64 2)))], [], [], none, none⟩])
   (.ret))
  (.skip)
def g_tree_parser_rule.a24 : List AOper :=
  [⟨some 65, .mv (.t 0), [], [], none, none⟩,
     ⟨some 66, .mv (.t 0), [], [], none, none⟩,
     ⟨some 67, .nilc (.t 66), [], [1], none, none⟩,
     ⟨some 68, .faddr 3 (.t 67), [], [2], none, none⟩,
     ⟨some 69, .faddr 0 (.t 68), [], [3], none, none⟩,
     ⟨some 70, .load none (.t 69), [], [4], none, none⟩,
     ⟨some 71, .mv (.t 3), [], [], none, none⟩,
     ⟨some 72, .faddr 1 (.t 5), [], [], none, none⟩,
     ⟨some 73, .load none (.t 72), [], [7], none, none⟩,
     ⟨some 74, .mv (.t 6), [], [], none, none⟩,
     ⟨some 75, .build [.d (.str []), .d (.str []), .d (.int .i64 0)] [(0, 1, (.t 71)), (1, 1, (.t 73)), (2, 1, (.t 74))], [], [6, 8, 9], none, none⟩,
     ⟨some 76, .bsl none 3 [] 1 [(0, (.t 75))], [], [10], none, none⟩,
     ⟨some 77, .app (some 77) 3 40 (.t 70) (.t 76), [], [5, 11], none, (some ([], none))⟩,
     ⟨some 78, .nilc (.t 65), [], [0, 0, 1, 2, 3, 4, 5, 6, 7, 8, 9, 10, 11, 12], none, none⟩,
     ⟨some 79, .faddr 3 (.t 78), [], [13, 0, 1, 2, 3, 4, 5, 6, 7, 8, 9, 10, 11, 12], none, none⟩,
     ⟨some 80, .faddr 0 (.t 79), [], [14, 0, 1, 2, 3, 4, 5, 6, 7, 8, 9, 10, 11, 12], none, none⟩,
     ⟨none, .store 1 (.t 80) (.t 77), [], [15, 12, 12, 0, 1, 2, 3, 4, 5, 6, 7, 8, 9, 10, 11, 12], none, none⟩]
def g_tree_parser_rule.t32 : Tr := .one 16 .done
def g_tree_parser_rule.t33 : Tr := .one 15 g_tree_parser_rule.t32
def g_tree_parser_rule.t34 : Tr := .one 14 g_tree_parser_rule.t33
def g_tree_parser_rule.t35 : Tr := .one 13 g_tree_parser_rule.t34
def g_tree_parser_rule.t36 : Tr := .one 12 g_tree_parser_rule.t35
def g_tree_parser_rule.t37 : Tr := .one 11 g_tree_parser_rule.t36
def g_tree_parser_rule.t38 : Tr := .one 10 g_tree_parser_rule.t37
def g_tree_parser_rule.t39 : Tr := .one 8 g_tree_parser_rule.t38
def g_tree_parser_rule.t40 : Tr := .one 5 g_tree_parser_rule.t36
def g_tree_parser_rule.t41 : Tr := .one 11 g_tree_parser_rule.t40
def g_tree_parser_rule.t42 : Tr := .two 5 g_tree_parser_rule.t37 g_tree_parser_rule.t41
def g_tree_parser_rule.t43 : Tr := .one 10 g_tree_parser_rule.t42
def g_tree_parser_rule.t44 : Tr := .two 5 g_tree_parser_rule.t38 g_tree_parser_rule.t43
def g_tree_parser_rule.t45 : Tr := .one 8 g_tree_parser_rule.t44
def g_tree_parser_rule.t46 : Tr := .two 5 g_tree_parser_rule.t39 g_tree_parser_rule.t45
def g_tree_parser_rule.i31 : List Nat := 9 :: []
def g_tree_parser_rule.i30 : List Nat := 7 :: g_tree_parser_rule.i31
def g_tree_parser_rule.i29 : List Nat := 6 :: g_tree_parser_rule.i30
def g_tree_parser_rule.i28 : List Nat := 4 :: g_tree_parser_rule.i29
def g_tree_parser_rule.i27 : List Nat := 3 :: g_tree_parser_rule.i28
def g_tree_parser_rule.i26 : List Nat := 2 :: g_tree_parser_rule.i27
def g_tree_parser_rule.i25 : List Nat := 1 :: g_tree_parser_rule.i26
def g_tree_parser_rule.c2 : ACode :=
  .seq (.region [0, 3, 5] none none
     [⟨some 59, .mv (.t 0), [], [], none, none⟩,
      ⟨some 60, .call 220 [(.t 59), (.c (.d (.str [61])))], [], [], none, none⟩])
  (.seq (.region [0, 3, 5, 6] none none
      [⟨some 61, .mv (.t 0), [], [], none, none⟩,
       ⟨some 62, .call 221 [(.t 61), (.c (.d (.int .i64 1)))], [], [], none, none⟩,
       ⟨some 6, .mv (.t 62), [], [], none, none⟩])
   (.seq (.region [0, 3, 5, 6] none none
       [⟨some 63, .mv (.t 0), [], [], none, none⟩,
        ⟨some 64, .call 220 [(.t 63), (.c (.d (.str [59])))], [], [], none, none⟩])
    (.region [] none (some (0 :: g_tree_parser_rule.i25, g_tree_parser_rule.t46)) g_tree_parser_rule.a24)))
def g_tree_parser_rule.c3 : ACode :=
  .seq (.region [0, 3, 5] none none
     [⟨some 52, .mv (.t 0), [], [], none, none⟩,
      ⟨some 53, .nilc (.t 52), [], [], none, none⟩,
      ⟨some 54, .faddr 2 (.t 53), [], [], none, none⟩,
      ⟨some 55, .load none (.t 54), [], [], none, none⟩,
      ⟨some 56, .bin .add (.t 55) (.c (.d (.int .i64 1))), [], [], none, none⟩,
      ⟨some 57, .nilc (.t 52), [], [], none, none⟩,
      ⟨some 58, .faddr 2 (.t 57), [], [], none, none⟩,
      ⟨none, .store 1 (.t 58) (.t 56), [], [], none, none⟩])
  (g_tree_parser_rule.c2)
def g_tree_parser_rule.c4 : ACode :=
  .seq (.seq (.region [0, 3, 5, 49] none none
      (⟨some 41, .faddr 0 (.t 5), [], [], none, none⟩ ::
       ⟨some 42, .load none (.t 41), [], [], none, none⟩ ::
       ⟨some 43, .bin .neq (.t 42) (.c (.d (.int .i64 1))), [], [], none, none⟩ ::
       ⟨some 44, .mv (.t 43), [], [], none, (some ([0, 3, 5, 44], none))⟩ ::
       g_tree_parser_rule.o22))
   (g_tree_parser_rule.c1))
  (g_tree_parser_rule.c3)
def g_tree_parser_rule.c5 : ACode :=
  .seq (.region [0, 3, 5] none none
     [⟨some 39, .mv (.t 0), [], [], none, none⟩,
      ⟨some 40, .call 217 [(.t 39)], [], [], none, none⟩,
      ⟨some 5, .alloc 5 [.d (.int .i64 0), .d (.str []), .d (.int .i64 0)], [], [], none, none⟩,
      ⟨none, .store 3 (.t 5) (.t 40), [], [], none, none⟩])
  (g_tree_parser_rule.c4)
def g_tree_parser_rule.c6 : ACode :=
  .seq (.seq (.region [0, 3, 36] none none
      [⟨some 35, .mv (.t 4), [], [], none, none⟩,
       ⟨some 36, .un .not (.t 35), [], [], none, none⟩])
   (.cond (.t 36) (.seq (.region [] none none
        [⟨some 37, .mv (.t 0), [], [], none, none⟩,
         ⟨some 38, .call 218 [(.t 37), (.c (.d (.int .i64 2)))], [], [], none, none⟩])
     (.ret))
    (.skip)))
  (g_tree_parser_rule.c5)
def g_tree_parser_rule.c7 : ACode :=
  .seq (.region [0, 3, 4] none none
     [⟨some 30, .mv (.t 0), [], [], none, none⟩,
      ⟨some 31, .call 157 [], [], [], none, none⟩,
      ⟨some 32, .call 219 [(.t 30), (.t 31)], [], [], none, none⟩,
      ⟨some 29, .mv (.t 32), [], [], none, none⟩,
      ⟨some 33, .ext (.t 29) 0, [], [], none, none⟩,
      ⟨some 34, .ext (.t 29) 1, [], [], none, none⟩,
      ⟨some 3, .mv (.t 33), [], [], none, none⟩,
      ⟨some 4, .mv (.t 34), [], [], none, none⟩])
  (g_tree_parser_rule.c6)
def g_tree_parser_rule.c8 : ACode :=
  .seq (.seq (.region [0, 26] none (some (0 :: g_tree_parser_rule.i1, g_tree_parser_rule.t21)) g_tree_parser_rule.a0)
   (g_tree_parser_rule.c0))
  (g_tree_parser_rule.c7)
def g_tree_parser_rule.code : ACode :=
  .seq (.region [0, 2] none none
     [⟨some 7, .mv (.t 0), [], [], none, none⟩,
      ⟨some 8, .call 217 [(.t 7)], [], [], none, none⟩,
      ⟨some 2, .alloc 2 [.d (.int .i64 0), .d (.str []), .d (.int .i64 0)], [], [], none, none⟩,
      ⟨none, .store 3 (.t 2) (.t 8), [], [], none, none⟩])
  (g_tree_parser_rule.c8)
def g_tree_parser_rule : AFn := { N := 81, res := [], own := [], frz := [], code := g_tree_parser_rule.code }
def g_lex_run.o1 : List AOper :=
  [⟨some 19, .pick (.t 13) (.t 18) (.c (.d (.bool false))), [], [], none, none⟩]
def g_lex_run.o0 : List AOper :=
  (⟨some 14, .mv (.t 2), [], [], (some (4, 13, true)), none⟩ ::
     ⟨some 15, .mv (.t 0), [], [], (some (4, 13, true)), none⟩ ::
     ⟨some 16, .mv (.t 7), [], [], (some (4, 13, true)), none⟩ ::
     ⟨some 17, .idx (.t 15) (.t 16), [], [], (some (4, 13, true)), none⟩ ::
     ⟨some 18, .callv (.t 14) [(.t 17)], [], [], (some (4, 13, true)), (some ([0, 1, 2, 7, 13, 18], none))⟩ ::
     g_lex_run.o1)
def g_lex_run.c0 : ACode :=
  .cond (.t 19) (.skip)
  (.exit 0)
def g_lex_run.c1 : ACode :=
  .block 1 [0, 1, 2, 7] none (.region [0, 1, 2, 7] none none
     [⟨some 20, .mv (.t 7), [], [], none, none⟩,
      ⟨some 21, .bin .add (.t 20) (.c (.d (.int .i64 1))), [], [], none, none⟩,
      ⟨some 7, .mv (.t 21), [], [], none, none⟩])
def g_lex_run.l0 : ACode :=
  .loop [0, 1, 2, 7] none (.seq (.seq (.region [0, 1, 2, 7, 19] none none
      (⟨some 9, .mv (.t 7), [], [], none, none⟩ ::
       ⟨some 10, .mv (.t 0), [], [], none, none⟩ ::
       ⟨some 11, .lenS (.t 10), [], [], none, none⟩ ::
       ⟨some 12, .bin .lss (.t 9) (.t 11), [], [], none, none⟩ ::
       ⟨some 13, .mv (.t 12), [], [], none, (some ([0, 1, 2, 7, 13], none))⟩ ::
       g_lex_run.o0))
   (g_lex_run.c0))
  (g_lex_run.c1))
def g_lex_run.c2 : ACode :=
  .seq (.region [6] none none
     [⟨some 22, .mv (.t 7), [], [], none, none⟩,
      ⟨some 23, .mv (.t 1), [], [], none, none⟩,
      ⟨some 24, .bin .sub (.t 22) (.t 23), [], [], none, none⟩,
      ⟨some 6, .mv (.t 24), [], [], none, none⟩])
  (.ret)
def g_lex_run.code : ACode :=
  .seq (.region [0, 1, 2] none none
     [⟨some 6, .mv (.c (.d (.int .i64 0))), [], [], none, none⟩])
  (.seq (.region [0, 1, 2, 7] none none
      [⟨some 8, .mv (.t 1), [], [], none, none⟩,
       ⟨some 7, .mv (.t 8), [], [], none, none⟩])
   (.seq (.block 0 [1, 7] none (g_lex_run.l0))
    (g_lex_run.c2)))
def g_lex_run : AFn := { N := 25, res := [.slot 6], own := [], frz := [], code := g_lex_run.code }
def g_lex_All_1.code : ACode :=
  .seq (.region [0] (some []) none
     [⟨some 2, .mv (.c (.d (.bool false))), [], [], none, none⟩])
  (.seq (.region [2] (some []) none
      [⟨some 3, .mv (.t 0), [], [], none, none⟩,
       ⟨some 4, .bin .neq (.t 3) (.c (.d (.int .u8 10))), [], [], none, none⟩,
       ⟨some 2, .mv (.t 4), [], [], none, none⟩])
   (.ret))
def g_lex_All_1 : AFn := { N := 5, res := [.slot 2], own := [], frz := [], code := g_lex_All_1.code }
def g_lex_one.c0 : ACode :=
  .seq (.region [4, 5] (some []) none
     [⟨some 21, .mv (.t 7), [], [], none, none⟩,
      ⟨some 4, .mv (.c (.d (.int .i64 1))), [], [], none, none⟩,
      ⟨some 5, .mv (.t 21), [], [], none, none⟩])
  (.ret)
def g_lex_one.c1 : ACode :=
  .seq (.seq (.region [7, 20] (some []) none
      [⟨some 19, .mv (.t 7), [], [], none, none⟩,
       ⟨some 20, .bin .gtr (.t 19) (.c (.d (.int .i64 12))), [], [], none, none⟩])
   (.cond (.t 20) (.seq (.region [4, 5] (some []) none
        [⟨some 4, .mv (.c (.d (.int .i64 0))), [], [], none, none⟩,
         ⟨some 5, .mv (.c (.d (.int .i64 0))), [], [], none, none⟩])
     (.ret))
    (.skip)))
  (g_lex_one.c0)
def g_lex_one.c2 : ACode :=
  .seq (.region [4, 5] (some []) none
     [⟨some 28, .mv (.t 0), [], [], none, none⟩,
      ⟨some 29, .mv (.t 1), [], [], none, none⟩,
      ⟨some 30, .mv (.t 1), [], [], none, none⟩,
      ⟨some 31, .mv (.t 8), [], [], none, none⟩,
      ⟨some 32, .bin .add (.t 30) (.t 31), [], [], none, none⟩,
      ⟨some 33, .slcS (.t 28) (some (.t 29)) (some (.t 32)), [], [], none, none⟩,
      ⟨some 34, .call 109 [(.t 33)], [], [], none, none⟩,
      ⟨some 35, .mv (.t 8), [], [], none, none⟩,
      ⟨some 4, .mv (.t 34), [], [], none, none⟩,
      ⟨some 5, .mv (.t 35), [], [], none, none⟩])
  (.ret)
def g_lex_one.c3 : ACode :=
  .block 0 [0, 1] (some []) (.seq (.region [0, 1, 6, 13] (some []) none
      [⟨some 14, .mv (.t 6), [], [], none, none⟩,
       ⟨some 15, .call 105 [(.t 14)], [], [], none, none⟩,
       ⟨some 13, .mv (.t 15), [], [], none, none⟩])
   (.cond (.t 13) (.seq (.region [7] (some []) none
        [⟨some 16, .mv (.t 0), [], [], none, none⟩,
         ⟨some 17, .mv (.t 1), [], [], none, none⟩,
         ⟨some 18, .call 102 [(.t 16), (.t 17), (.f 106)], [], [], none, none⟩,
         ⟨some 7, .mv (.t 18), [], [], none, none⟩])
     (g_lex_one.c1))
    (.seq (.region [0, 1, 22] (some []) none
        [⟨some 23, .mv (.t 6), [], [], none, none⟩,
         ⟨some 24, .call 107 [(.t 23)], [], [], none, none⟩,
         ⟨some 22, .mv (.t 24), [], [], none, none⟩])
     (.cond (.t 22) (.seq (.region [0, 1, 8] (some []) none
          [⟨some 25, .mv (.t 0), [], [], none, none⟩,
           ⟨some 26, .mv (.t 1), [], [], none, none⟩,
           ⟨some 27, .call 102 [(.t 25), (.t 26), (.f 108)], [], [], none, none⟩,
           ⟨some 8, .mv (.t 27), [], [], none, none⟩])
       (g_lex_one.c2))
      (.skip)))))
def g_lex_one.c4 : ACode :=
  .seq (.region [4, 5] (some []) none
     [⟨some 42, .mv (.t 9), [], [], none, none⟩,
      ⟨some 4, .mv (.c (.d (.int .i64 5))), [], [], none, none⟩,
      ⟨some 5, .mv (.t 42), [], [], none, none⟩])
  (.ret)
def g_lex_one.c5 : ACode :=
  .seq (.seq (.region [9, 41] (some []) none
      [⟨some 40, .mv (.t 9), [], [], none, none⟩,
       ⟨some 41, .bin .eql (.t 40) (.c (.d (.int .i64 0))), [], [], none, none⟩])
   (.cond (.t 41) (.seq (.region [4, 5] (some []) none
        [⟨some 4, .mv (.c (.d (.int .i64 0))), [], [], none, none⟩,
         ⟨some 5, .mv (.c (.d (.int .i64 0))), [], [], none, none⟩])
     (.ret))
    (.skip)))
  (g_lex_one.c4)
def g_lex_one.c6 : ACode :=
  .seq (.region [9] (some []) none
     [⟨some 36, .mv (.t 0), [], [], none, none⟩,
      ⟨some 37, .mv (.t 1), [], [], none, none⟩,
      ⟨some 38, .slcS (.t 36) (some (.t 37)) none, [], [], none, none⟩,
      ⟨some 39, .call 110 [(.t 38)], [], [], none, none⟩,
      ⟨some 9, .mv (.t 39), [], [], none, none⟩])
  (g_lex_one.c5)
def g_lex_one.code : ACode :=
  .seq (.region [0, 1] (some []) none
     [⟨some 4, .mv (.c (.d (.int .i64 0))), [], [], none, none⟩,
      ⟨some 5, .mv (.c (.d (.int .i64 0))), [], [], none, none⟩])
  (.seq (.seq (.region [0, 1, 6] (some []) none
       [⟨some 10, .mv (.t 0), [], [], none, none⟩,
        ⟨some 11, .mv (.t 1), [], [], none, none⟩,
        ⟨some 12, .idx (.t 10) (.t 11), [], [], none, none⟩,
        ⟨some 6, .mv (.t 12), [], [], none, none⟩])
    (g_lex_one.c3))
   (g_lex_one.c6))
def g_lex_one : AFn := { N := 43, res := [.slot 4, .slot 5], own := [], frz := [], code := g_lex_one.code }
def g_ref08_one.c0 : ACode :=
  .region [0, 1, 5] (some []) none
    [⟨some 10, .mv (.t 5), [], [], none, none⟩,
     ⟨some 11, .bin .add (.t 10) (.c (.d (.int .i64 1))), [], [], none, none⟩,
     ⟨some 5, .mv (.t 11), [], [], none, none⟩]
def g_ref08_one.c1 : ACode :=
  .seq (.block 1 [0, 1, 5] (some []) (.seq (.region [0, 1, 5, 17] (some []) none
       [⟨some 12, .mv (.t 1), [], [], none, none⟩,
        ⟨some 13, .mv (.t 5), [], [], none, none⟩,
        ⟨some 14, .iaddr 1 (.t 12) (.t 13), [], [], none, none⟩,
        ⟨some 15, .load none (.t 14), [], [], none, none⟩,
        ⟨some 16, .mv (.t 0), [], [], none, none⟩,
        ⟨some 17, .bin .eql (.t 15) (.t 16), [], [], none, none⟩])
    (.cond (.t 17) (.seq (.region [4] (some []) none
         [⟨some 4, .mv (.c (.d (.bool true))), [], [], none, none⟩])
      (.ret))
     (.skip))))
  (g_ref08_one.c0)
def g_ref08_one.l0 : ACode :=
  .loop [0, 1, 5] (some []) (.seq (.seq (.region [0, 1, 5, 9] (some []) none
      [⟨some 6, .mv (.t 5), [], [], none, none⟩,
       ⟨some 7, .mv (.t 1), [], [], none, none⟩,
       ⟨some 8, .len (.t 7), [], [], none, none⟩,
       ⟨some 9, .bin .lss (.t 6) (.t 8), [], [], none, none⟩])
   (.cond (.t 9) (.skip)
    (.exit 0)))
  (g_ref08_one.c1))
def g_ref08_one.c2 : ACode :=
  .seq (.region [4] (some []) none
     [⟨some 4, .mv (.c (.d (.bool false))), [], [], none, none⟩])
  (.ret)
def g_ref08_one.code : ACode :=
  .seq (.region [0, 1] (some []) none
     [⟨some 4, .mv (.c (.d (.bool false))), [], [], none, none⟩])
  (.seq (.seq (.region [0, 1, 5] (some []) none
       [⟨some 5, .mv (.c (.d (.int .i64 0))), [], [], none, none⟩])
    (.block 0 [] (some []) (g_ref08_one.l0)))
   (g_ref08_one.c2))
def g_ref08_one : AFn := { N := 18, res := [.slot 4], own := [], frz := [], code := g_ref08_one.code }
def g_tree_parser_token.c0 : ACode :=
  .seq (.region [2] none none
     [⟨some 23, .mv (.t 0), [], [], none, none⟩,
      ⟨some 24, .nilc (.t 23), [], [], none, none⟩,
      ⟨some 25, .faddr 1 (.t 24), [], [], none, none⟩,
      ⟨some 26, .load none (.t 25), [], [], none, none⟩,
      ⟨some 27, .build [.d (.int .i64 0), .d (.str []), .d (.int .i64 0)] [(2, 1, (.t 26))], [], [], none, none⟩,
      ⟨none, .store 3 (.t 2) (.t 27), [], [], none, none⟩])
  (.ret)
def g_tree_parser_token.code : ACode :=
  .seq (.region [0, 2] none none
     [⟨some 2, .alloc 2 [.d (.int .i64 0), .d (.str []), .d (.int .i64 0)], [], [], none, none⟩])
  (.seq (.seq (.region [0, 2, 12] none (some ([0, 1, 2, 3, 4, 5, 6, 7, 8, 9], .done))
       [⟨some 3, .mv (.t 0), [], [], none, none⟩,
        ⟨some 4, .nilc (.t 3), [], [0], none, none⟩,
        ⟨some 5, .faddr 2 (.t 4), [], [1], none, none⟩,
        ⟨some 6, .load none (.t 5), [], [2], none, none⟩,
        ⟨some 7, .mv (.t 0), [], [], none, none⟩,
        ⟨some 8, .nilc (.t 7), [], [4], none, none⟩,
        ⟨some 9, .faddr 0 (.t 8), [], [5], none, none⟩,
        ⟨some 10, .load none (.t 9), [], [6], none, none⟩,
        ⟨some 11, .len (.t 10), [], [7], none, none⟩,
        ⟨some 12, .bin .lss (.t 6) (.t 11), [], [3, 8], none, none⟩])
    (.cond (.t 12) (.seq (.region [2] none (some ([0, 1, 2, 3, 4, 5, 6, 7, 8, 9], .one 10 (.done)))
         [⟨some 13, .mv (.t 0), [], [], none, none⟩,
          ⟨some 14, .nilc (.t 13), [], [0], none, none⟩,
          ⟨some 15, .faddr 0 (.t 14), [], [1], none, none⟩,
          ⟨some 16, .load none (.t 15), [], [2], none, none⟩,
          ⟨some 17, .mv (.t 0), [], [], none, none⟩,
          ⟨some 18, .nilc (.t 17), [], [4], none, none⟩,
          ⟨some 19, .faddr 2 (.t 18), [], [5], none, none⟩,
          ⟨some 20, .load none (.t 19), [], [6], none, none⟩,
          ⟨some 21, .iaddr 3 (.t 16) (.t 20), [], [3, 7], none, none⟩,
          ⟨some 22, .load (some 3) (.t 21), [], [8], none, none⟩,
          ⟨none, .store 3 (.t 2) (.t 22), [], [9, 0, 1, 2, 3, 4, 5, 6, 7, 8, 9], none, none⟩])
      (.ret))
     (.skip)))
   (g_tree_parser_token.c0))
def g_tree_parser_token : AFn := { N := 28, res := [.cell 2 (some 3)], own := [], frz := [2], code := g_tree_parser_token.code }
def g_slices_Contains_string.code : ACode :=
  .seq (.region [0, 1] (some []) none
     [⟨some 4, .mv (.c (.d (.bool false))), [], [], none, none⟩])
  (.seq (.region [4] (some []) none
      [⟨some 5, .mv (.t 0), [], [], none, none⟩,
       ⟨some 6, .mv (.t 1), [], [], none, none⟩,
       ⟨some 7, .call 156 [(.t 5), (.t 6)], [], [], none, none⟩,
       ⟨some 8, .bin .geq (.t 7) (.c (.d (.int .i64 0))), [], [], none, none⟩,
       ⟨some 4, .mv (.t 8), [], [], none, none⟩])
   (.ret))
def g_slices_Contains_string : AFn := { N := 9, res := [.slot 4], own := [], frz := [], code := g_slices_Contains_string.code }
def g_tree_kinds.code : ACode :=
  .seq (.region [] (some []) none
     [⟨some 0, .mv (.c (.cap0)), [], [], none, none⟩])
  (.seq (.region [0] (some [1]) none
      [⟨some 1, .bsl (some 1) 1 [] 4 [(0, (.c (.d (.str [101, 97, 114, 110])))), (1, (.c (.d (.str [112, 114, 101, 116, 97, 120])))), (2, (.c (.d (.str [112, 111, 115, 116])))), (3, (.c (.d (.str [108, 101, 116]))))], [], [], none, none⟩,
       ⟨some 0, .mv (.t 1), [], [], none, none⟩])
   (.ret))
def g_tree_kinds : AFn := { N := 2, res := [.slot 0], own := [(0, 1, 1)], frz := [], code := g_tree_kinds.code }
def g_tree_parser_fail.code : ACode :=
  .seq (.region [0, 1, 8] none none
     [⟨some 4, .mv (.t 0), [], [], none, none⟩,
      ⟨some 5, .nilc (.t 4), [], [], none, none⟩,
      ⟨some 6, .faddr 5 (.t 5), [], [], none, none⟩,
      ⟨some 7, .load none (.t 6), [], [], none, none⟩,
      ⟨some 8, .bin .eql (.t 7) (.c (.d (.int .i64 0))), [], [], none, none⟩])
  (.cond (.t 8) (.region [] none none
      [⟨some 9, .mv (.t 0), [], [], none, none⟩,
       ⟨some 10, .mv (.t 0), [], [], none, none⟩,
       ⟨some 11, .mv (.t 1), [], [], none, none⟩,
       ⟨some 12, .mv (.t 0), [], [], none, none⟩,
       ⟨some 13, .call 217 [(.t 12)], [], [], none, none⟩,
       ⟨some 14, .fld 2 none (.t 13), [], [], none, none⟩,
       ⟨some 15, .nilc (.t 9), [], [], none, none⟩,
       ⟨some 16, .faddr 5 (.t 15), [], [], none, none⟩,
       ⟨none, .store 1 (.t 16) (.t 11), [], [], none, none⟩,
       ⟨some 17, .nilc (.t 10), [], [], none, none⟩,
       ⟨some 18, .faddr 6 (.t 17), [], [], none, none⟩,
       ⟨none, .store 1 (.t 18) (.t 14), [], [], none, none⟩])
   (.skip))
def g_tree_parser_fail : AFn := { N := 19, res := [], own := [], frz := [], code := g_tree_parser_fail.code }
def g_tree_parser_take.o5 : List AOper :=
  [⟨some 30, .pick (.t 24) (.c (.d (.bool true))) (.t 29), [], [], none, none⟩]
def g_tree_parser_take.o4 : List AOper :=
  (⟨some 25, .mv (.t 1), [], [], (some (15, 24, false)), none⟩ ::
     ⟨some 26, .faddr 1 (.t 6), [], [], (some (15, 24, false)), none⟩ ::
     ⟨some 27, .load none (.t 26), [], [], (some (15, 24, false)), none⟩ ::
     ⟨some 28, .call 155 [(.t 25), (.t 27)], [], [], (some (15, 24, false)), none⟩ ::
     ⟨some 29, .un .not (.t 28), [], [], (some (15, 24, false)), (some ([0, 6, 24, 29], none))⟩ ::
     g_tree_parser_take.o5)
def g_tree_parser_take.o3 : List AOper :=
  (⟨some 23, .pick (.t 14) (.c (.d (.bool true))) (.t 22), [], [], none, none⟩ ::
     ⟨some 24, .mv (.t 23), [], [], none, (some ([0, 1, 6, 24], none))⟩ ::
     g_tree_parser_take.o4)
def g_tree_parser_take.o2 : List AOper :=
  (⟨some 22, .pick (.t 18) (.t 21) (.c (.d (.bool false))), [], [], (some (5, 14, false)), (some ([0, 1, 6, 14, 22], none))⟩ ::
     g_tree_parser_take.o3)
def g_tree_parser_take.o1 : List AOper :=
  (⟨some 19, .faddr 0 (.t 6), [], [], (some (9, 18, true)), none⟩ ::
     ⟨some 20, .load none (.t 19), [], [], (some (9, 18, true)), none⟩ ::
     ⟨some 21, .bin .neq (.t 20) (.c (.d (.int .i64 5))), [], [], (some (9, 18, true)), (some ([0, 1, 6, 14, 18, 21], none))⟩ ::
     g_tree_parser_take.o2)
def g_tree_parser_take.o0 : List AOper :=
  (⟨some 15, .faddr 0 (.t 6), [], [], (some (5, 14, false)), none⟩ ::
     ⟨some 16, .load none (.t 15), [], [], (some (5, 14, false)), none⟩ ::
     ⟨some 17, .bin .neq (.t 16) (.c (.d (.int .i64 1))), [], [], (some (5, 14, false)), none⟩ ::
     ⟨some 18, .mv (.t 17), [], [], (some (5, 14, false)), (some ([0, 1, 6, 14, 18], none))⟩ ::
     g_tree_parser_take.o1)
def g_tree_parser_take.c0 : ACode :=
  .cond (.t 30) (.seq (.region [4, 5] none none
      [⟨some 4, .mv (.c (.d (.str []))), [], [], none, none⟩,
       ⟨some 5, .mv (.c (.d (.bool false))), [], [], none, none⟩])
   (.ret))
  (.skip)
def g_tree_parser_take.c1 : ACode :=
  .seq (.region [4, 5] none none
     [⟨some 38, .faddr 1 (.t 6), [], [], none, none⟩,
      ⟨some 39, .load none (.t 38), [], [], none, none⟩,
      ⟨some 4, .mv (.t 39), [], [], none, none⟩,
      ⟨some 5, .mv (.c (.d (.bool true))), [], [], none, none⟩])
  (.ret)
def g_tree_parser_take.c2 : ACode :=
  .seq (.region [6] none none
     [⟨some 31, .mv (.t 0), [], [], none, none⟩,
      ⟨some 32, .nilc (.t 31), [], [], none, none⟩,
      ⟨some 33, .faddr 2 (.t 32), [], [], none, none⟩,
      ⟨some 34, .load none (.t 33), [], [], none, none⟩,
      ⟨some 35, .bin .add (.t 34) (.c (.d (.int .i64 1))), [], [], none, none⟩,
      ⟨some 36, .nilc (.t 31), [], [], none, none⟩,
      ⟨some 37, .faddr 2 (.t 36), [], [], none, none⟩,
      ⟨none, .store 1 (.t 37) (.t 35), [], [], none, none⟩])
  (g_tree_parser_take.c1)
def g_tree_parser_take.c3 : ACode :=
  .seq (.seq (.region [0, 6, 30] none none
      (⟨some 9, .mv (.t 0), [], [], none, none⟩ ::
       ⟨some 10, .nilc (.t 9), [], [], none, none⟩ ::
       ⟨some 11, .faddr 5 (.t 10), [], [], none, none⟩ ::
       ⟨some 12, .load none (.t 11), [], [], none, none⟩ ::
       ⟨some 13, .bin .neq (.t 12) (.c (.d (.int .i64 0))), [], [], none, none⟩ ::
       ⟨some 14, .mv (.t 13), [], [], none, (some ([0, 1, 6, 14], none))⟩ ::
       g_tree_parser_take.o0))
   (g_tree_parser_take.c0))
  (g_tree_parser_take.c2)
def g_tree_parser_take.code : ACode :=
  .seq (.region [0, 1] none none
     [⟨some 4, .mv (.c (.d (.str []))), [], [], none, none⟩,
      ⟨some 5, .mv (.c (.d (.bool false))), [], [], none, none⟩])
  (.seq (.region [0, 1, 6] none none
      [⟨some 7, .mv (.t 0), [], [], none, none⟩,
       ⟨some 8, .call 217 [(.t 7)], [], [], none, none⟩,
       ⟨some 6, .alloc 6 [.d (.int .i64 0), .d (.str []), .d (.int .i64 0)], [], [], none, none⟩,
       ⟨none, .store 3 (.t 6) (.t 8), [], [], none, none⟩])
   (g_tree_parser_take.c3))
def g_tree_parser_take : AFn := { N := 40, res := [.slot 4, .slot 5], own := [], frz := [], code := g_tree_parser_take.code }
def g_tree_named.code : ACode :=
  .seq (.region [0] (some []) none
     [⟨some 2, .mv (.c (.d (.bool false))), [], [], none, none⟩])
  (.seq (.region [2] (some []) none
      [⟨some 3, .call 157 [], [], [], none, none⟩,
       ⟨some 4, .bsl none 1 [] 5 [(0, (.c (.d (.str [105, 102])))), (1, (.c (.d (.str [116, 104, 101, 110])))), (2, (.c (.d (.str [101, 108, 115, 101])))), (3, (.c (.d (.str [109, 105, 110])))), (4, (.c (.d (.str [109, 97, 120]))))], [], [], none, none⟩,
       ⟨some 5, .app none 1 16 (.t 3) (.t 4), [], [], none, none⟩,
       ⟨some 6, .mv (.t 0), [], [], none, none⟩,
       ⟨some 7, .call 155 [(.t 5), (.t 6)], [], [], none, none⟩,
       ⟨some 8, .un .not (.t 7), [], [], none, none⟩,
       ⟨some 2, .mv (.t 8), [], [], none, none⟩])
   (.ret))
def g_tree_named : AFn := { N := 9, res := [.slot 2], own := [], frz := [], code := g_tree_named.code }
def g_tree_parser_need.c0 : ACode :=
  .seq (.region [0, 14] none none
     [⟨some 13, .mv (.t 5), [], [], none, none⟩,
      ⟨some 14, .un .not (.t 13), [], [], none, none⟩])
  (.cond (.t 14) (.region [] none none
      [⟨some 15, .mv (.t 0), [], [], none, none⟩,
       ⟨some 16, .call 218 [(.t 15), (.c (.d (.int .i64 2)))], [], [], none, none⟩])
   (.skip))
def g_tree_parser_need.code : ACode :=
  .seq (.region [0, 5] none none
     [⟨some 7, .mv (.t 0), [], [], none, none⟩,
      ⟨some 8, .mv (.t 1), [], [], none, none⟩,
      ⟨some 9, .bsl none 1 [] 1 [(0, (.t 8))], [], [], none, none⟩,
      ⟨some 10, .call 219 [(.t 7), (.t 9)], [], [], none, none⟩,
      ⟨some 6, .mv (.t 10), [], [], none, none⟩,
      ⟨some 11, .ext (.t 6) 0, [], [], none, none⟩,
      ⟨some 12, .ext (.t 6) 1, [], [], none, none⟩,
      ⟨some 4, .mv (.t 11), [], [], none, none⟩,
      ⟨some 5, .mv (.t 12), [], [], none, none⟩])
  (g_tree_parser_need.c0)
def g_tree_parser_need : AFn := { N := 17, res := [], own := [], frz := [], code := g_tree_parser_need.code }
def g_tree_parser_expression.c0 : ACode :=
  .seq (.region [4] none none
     [⟨some 46, .mv (.t 0), [], [], none, none⟩,
      ⟨some 47, .mv (.t 7), [], [], none, none⟩,
      ⟨some 48, .mv (.t 8), [], [], none, none⟩,
      ⟨some 49, .mv (.t 9), [], [], none, none⟩,
      ⟨some 50, .build [.d (.str []), .d (.str []), .d (.int .i64 0), .d (.int .i64 0), .d (.int .i64 0), .d (.int .i64 0)] [(0, 1, (.c (.d (.str [105, 102])))), (3, 1, (.t 47)), (4, 1, (.t 48)), (5, 1, (.t 49))], [], [], none, none⟩,
      ⟨some 51, .call 222 [(.t 46), (.t 50)], [], [], none, none⟩,
      ⟨some 4, .mv (.t 51), [], [], none, none⟩])
  (.ret)
def g_tree_parser_expression.c1 : ACode :=
  .seq (.region [0, 1, 7, 8] none none
     [⟨some 40, .mv (.t 0), [], [], none, none⟩,
      ⟨some 41, .call 220 [(.t 40), (.c (.d (.str [101, 108, 115, 101])))], [], [], none, none⟩])
  (.seq (.region [0, 7, 8, 9] none none
      [⟨some 42, .mv (.t 0), [], [], none, none⟩,
       ⟨some 43, .mv (.t 1), [], [], none, none⟩,
       ⟨some 44, .bin .add (.t 43) (.c (.d (.int .i64 1))), [], [], none, none⟩,
       ⟨some 45, .call 221 [(.t 42), (.t 44)], [], [], none, none⟩,
       ⟨some 9, .mv (.t 45), [], [], none, none⟩])
   (g_tree_parser_expression.c0))
def g_tree_parser_expression.c2 : ACode :=
  .seq (.region [0, 1, 7] none none
     [⟨some 34, .mv (.t 0), [], [], none, none⟩,
      ⟨some 35, .call 220 [(.t 34), (.c (.d (.str [116, 104, 101, 110])))], [], [], none, none⟩])
  (.seq (.region [0, 1, 7, 8] none none
      [⟨some 36, .mv (.t 0), [], [], none, none⟩,
       ⟨some 37, .mv (.t 1), [], [], none, none⟩,
       ⟨some 38, .bin .add (.t 37) (.c (.d (.int .i64 1))), [], [], none, none⟩,
       ⟨some 39, .call 221 [(.t 36), (.t 38)], [], [], none, none⟩,
       ⟨some 8, .mv (.t 39), [], [], none, none⟩])
   (g_tree_parser_expression.c1))
def g_tree_parser_expression.c3 : ACode :=
  .seq (.region [0, 1, 29] none none
     [⟨some 29, .mv (.t 6), [], [], none, none⟩])
  (.cond (.t 29) (.seq (.region [0, 1, 7] none none
       [⟨some 30, .mv (.t 0), [], [], none, none⟩,
        ⟨some 31, .mv (.t 1), [], [], none, none⟩,
        ⟨some 32, .bin .add (.t 31) (.c (.d (.int .i64 1))), [], [], none, none⟩,
        ⟨some 33, .call 221 [(.t 30), (.t 32)], [], [], none, none⟩,
        ⟨some 7, .mv (.t 33), [], [], none, none⟩])
    (g_tree_parser_expression.c2))
   (.skip))
def g_tree_parser_expression.c4 : ACode :=
  .seq (.region [4] none none
     [⟨some 65, .mv (.t 0), [], [], none, none⟩,
      ⟨some 66, .mv (.t 11), [], [], none, none⟩,
      ⟨some 67, .mv (.t 10), [], [], none, none⟩,
      ⟨some 68, .mv (.t 13), [], [], none, none⟩,
      ⟨some 69, .build [.d (.str []), .d (.str []), .d (.int .i64 0), .d (.int .i64 0), .d (.int .i64 0), .d (.int .i64 0)] [(0, 1, (.t 66)), (3, 1, (.t 67)), (4, 1, (.t 68))], [], [], none, none⟩,
      ⟨some 70, .call 222 [(.t 65), (.t 69)], [], [], none, none⟩,
      ⟨some 4, .mv (.t 70), [], [], none, none⟩])
  (.ret)
def g_tree_parser_expression.c5 : ACode :=
  .seq (.region [0, 1, 10, 11, 61] none none
     [⟨some 61, .mv (.t 12), [], [], none, none⟩])
  (.cond (.t 61) (.seq (.region [0, 10, 11, 13] none none
       [⟨some 62, .mv (.t 0), [], [], none, none⟩,
        ⟨some 63, .mv (.t 1), [], [], none, none⟩,
        ⟨some 64, .call 223 [(.t 62), (.t 63)], [], [], none, none⟩,
        ⟨some 13, .mv (.t 64), [], [], none, none⟩])
    (g_tree_parser_expression.c4))
   (.skip))
def g_tree_parser_expression.c6 : ACode :=
  .seq (.region [4] none none
     [⟨some 71, .mv (.t 10), [], [], none, none⟩,
      ⟨some 4, .mv (.t 71), [], [], none, none⟩])
  (.ret)
def g_tree_parser_expression.c7 : ACode :=
  .seq (.seq (.region [0, 1, 10, 11, 12] none none
      [⟨some 56, .mv (.t 0), [], [], none, none⟩,
       ⟨some 57, .bsl none 1 [] 6 [(0, (.c (.d (.str [60])))), (1, (.c (.d (.str [60, 61])))), (2, (.c (.d (.str [61])))), (3, (.c (.d (.str [60, 62])))), (4, (.c (.d (.str [62])))), (5, (.c (.d (.str [62, 61]))))], [], [], none, none⟩,
       ⟨some 58, .call 219 [(.t 56), (.t 57)], [], [], none, none⟩,
       ⟨some 55, .mv (.t 58), [], [], none, none⟩,
       ⟨some 59, .ext (.t 55) 0, [], [], none, none⟩,
       ⟨some 60, .ext (.t 55) 1, [], [], none, none⟩,
       ⟨some 11, .mv (.t 59), [], [], none, none⟩,
       ⟨some 12, .mv (.t 60), [], [], none, none⟩])
   (g_tree_parser_expression.c5))
  (g_tree_parser_expression.c6)
def g_tree_parser_expression.c8 : ACode :=
  .seq (.region [0, 1, 10] none none
     [⟨some 52, .mv (.t 0), [], [], none, none⟩,
      ⟨some 53, .mv (.t 1), [], [], none, none⟩,
      ⟨some 54, .call 223 [(.t 52), (.t 53)], [], [], none, none⟩,
      ⟨some 10, .mv (.t 54), [], [], none, none⟩])
  (g_tree_parser_expression.c7)
def g_tree_parser_expression.c9 : ACode :=
  .seq (.seq (.region [0, 1, 6] none none
      [⟨some 24, .mv (.t 0), [], [], none, none⟩,
       ⟨some 25, .bsl none 1 [] 1 [(0, (.c (.d (.str [105, 102]))))], [], [], none, none⟩,
       ⟨some 26, .call 219 [(.t 24), (.t 25)], [], [], none, none⟩,
       ⟨some 23, .mv (.t 26), [], [], none, none⟩,
       ⟨some 27, .ext (.t 23) 0, [], [], none, none⟩,
       ⟨some 28, .ext (.t 23) 1, [], [], none, none⟩,
       ⟨some 5, .mv (.t 27), [], [], none, none⟩,
       ⟨some 6, .mv (.t 28), [], [], none, none⟩])
   (g_tree_parser_expression.c3))
  (g_tree_parser_expression.c8)
def g_tree_parser_expression.c10 : ACode :=
  .seq (.seq (.region [0, 1, 22] none none
      [⟨some 18, .mv (.t 0), [], [], none, none⟩,
       ⟨some 19, .nilc (.t 18), [], [], none, none⟩,
       ⟨some 20, .faddr 5 (.t 19), [], [], none, none⟩,
       ⟨some 21, .load none (.t 20), [], [], none, none⟩,
       ⟨some 22, .bin .neq (.t 21) (.c (.d (.int .i64 0))), [], [], none, none⟩])
   (.cond (.t 22) (.seq (.region [4] none none
        [⟨some 4, .mv (.c (.d (.int .i64 0))), [], [], none, none⟩])
     (.ret))
    (.skip)))
  (g_tree_parser_expression.c9)
def g_tree_parser_expression.code : ACode :=
  .seq (.region [0, 1] none none
     [⟨some 4, .mv (.c (.d (.int .i64 0))), [], [], none, none⟩])
  (.seq (.seq (.region [0, 1, 15] none none
       [⟨some 14, .mv (.t 1), [], [], none, none⟩,
        ⟨some 15, .bin .gtr (.t 14) (.c (.d (.int .i64 20))), [], [], none, none⟩])
    (.cond (.t 15) (.region [0, 1] none none
        [⟨some 16, .mv (.t 0), [], [], none, none⟩,
         ⟨some 17, .call 218 [(.t 16), (.c (.d (.int .i64 9)))], [], [], none, none⟩])
     (.skip)))
   (g_tree_parser_expression.c10))
def g_tree_parser_expression : AFn := { N := 72, res := [.slot 4], own := [], frz := [], code := g_tree_parser_expression.code }
def g_lex_letter.o1 : List AOper :=
  [⟨some 8, .pick (.t 5) (.t 7) (.c (.d (.bool false))), [], [], none, none⟩,
     ⟨some 2, .mv (.t 8), [], [], none, none⟩]
def g_lex_letter.o0 : List AOper :=
  (⟨some 6, .mv (.t 0), [], [], (some (2, 5, true)), none⟩ ::
     ⟨some 7, .bin .leq (.t 6) (.c (.d (.int .u8 122))), [], [], (some (2, 5, true)), (some ([5, 7], (some [])))⟩ ::
     g_lex_letter.o1)
def g_lex_letter.c0 : ACode :=
  .ret
def g_lex_letter.code : ACode :=
  .seq (.region [0] (some []) none
     [⟨some 2, .mv (.c (.d (.bool false))), [], [], none, none⟩])
  (.seq (.region [2] (some []) none
      (⟨some 3, .mv (.t 0), [], [], none, none⟩ ::
       ⟨some 4, .bin .geq (.t 3) (.c (.d (.int .u8 97))), [], [], none, none⟩ ::
       ⟨some 5, .mv (.t 4), [], [], none, (some ([0, 5], (some [])))⟩ ::
       g_lex_letter.o0))
   (g_lex_letter.c0))
def g_lex_letter : AFn := { N := 9, res := [.slot 2], own := [], frz := [], code := g_lex_letter.code }
def g_lex_one_1.o1 : List AOper :=
  [⟨some 8, .pick (.t 5) (.c (.d (.bool true))) (.t 7), [], [], none, none⟩,
     ⟨some 2, .mv (.t 8), [], [], none, none⟩]
def g_lex_one_1.o0 : List AOper :=
  (⟨some 6, .mv (.t 0), [], [], (some (2, 5, false)), none⟩ ::
     ⟨some 7, .call 107 [(.t 6)], [], [], (some (2, 5, false)), (some ([5, 7], (some [])))⟩ ::
     g_lex_one_1.o1)
def g_lex_one_1.c0 : ACode :=
  .ret
def g_lex_one_1.code : ACode :=
  .seq (.region [0] (some []) none
     [⟨some 2, .mv (.c (.d (.bool false))), [], [], none, none⟩])
  (.seq (.region [2] (some []) none
      (⟨some 3, .mv (.t 0), [], [], none, none⟩ ::
       ⟨some 4, .call 105 [(.t 3)], [], [], none, none⟩ ::
       ⟨some 5, .mv (.t 4), [], [], none, (some ([0, 5], (some [])))⟩ ::
       g_lex_one_1.o0))
   (g_lex_one_1.c0))
def g_lex_one_1 : AFn := { N := 9, res := [.slot 2], own := [], frz := [], code := g_lex_one_1.code }
def g_lex_digit.o1 : List AOper :=
  [⟨some 8, .pick (.t 5) (.t 7) (.c (.d (.bool false))), [], [], none, none⟩,
     ⟨some 2, .mv (.t 8), [], [], none, none⟩]
def g_lex_digit.o0 : List AOper :=
  (⟨some 6, .mv (.t 0), [], [], (some (2, 5, true)), none⟩ ::
     ⟨some 7, .bin .leq (.t 6) (.c (.d (.int .u8 57))), [], [], (some (2, 5, true)), (some ([5, 7], (some [])))⟩ ::
     g_lex_digit.o1)
def g_lex_digit.c0 : ACode :=
  .ret
def g_lex_digit.code : ACode :=
  .seq (.region [0] (some []) none
     [⟨some 2, .mv (.c (.d (.bool false))), [], [], none, none⟩])
  (.seq (.region [2] (some []) none
      (⟨some 3, .mv (.t 0), [], [], none, none⟩ ::
       ⟨some 4, .bin .geq (.t 3) (.c (.d (.int .u8 48))), [], [], none, none⟩ ::
       ⟨some 5, .mv (.t 4), [], [], none, (some ([0, 5], (some [])))⟩ ::
       g_lex_digit.o0))
   (g_lex_digit.c0))
def g_lex_digit : AFn := { N := 9, res := [.slot 2], own := [], frz := [], code := g_lex_digit.code }
def g_lex_one_2.o3 : List AOper :=
  [⟨some 12, .pick (.t 9) (.c (.d (.bool true))) (.t 11), [], [], none, none⟩,
     ⟨some 2, .mv (.t 12), [], [], none, none⟩]
def g_lex_one_2.o2 : List AOper :=
  (⟨some 10, .mv (.t 0), [], [], (some (6, 9, false)), none⟩ ::
     ⟨some 11, .bin .eql (.t 10) (.c (.d (.int .u8 37))), [], [], (some (6, 9, false)), (some ([9, 11], (some [])))⟩ ::
     g_lex_one_2.o3)
def g_lex_one_2.o1 : List AOper :=
  (⟨some 8, .pick (.t 5) (.c (.d (.bool true))) (.t 7), [], [], none, none⟩ ::
     ⟨some 9, .mv (.t 8), [], [], none, (some ([0, 9], (some [])))⟩ ::
     g_lex_one_2.o2)
def g_lex_one_2.o0 : List AOper :=
  (⟨some 6, .mv (.t 0), [], [], (some (2, 5, false)), none⟩ ::
     ⟨some 7, .bin .eql (.t 6) (.c (.d (.int .u8 46))), [], [], (some (2, 5, false)), (some ([0, 5, 7], (some [])))⟩ ::
     g_lex_one_2.o1)
def g_lex_one_2.c0 : ACode :=
  .ret
def g_lex_one_2.code : ACode :=
  .seq (.region [0] (some []) none
     [⟨some 2, .mv (.c (.d (.bool false))), [], [], none, none⟩])
  (.seq (.region [2] (some []) none
      (⟨some 3, .mv (.t 0), [], [], none, none⟩ ::
       ⟨some 4, .call 107 [(.t 3)], [], [], none, none⟩ ::
       ⟨some 5, .mv (.t 4), [], [], none, (some ([0, 5], (some [])))⟩ ::
       g_lex_one_2.o0))
   (g_lex_one_2.c0))
def g_lex_one_2 : AFn := { N := 13, res := [.slot 2], own := [], frz := [], code := g_lex_one_2.code }
def g_lex_figure.c0 : ACode :=
  .seq (.region [0, 12] (some []) none
     [⟨some 12, .mv (.t 4), [], [], none, none⟩])
  (.cond (.t 12) (.seq (.region [2] (some []) none
       [⟨some 2, .mv (.c (.d (.int .i64 3))), [], [], none, none⟩])
    (.ret))
   (.skip))
def g_lex_figure.c1 : ACode :=
  .seq (.region [0, 18] (some []) none
     [⟨some 18, .mv (.t 6), [], [], none, none⟩])
  (.cond (.t 18) (.seq (.region [2] (some []) none
       [⟨some 2, .mv (.c (.d (.int .i64 4))), [], [], none, none⟩])
    (.ret))
   (.skip))
def g_lex_figure.o5 : List AOper :=
  [⟨some 37, .pick (.t 29) (.t 36) (.c (.d (.bool false))), [], [], none, none⟩]
def g_lex_figure.o4 : List AOper :=
  (⟨some 36, .pick (.t 32) (.c (.d (.bool true))) (.t 35), [], [], (some (10, 29, true)), (some ([29, 36], (some [])))⟩ ::
     g_lex_figure.o5)
def g_lex_figure.o3 : List AOper :=
  (⟨some 33, .mv (.t 0), [], [], (some (13, 32, false)), none⟩ ::
     ⟨some 34, .idx (.t 33) (.c (.d (.int .i64 0))), [], [], (some (13, 32, false)), none⟩ ::
     ⟨some 35, .bin .neq (.t 34) (.c (.d (.int .u8 48))), [], [], (some (13, 32, false)), (some ([29, 32, 35], (some [])))⟩ ::
     g_lex_figure.o4)
def g_lex_figure.o2 : List AOper :=
  (⟨some 30, .mv (.t 0), [], [], (some (10, 29, true)), none⟩ ::
     ⟨some 31, .bin .eql (.t 30) (.c (.d (.str [48]))), [], [], (some (10, 29, true)), none⟩ ::
     ⟨some 32, .mv (.t 31), [], [], (some (10, 29, true)), (some ([0, 29, 32], (some [])))⟩ ::
     g_lex_figure.o3)
def g_lex_figure.o1 : List AOper :=
  (⟨some 28, .pick (.t 22) (.t 27) (.c (.d (.bool false))), [], [], none, none⟩ ::
     ⟨some 29, .mv (.t 28), [], [], none, (some ([0, 29], (some [])))⟩ ::
     g_lex_figure.o2)
def g_lex_figure.o0 : List AOper :=
  (⟨some 23, .mv (.t 0), [], [], (some (3, 22, true)), none⟩ ::
     ⟨some 24, .call 102 [(.t 23), (.c (.d (.int .i64 0))), (.f 107)], [], [], (some (3, 22, true)), none⟩ ::
     ⟨some 25, .mv (.t 0), [], [], (some (3, 22, true)), none⟩ ::
     ⟨some 26, .lenS (.t 25), [], [], (some (3, 22, true)), none⟩ ::
     ⟨some 27, .bin .eql (.t 24) (.t 26), [], [], (some (3, 22, true)), (some ([0, 22, 27], (some [])))⟩ ::
     g_lex_figure.o1)
def g_lex_figure.c2 : ACode :=
  .cond (.t 37) (.seq (.region [2] (some []) none
      [⟨some 2, .mv (.c (.d (.int .i64 2))), [], [], none, none⟩])
   (.ret))
  (.skip)
def g_lex_figure.c3 : ACode :=
  .seq (.region [2] (some []) none
     [⟨some 2, .mv (.c (.d (.int .i64 0))), [], [], none, none⟩])
  (.ret)
def g_lex_figure.c4 : ACode :=
  .seq (.seq (.region [37] (some []) none
      (⟨some 19, .mv (.t 0), [], [], none, none⟩ ::
       ⟨some 20, .lenS (.t 19), [], [], none, none⟩ ::
       ⟨some 21, .bin .leq (.t 20) (.c (.d (.int .i64 9))), [], [], none, none⟩ ::
       ⟨some 22, .mv (.t 21), [], [], none, (some ([0, 22], (some [])))⟩ ::
       g_lex_figure.o0))
   (g_lex_figure.c2))
  (g_lex_figure.c3)
def g_lex_figure.c5 : ACode :=
  .seq (.seq (.region [0, 6] (some []) none
      [⟨some 14, .mv (.t 0), [], [], none, none⟩,
       ⟨some 15, .call 92 [(.t 14)], [], [], none, none⟩,
       ⟨some 13, .mv (.t 15), [], [], none, none⟩,
       ⟨some 16, .ext (.t 13) 0, [], [], none, none⟩,
       ⟨some 17, .ext (.t 13) 1, [], [], none, none⟩,
       ⟨some 5, .mv (.t 16), [], [], none, none⟩,
       ⟨some 6, .mv (.t 17), [], [], none, none⟩])
   (g_lex_figure.c1))
  (g_lex_figure.c4)
def g_lex_figure.code : ACode :=
  .seq (.region [0] (some []) none
     [⟨some 2, .mv (.c (.d (.int .i64 0))), [], [], none, none⟩])
  (.seq (.seq (.region [0, 4] (some []) none
       [⟨some 8, .mv (.t 0), [], [], none, none⟩,
        ⟨some 9, .call 51 [(.t 8)], [], [], none, none⟩,
        ⟨some 7, .mv (.t 9), [], [], none, none⟩,
        ⟨some 10, .ext (.t 7) 0, [], [], none, none⟩,
        ⟨some 11, .ext (.t 7) 1, [], [], none, none⟩,
        ⟨some 3, .mv (.t 10), [], [], none, none⟩,
        ⟨some 4, .mv (.t 11), [], [], none, none⟩])
    (g_lex_figure.c0))
   (g_lex_figure.c5))
def g_lex_figure : AFn := { N := 38, res := [.slot 2], own := [], frz := [], code := g_lex_figure.code }
def g_lex_sign.c0 : ACode :=
  .region [0, 5, 6, 7] (some []) none
    [⟨some 16, .bin .add (.t 7) (.c (.d (.int .i64 1))), [], [], none, none⟩,
     ⟨some 7, .mv (.t 16), [], [], none, none⟩]
def g_lex_sign.l0 : ACode :=
  .loop [0, 5, 6, 7] (some []) (.seq (.region [0, 5, 6, 7, 8] (some []) none
     [⟨some 8, .bin .lss (.t 7) (.t 6), [], [], none, none⟩])
  (.seq (.cond (.t 8) (.skip)
    (.exit 0))
   (.seq (.block 1 [0, 5, 6, 7] (some []) (.seq (.region [0, 4, 5, 6, 7] (some []) none
         [⟨some 9, .iaddr 1 (.t 5) (.t 7), [], [], none, none⟩,
          ⟨some 10, .load none (.t 9), [], [], none, none⟩,
          ⟨some 4, .mv (.t 10), [], [], none, none⟩])
      (.seq (.region [0, 4, 5, 6, 7, 13] (some []) none
          [⟨some 11, .mv (.t 0), [], [], none, none⟩,
           ⟨some 12, .mv (.t 4), [], [], none, none⟩,
           ⟨some 13, .call 123 [(.t 11), (.t 12)], [], [], none, none⟩])
       (.cond (.t 13) (.seq (.region [2] (some []) none
            [⟨some 14, .mv (.t 4), [], [], none, none⟩,
             ⟨some 15, .lenS (.t 14), [], [], none, none⟩,
             ⟨some 2, .mv (.t 15), [], [], none, none⟩])
         (.ret))
        (.skip)))))
    (g_lex_sign.c0))))
def g_lex_sign.c1 : ACode :=
  .seq (.region [2] (some []) none
     [⟨some 2, .mv (.c (.d (.int .i64 0))), [], [], none, none⟩])
  (.ret)
def g_lex_sign.c2 : ACode :=
  .seq (.seq (.region [20] (some []) none
      [⟨some 17, .mv (.t 0), [], [], none, none⟩,
       ⟨some 18, .idx (.t 17) (.c (.d (.int .i64 0))), [], [], none, none⟩,
       ⟨some 19, .call 124 [(.c (.d (.str [61, 60, 62, 43, 45, 42, 40, 41, 44, 59]))), (.t 18)], [], [], none, none⟩,
       ⟨some 20, .bin .geq (.t 19) (.c (.d (.int .i64 0))), [], [], none, none⟩])
   (.cond (.t 20) (.seq (.region [2] (some []) none
        [⟨some 2, .mv (.c (.d (.int .i64 1))), [], [], none, none⟩])
     (.ret))
    (.skip)))
  (g_lex_sign.c1)
def g_lex_sign.code : ACode :=
  .seq (.region [0] (some []) none
     [⟨some 2, .mv (.c (.d (.int .i64 0))), [], [], none, none⟩])
  (.seq (.seq (.region [0, 5, 6, 7] (some []) none
       [⟨some 5, .bsl none 1 [] 3 [(0, (.c (.d (.str [60, 61])))), (1, (.c (.d (.str [62, 61])))), (2, (.c (.d (.str [60, 62]))))], [], [], none, none⟩,
        ⟨some 6, .len (.t 5), [], [], none, none⟩,
        ⟨some 7, .mv (.c (.d (.int .i64 0))), [], [], none, none⟩])
    (.block 0 [0] (some []) (g_lex_sign.l0)))
   (g_lex_sign.c2))
def g_lex_sign : AFn := { N := 21, res := [.slot 2], own := [], frz := [], code := g_lex_sign.code }
def g_slices_Index_string.c0 : ACode :=
  .region [0, 1, 7, 8] (some []) none
    [⟨some 18, .bin .add (.t 8) (.c (.d (.int .i64 1))), [], [], none, none⟩,
     ⟨some 8, .mv (.t 18), [], [], none, none⟩]
def g_slices_Index_string.l0 : ACode :=
  .loop [0, 1, 7, 8] (some []) (.seq (.region [0, 1, 7, 8, 9] (some []) none
     [⟨some 9, .bin .lss (.t 8) (.t 7), [], [], none, none⟩])
  (.seq (.cond (.t 9) (.skip)
    (.exit 0))
   (.seq (.block 1 [0, 1, 7, 8] (some []) (.seq (.region [0, 1, 5, 7, 8] (some []) none
         [⟨some 10, .mv (.t 8), [], [], none, none⟩,
          ⟨some 5, .mv (.t 10), [], [], none, none⟩])
      (.seq (.region [0, 1, 5, 7, 8, 16] (some []) none
          [⟨some 11, .mv (.t 1), [], [], none, none⟩,
           ⟨some 12, .mv (.t 0), [], [], none, none⟩,
           ⟨some 13, .mv (.t 5), [], [], none, none⟩,
           ⟨some 14, .iaddr 1 (.t 12) (.t 13), [], [], none, none⟩,
           ⟨some 15, .load none (.t 14), [], [], none, none⟩,
           ⟨some 16, .bin .eql (.t 11) (.t 15), [], [], none, none⟩])
       (.cond (.t 16) (.seq (.region [4] (some []) none
            [⟨some 17, .mv (.t 5), [], [], none, none⟩,
             ⟨some 4, .mv (.t 17), [], [], none, none⟩])
         (.ret))
        (.skip)))))
    (g_slices_Index_string.c0))))
def g_slices_Index_string.c1 : ACode :=
  .seq (.region [4] (some []) none
     [⟨some 4, .mv (.c (.d (.int .i64 (-1)))), [], [], none, none⟩])
  (.ret)
def g_slices_Index_string.code : ACode :=
  .seq (.region [0, 1] (some []) none
     [⟨some 4, .mv (.c (.d (.int .i64 0))), [], [], none, none⟩])
  (.seq (.seq (.region [0, 1, 7, 8] (some []) none
       [⟨some 6, .mv (.t 0), [], [], none, none⟩,
        ⟨some 7, .len (.t 6), [], [], none, none⟩,
        ⟨some 8, .mv (.c (.d (.int .i64 0))), [], [], none, none⟩])
    (.block 0 [] (some []) (g_slices_Index_string.l0)))
   (g_slices_Index_string.c1))
def g_slices_Index_string : AFn := { N := 19, res := [.slot 4], own := [], frz := [], code := g_slices_Index_string.code }
def g_tree_parser_put.a0 : List AOper :=
  [⟨some 5, .mv (.t 0), [], [], none, none⟩,
     ⟨some 6, .mv (.t 0), [], [], none, none⟩,
     ⟨some 7, .nilc (.t 6), [], [1], none, none⟩,
     ⟨some 8, .faddr 3 (.t 7), [], [2], none, none⟩,
     ⟨some 9, .faddr 1 (.t 8), [], [3], none, none⟩,
     ⟨some 10, .load none (.t 9), [], [4], none, none⟩,
     ⟨some 11, .load (some 6) (.t 3), [], [], none, none⟩,
     ⟨some 12, .bsl none 6 [] 1 [(0, (.t 11))], [], [6], none, none⟩,
     ⟨some 13, .app (some 13) 6 64 (.t 10) (.t 12), [], [5, 7], none, (some ([], none))⟩,
     ⟨some 14, .nilc (.t 5), [], [0, 0, 1, 2, 3, 4, 5, 6, 7, 8], none, none⟩,
     ⟨some 15, .faddr 3 (.t 14), [], [9, 0, 1, 2, 3, 4, 5, 6, 7, 8], none, none⟩,
     ⟨some 16, .faddr 1 (.t 15), [], [10, 0, 1, 2, 3, 4, 5, 6, 7, 8], none, none⟩,
     ⟨none, .store 1 (.t 16) (.t 13), [], [11, 8, 8, 0, 1, 2, 3, 4, 5, 6, 7, 8], none, none⟩]
def g_tree_parser_put.t5 : Tr := .one 12 .done
def g_tree_parser_put.t6 : Tr := .one 11 g_tree_parser_put.t5
def g_tree_parser_put.t7 : Tr := .one 10 g_tree_parser_put.t6
def g_tree_parser_put.t8 : Tr := .one 9 g_tree_parser_put.t7
def g_tree_parser_put.t9 : Tr := .one 8 g_tree_parser_put.t8
def g_tree_parser_put.t10 : Tr := .one 7 g_tree_parser_put.t9
def g_tree_parser_put.t11 : Tr := .one 6 g_tree_parser_put.t10
def g_tree_parser_put.t12 : Tr := .one 5 g_tree_parser_put.t9
def g_tree_parser_put.t13 : Tr := .one 7 g_tree_parser_put.t12
def g_tree_parser_put.t14 : Tr := .two 5 g_tree_parser_put.t10 g_tree_parser_put.t13
def g_tree_parser_put.t15 : Tr := .one 6 g_tree_parser_put.t14
def g_tree_parser_put.t16 : Tr := .two 5 g_tree_parser_put.t11 g_tree_parser_put.t15
def g_tree_parser_put.i4 : List Nat := 4 :: []
def g_tree_parser_put.i3 : List Nat := 3 :: g_tree_parser_put.i4
def g_tree_parser_put.i2 : List Nat := 2 :: g_tree_parser_put.i3
def g_tree_parser_put.i1 : List Nat := 1 :: g_tree_parser_put.i2
def g_tree_parser_put.c0 : ACode :=
  .seq (.region [4] none none
     [⟨some 17, .mv (.t 0), [], [], none, none⟩,
      ⟨some 18, .nilc (.t 17), [], [], none, none⟩,
      ⟨some 19, .faddr 3 (.t 18), [], [], none, none⟩,
      ⟨some 20, .faddr 1 (.t 19), [], [], none, none⟩,
      ⟨some 21, .load none (.t 20), [], [], none, none⟩,
      ⟨some 22, .len (.t 21), [], [], none, none⟩,
      ⟨some 23, .bin .sub (.t 22) (.c (.d (.int .i64 1))), [], [], none, none⟩,
      ⟨some 4, .mv (.t 23), [], [], none, none⟩])
  (.ret)
def g_tree_parser_put.code : ACode :=
  .seq (.region [0, 3] none none
     [⟨some 3, .box 3 6 (.t 1), [], [], none, none⟩,
      ⟨some 4, .mv (.c (.d (.int .i64 0))), [], [], none, none⟩])
  (.seq (.region [0] none (some (0 :: g_tree_parser_put.i1, g_tree_parser_put.t16)) g_tree_parser_put.a0)
   (g_tree_parser_put.c0))
def g_tree_parser_put : AFn := { N := 24, res := [.slot 4], own := [], frz := [], code := g_tree_parser_put.code }
def g_tree_parser_sum.c0 : ACode :=
  .region [0, 1, 5] none none
    [⟨some 24, .mv (.t 0), [], [], none, none⟩,
     ⟨some 25, .mv (.t 6), [], [], none, none⟩,
     ⟨some 26, .mv (.t 5), [], [], none, none⟩,
     ⟨some 27, .mv (.t 8), [], [], none, none⟩,
     ⟨some 28, .build [.d (.str []), .d (.str []), .d (.int .i64 0), .d (.int .i64 0), .d (.int .i64 0), .d (.int .i64 0)] [(0, 1, (.t 25)), (3, 1, (.t 26)), (4, 1, (.t 27))], [], [], none, none⟩,
     ⟨some 29, .call 222 [(.t 24), (.t 28)], [], [], none, none⟩,
     ⟨some 5, .mv (.t 29), [], [], none, none⟩]
def g_tree_parser_sum.c1 : ACode :=
  .seq (.region [0, 1, 5, 6, 8] none none
     [⟨some 21, .mv (.t 0), [], [], none, none⟩,
      ⟨some 22, .mv (.t 1), [], [], none, none⟩,
      ⟨some 23, .call 224 [(.t 21), (.t 22)], [], [], none, none⟩,
      ⟨some 8, .mv (.t 23), [], [], none, none⟩])
  (g_tree_parser_sum.c0)
def g_tree_parser_sum.c2 : ACode :=
  .seq (.seq (.region [0, 1, 5, 6, 19] none none
      [⟨some 18, .mv (.t 7), [], [], none, none⟩,
       ⟨some 19, .un .not (.t 18), [], [], none, none⟩])
   (.cond (.t 19) (.seq (.region [4] none none
        [⟨some 20, .mv (.t 5), [], [], none, none⟩,
         ⟨some 4, .mv (.t 20), [], [], none, none⟩])
     (.ret))
    (.skip)))
  (g_tree_parser_sum.c1)
def g_tree_parser_sum.l0 : ACode :=
  .loop [0, 1, 5] none (.block 1 [0, 1, 5] none (.seq (.region [0, 1, 5, 6, 7] none none
      [⟨some 13, .mv (.t 0), [], [], none, none⟩,
       ⟨some 14, .bsl none 1 [] 2 [(0, (.c (.d (.str [43])))), (1, (.c (.d (.str [45]))))], [], [], none, none⟩,
       ⟨some 15, .call 219 [(.t 13), (.t 14)], [], [], none, none⟩,
       ⟨some 12, .mv (.t 15), [], [], none, none⟩,
       ⟨some 16, .ext (.t 12) 0, [], [], none, none⟩,
       ⟨some 17, .ext (.t 12) 1, [], [], none, none⟩,
       ⟨some 6, .mv (.t 16), [], [], none, none⟩,
       ⟨some 7, .mv (.t 17), [], [], none, none⟩])
   (g_tree_parser_sum.c2)))
def g_tree_parser_sum.c3 : ACode :=
  .block 0 [4] none (g_tree_parser_sum.l0)
def g_tree_parser_sum.code : ACode :=
  .seq (.region [0, 1] none none
     [⟨some 4, .mv (.c (.d (.int .i64 0))), [], [], none, none⟩])
  (.seq (.region [0, 1, 5] none none
      [⟨some 9, .mv (.t 0), [], [], none, none⟩,
       ⟨some 10, .mv (.t 1), [], [], none, none⟩,
       ⟨some 11, .call 224 [(.t 9), (.t 10)], [], [], none, none⟩,
       ⟨some 5, .mv (.t 11), [], [], none, none⟩])
   (g_tree_parser_sum.c3))
def g_tree_parser_sum : AFn := { N := 30, res := [.slot 4], own := [], frz := [], code := g_tree_parser_sum.code }
def g_money_Parse.o1 : List AOper :=
  [⟨some 20, .pick (.t 16) (.c (.d (.bool true))) (.t 19), [], [], none, none⟩]
def g_money_Parse.o0 : List AOper :=
  (⟨some 17, .mv (.t 4), [], [], (some (2, 16, false)), none⟩ ::
     ⟨some 18, .call 58 [(.t 17)], [], [], (some (2, 16, false)), none⟩ ::
     ⟨some 19, .un .not (.t 18), [], [], (some (2, 16, false)), (some ([0, 4, 16, 19], (some [])))⟩ ::
     g_money_Parse.o1)
def g_money_Parse.c0 : ACode :=
  .cond (.t 20) (.seq (.region [2, 3] (some []) none
      [⟨some 2, .mv (.c (.d (.int .i64 0))), [], [], none, none⟩,
       ⟨some 3, .mv (.c (.d (.bool false))), [], [], none, none⟩])
   (.ret))
  (.skip)
def g_money_Parse.c1 : ACode :=
  .seq (.region [4, 28] (some []) none
     [⟨some 26, .mv (.t 6), [], [], none, none⟩,
      ⟨some 27, .mv (.t 0), [], [], none, none⟩,
      ⟨some 28, .bin .neq (.t 26) (.t 27), [], [], none, none⟩])
  (.cond (.t 28) (.seq (.region [2, 3] (some []) none
       [⟨some 2, .mv (.c (.d (.int .i64 0))), [], [], none, none⟩,
        ⟨some 3, .mv (.c (.d (.bool false))), [], [], none, none⟩])
    (.ret))
   (.skip))
def g_money_Parse.c2 : ACode :=
  .seq (.region [2, 3] (some []) none
     [⟨some 29, .mv (.t 4), [], [], none, none⟩,
      ⟨some 2, .mv (.t 29), [], [], none, none⟩,
      ⟨some 3, .mv (.c (.d (.bool true))), [], [], none, none⟩])
  (.ret)
def g_money_Parse.c3 : ACode :=
  .seq (.seq (.region [0, 4, 6] (some []) none
      [⟨some 22, .mv (.t 4), [], [], none, none⟩,
       ⟨some 23, .call 50 [(.t 22)], [], [], none, none⟩,
       ⟨some 21, .mv (.t 23), [], [], none, none⟩,
       ⟨some 24, .ext (.t 21) 0, [], [], none, none⟩,
       ⟨some 25, .ext (.t 21) 1, [], [], none, none⟩,
       ⟨some 6, .mv (.t 24), [], [], none, none⟩,
       ⟨some 7, .mv (.t 25), [], [], none, none⟩])
   (g_money_Parse.c1))
  (g_money_Parse.c2)
def g_money_Parse.c4 : ACode :=
  .seq (.seq (.region [0, 4, 20] (some []) none
      (⟨some 14, .mv (.t 5), [], [], none, none⟩ ::
       ⟨some 15, .nilE true (.t 14), [], [], none, none⟩ ::
       ⟨some 16, .mv (.t 15), [], [], none, (some ([0, 4, 16], (some [])))⟩ ::
       g_money_Parse.o0))
   (g_money_Parse.c0))
  (g_money_Parse.c3)
def g_money_Parse.code : ACode :=
  .seq (.region [0] (some []) none
     [⟨some 2, .mv (.c (.d (.int .i64 0))), [], [], none, none⟩,
      ⟨some 3, .mv (.c (.d (.bool false))), [], [], none, none⟩])
  (.seq (.region [0, 4, 5] (some []) none
      [⟨some 9, .mv (.t 0), [], [], none, none⟩,
       ⟨some 10, .call 69 [(.t 9), (.c (.d (.str [46]))), (.c (.d (.str []))), (.c (.d (.int .i64 1)))], [], [], none, none⟩,
       ⟨some 11, .call 70 [(.t 10)], [], [], none, none⟩,
       ⟨some 8, .mv (.t 11), [], [], none, none⟩,
       ⟨some 12, .ext (.t 8) 0, [], [], none, none⟩,
       ⟨some 13, .ext (.t 8) 1, [], [], none, none⟩,
       ⟨some 4, .mv (.t 12), [], [], none, none⟩,
       ⟨some 5, .mv (.t 13), [], [], none, none⟩])
   (g_money_Parse.c4))
def g_money_Parse : AFn := { N := 30, res := [.slot 2, .slot 3], own := [], frz := [], code := g_money_Parse.code }
def g_rate_Parse.o3 : List AOper :=
  [⟨some 28, .pick (.t 24) (.c (.d (.bool true))) (.t 27), [], [], none, none⟩]
def g_rate_Parse.o2 : List AOper :=
  (⟨some 25, .mv (.t 6), [], [], (some (6, 24, false)), none⟩ ::
     ⟨some 26, .call 88 [(.t 25)], [], [], (some (6, 24, false)), none⟩ ::
     ⟨some 27, .un .not (.t 26), [], [], (some (6, 24, false)), (some ([6, 24, 27], (some [])))⟩ ::
     g_rate_Parse.o3)
def g_rate_Parse.o1 : List AOper :=
  (⟨some 23, .pick (.t 20) (.c (.d (.bool true))) (.t 22), [], [], none, none⟩ ::
     ⟨some 24, .mv (.t 23), [], [], none, (some ([6, 24], (some [])))⟩ ::
     g_rate_Parse.o2)
def g_rate_Parse.o0 : List AOper :=
  (⟨some 21, .mv (.t 7), [], [], (some (2, 20, false)), none⟩ ::
     ⟨some 22, .un .not (.t 21), [], [], (some (2, 20, false)), (some ([6, 20, 22], (some [])))⟩ ::
     g_rate_Parse.o1)
def g_rate_Parse.c0 : ACode :=
  .cond (.t 28) (.seq (.region [2, 3] (some []) none
      [⟨some 2, .mv (.c (.d (.int .i64 0))), [], [], none, none⟩,
       ⟨some 3, .mv (.c (.d (.bool false))), [], [], none, none⟩])
   (.ret))
  (.skip)
def g_rate_Parse.c1 : ACode :=
  .seq (.region [2, 3] (some []) none
     [⟨some 29, .mv (.t 6), [], [], none, none⟩,
      ⟨some 2, .mv (.t 29), [], [], none, none⟩,
      ⟨some 3, .mv (.c (.d (.bool true))), [], [], none, none⟩])
  (.ret)
def g_rate_Parse.c2 : ACode :=
  .seq (.seq (.region [6, 28] (some []) none
      (⟨some 18, .mv (.t 5), [], [], none, none⟩ ::
       ⟨some 19, .un .not (.t 18), [], [], none, none⟩ ::
       ⟨some 20, .mv (.t 19), [], [], none, (some ([6, 7, 20], (some [])))⟩ ::
       g_rate_Parse.o0))
   (g_rate_Parse.c0))
  (g_rate_Parse.c1)
def g_rate_Parse.c3 : ACode :=
  .seq (.region [5, 6, 7] (some []) none
     [⟨some 14, .mv (.t 4), [], [], none, none⟩,
      ⟨some 15, .call 51 [(.t 14)], [], [], none, none⟩,
      ⟨some 13, .mv (.t 15), [], [], none, none⟩,
      ⟨some 16, .ext (.t 13) 0, [], [], none, none⟩,
      ⟨some 17, .ext (.t 13) 1, [], [], none, none⟩,
      ⟨some 6, .mv (.t 16), [], [], none, none⟩,
      ⟨some 7, .mv (.t 17), [], [], none, none⟩])
  (g_rate_Parse.c2)
def g_rate_Parse.code : ACode :=
  .seq (.region [0] (some []) none
     [⟨some 2, .mv (.c (.d (.int .i64 0))), [], [], none, none⟩,
      ⟨some 3, .mv (.c (.d (.bool false))), [], [], none, none⟩])
  (.seq (.region [4, 5] (some []) none
      [⟨some 9, .mv (.t 0), [], [], none, none⟩,
       ⟨some 10, .call 101 [(.t 9), (.c (.d (.str [37])))], [], [], none, none⟩,
       ⟨some 8, .mv (.t 10), [], [], none, none⟩,
       ⟨some 11, .ext (.t 8) 0, [], [], none, none⟩,
       ⟨some 12, .ext (.t 8) 1, [], [], none, none⟩,
       ⟨some 4, .mv (.t 11), [], [], none, none⟩,
       ⟨some 5, .mv (.t 12), [], [], none, none⟩])
   (g_rate_Parse.c3))
def g_rate_Parse : AFn := { N := 30, res := [.slot 2, .slot 3], own := [], frz := [], code := g_rate_Parse.code }
def g_strings_HasPrefix.code : ACode :=
  .seq (.region [0, 1] (some []) none
     [⟨some 4, .mv (.c (.d (.bool false))), [], [], none, none⟩])
  (.seq (.region [4] (some []) none
      [⟨some 5, .mv (.t 0), [], [], none, none⟩,
       ⟨some 6, .mv (.t 1), [], [], none, none⟩,
       ⟨some 7, .call 131 [(.t 5), (.t 6)], [], [], none, none⟩,
       ⟨some 4, .mv (.t 7), [], [], none, none⟩])
   (.ret))
def g_strings_HasPrefix : AFn := { N := 8, res := [.slot 4], own := [], frz := [], code := g_strings_HasPrefix.code }
def g_tree_parser_product.c0 : ACode :=
  .seq (.region [0, 1, 5, 19] none none
     [⟨some 18, .mv (.t 7), [], [], none, none⟩,
      ⟨some 19, .un .not (.t 18), [], [], none, none⟩])
  (.cond (.t 19) (.seq (.region [4] none none
       [⟨some 20, .mv (.t 5), [], [], none, none⟩,
        ⟨some 4, .mv (.t 20), [], [], none, none⟩])
    (.ret))
   (.skip))
def g_tree_parser_product.c1 : ACode :=
  .region [0, 1, 5] none none
    [⟨some 24, .mv (.t 0), [], [], none, none⟩,
     ⟨some 25, .mv (.t 5), [], [], none, none⟩,
     ⟨some 26, .mv (.t 8), [], [], none, none⟩,
     ⟨some 27, .build [.d (.str []), .d (.str []), .d (.int .i64 0), .d (.int .i64 0), .d (.int .i64 0), .d (.int .i64 0)] [(0, 1, (.c (.d (.str [42])))), (3, 1, (.t 25)), (4, 1, (.t 26))], [], [], none, none⟩,
     ⟨some 28, .call 222 [(.t 24), (.t 27)], [], [], none, none⟩,
     ⟨some 5, .mv (.t 28), [], [], none, none⟩]
def g_tree_parser_product.c2 : ACode :=
  .seq (.region [0, 1, 5, 8] none none
     [⟨some 21, .mv (.t 0), [], [], none, none⟩,
      ⟨some 22, .mv (.t 1), [], [], none, none⟩,
      ⟨some 23, .call 225 [(.t 21), (.t 22)], [], [], none, none⟩,
      ⟨some 8, .mv (.t 23), [], [], none, none⟩])
  (g_tree_parser_product.c1)
def g_tree_parser_product.l0 : ACode :=
  .loop [0, 1, 5] none (.block 1 [0, 1, 5] none (.seq (.seq (.region [0, 1, 5, 7] none none
       [⟨some 13, .mv (.t 0), [], [], none, none⟩,
        ⟨some 14, .bsl none 1 [] 1 [(0, (.c (.d (.str [42]))))], [], [], none, none⟩,
        ⟨some 15, .call 219 [(.t 13), (.t 14)], [], [], none, none⟩,
        ⟨some 12, .mv (.t 15), [], [], none, none⟩,
        ⟨some 16, .ext (.t 12) 0, [], [], none, none⟩,
        ⟨some 17, .ext (.t 12) 1, [], [], none, none⟩,
        ⟨some 6, .mv (.t 16), [], [], none, none⟩,
        ⟨some 7, .mv (.t 17), [], [], none, none⟩])
    (g_tree_parser_product.c0))
   (g_tree_parser_product.c2)))
def g_tree_parser_product.c3 : ACode :=
  .block 0 [4] none (g_tree_parser_product.l0)
def g_tree_parser_product.code : ACode :=
  .seq (.region [0, 1] none none
     [⟨some 4, .mv (.c (.d (.int .i64 0))), [], [], none, none⟩])
  (.seq (.region [0, 1, 5] none none
      [⟨some 9, .mv (.t 0), [], [], none, none⟩,
       ⟨some 10, .mv (.t 1), [], [], none, none⟩,
       ⟨some 11, .call 225 [(.t 9), (.t 10)], [], [], none, none⟩,
       ⟨some 5, .mv (.t 11), [], [], none, none⟩])
   (g_tree_parser_product.c3))
def g_tree_parser_product : AFn := { N := 29, res := [.slot 4], own := [], frz := [], code := g_tree_parser_product.code }
def g_money_Right.code : ACode :=
  .seq (.region [0] (some []) none
     [⟨some 2, .mv (.c (.d (.bool false))), [], [], none, none⟩])
  (.seq (.region [2] (some []) none
      [⟨some 3, .mv (.t 0), [], [], none, none⟩,
       ⟨some 4, .bin .geq (.t 3) (.c (.d (.int .i64 (-9223372036854775807)))), [], [], none, none⟩,
       ⟨some 2, .mv (.t 4), [], [], none, none⟩])
   (.ret))
def g_money_Right : AFn := { N := 5, res := [.slot 2], own := [], frz := [], code := g_money_Right.code }
def g_money_Text.c0 : ACode :=
  .seq (.region [2, 3] (some []) (some ([0, 1, 2, 3, 4, 5, 6, 7, 8, 9, 10], .done))
     [⟨some 17, .mv (.t 4), [], [], none, none⟩,
      ⟨some 18, .mv (.t 0), [], [], none, none⟩,
      ⟨some 19, .bin .quo (.t 18) (.c (.d (.int .i64 100))), [], [1], none, none⟩,
      ⟨some 20, .call 68 [(.t 19)], [], [2], none, none⟩,
      ⟨some 21, .bin .add (.t 17) (.t 20), [], [0, 3], none, none⟩,
      ⟨some 22, .bin .add (.t 21) (.c (.d (.str [46]))), [], [4], none, none⟩,
      ⟨some 23, .mv (.t 5), [], [], none, none⟩,
      ⟨some 24, .slcS (.t 23) (some (.c (.d (.int .i64 1)))) none, [], [6], none, none⟩,
      ⟨some 25, .bin .add (.t 22) (.t 24), [], [5, 7], none, none⟩,
      ⟨some 2, .mv (.t 25), [], [8, 3, 0, 1, 2, 3, 4, 5, 6, 7, 8], none, none⟩,
      ⟨some 3, .mv (.c (.d (.int .i64 0))), [], [9, 0, 1, 2, 3, 4, 5, 6, 7, 8, 9], none, none⟩])
  (.ret)
def g_money_Text.c1 : ACode :=
  .seq (.region [0, 4, 5] (some []) none
     [⟨some 13, .mv (.t 0), [], [], none, none⟩,
      ⟨some 14, .bin .rem (.t 13) (.c (.d (.int .i64 100))), [], [], none, none⟩,
      ⟨some 15, .bin .add (.c (.d (.int .i64 100))) (.t 14), [], [], none, none⟩,
      ⟨some 16, .call 68 [(.t 15)], [], [], none, none⟩,
      ⟨some 5, .mv (.t 16), [], [], none, none⟩])
  (g_money_Text.c0)
def g_money_Text.c2 : ACode :=
  .seq (.region [0, 4] (some []) none
     [⟨some 4, .mv (.c (.d (.str []))), [], [], none, none⟩])
  (.seq (.seq (.region [0, 4, 10] (some []) none
       [⟨some 9, .mv (.t 0), [], [], none, none⟩,
        ⟨some 10, .bin .lss (.t 9) (.c (.d (.int .i64 0))), [], [], none, none⟩])
    (.cond (.t 10) (.region [0, 4] (some []) none
        [⟨some 11, .mv (.t 0), [], [], none, none⟩,
         ⟨some 12, .un .neg (.t 11), [], [], none, none⟩,
         ⟨some 4, .mv (.c (.d (.str [45]))), [], [], none, none⟩,
         ⟨some 0, .mv (.t 12), [], [], none, none⟩])
     (.skip)))
   (g_money_Text.c1))
def g_money_Text.code : ACode :=
  .seq (.region [0] (some []) none
     [⟨some 2, .mv (.c (.d (.str []))), [], [], none, none⟩,
      ⟨some 3, .mv (.c (.d (.int .i64 0))), [], [], none, none⟩])
  (.seq (.seq (.region [0, 8] (some []) none
       [⟨some 6, .mv (.t 0), [], [], none, none⟩,
        ⟨some 7, .call 58 [(.t 6)], [], [], none, none⟩,
        ⟨some 8, .un .not (.t 7), [], [], none, none⟩])
    (.cond (.t 8) (.seq (.region [2, 3] (some []) none
         [⟨some 2, .mv (.c (.d (.str []))), [], [], none, none⟩,
          ⟨some 3, .mv (.c (.d (.int .i64 3))), [], [], none, none⟩])
      (.ret))
     (.skip)))
   (g_money_Text.c2))
def g_money_Text : AFn := { N := 26, res := [.slot 2, .slot 3], own := [], frz := [], code := g_money_Text.code }
def g_strings_CutSuffix.code : ACode :=
  .seq (.region [0, 1] (some []) none
     [⟨some 4, .mv (.c (.d (.str []))), [], [], none, none⟩,
      ⟨some 5, .mv (.c (.d (.bool false))), [], [], none, none⟩])
  (.seq (.region [4, 5] (some []) none
      [⟨some 6, .mv (.t 0), [], [], none, none⟩,
       ⟨some 7, .mv (.t 1), [], [], none, none⟩,
       ⟨some 8, .call 122 [(.t 6), (.t 7)], [], [], none, none⟩,
       ⟨some 9, .ext (.t 8) 0, [], [], none, none⟩,
       ⟨some 10, .ext (.t 8) 1, [], [], none, none⟩,
       ⟨some 4, .mv (.t 9), [], [], none, none⟩,
       ⟨some 5, .mv (.t 10), [], [], none, none⟩])
   (.ret))
def g_strings_CutSuffix : AFn := { N := 11, res := [.slot 4, .slot 5], own := [], frz := [], code := g_strings_CutSuffix.code }
def g_rate_Right.o1 : List AOper :=
  [⟨some 8, .pick (.t 5) (.t 7) (.c (.d (.bool false))), [], [], none, none⟩,
     ⟨some 2, .mv (.t 8), [], [], none, none⟩]
def g_rate_Right.o0 : List AOper :=
  (⟨some 6, .mv (.t 0), [], [], (some (2, 5, true)), none⟩ ::
     ⟨some 7, .bin .leq (.t 6) (.c (.d (.int .i64 10000))), [], [], (some (2, 5, true)), (some ([5, 7], (some [])))⟩ ::
     g_rate_Right.o1)
def g_rate_Right.c0 : ACode :=
  .ret
def g_rate_Right.code : ACode :=
  .seq (.region [0] (some []) none
     [⟨some 2, .mv (.c (.d (.bool false))), [], [], none, none⟩])
  (.seq (.region [2] (some []) none
      (⟨some 3, .mv (.t 0), [], [], none, none⟩ ::
       ⟨some 4, .bin .geq (.t 3) (.c (.d (.int .i64 0))), [], [], none, none⟩ ::
       ⟨some 5, .mv (.t 4), [], [], none, (some ([0, 5], (some [])))⟩ ::
       g_rate_Right.o0))
   (g_rate_Right.c0))
def g_rate_Right : AFn := { N := 9, res := [.slot 2], own := [], frz := [], code := g_rate_Right.code }
def g_internal_stringslite_HasPrefix.o1 : List AOper :=
  [⟨some 17, .pick (.t 10) (.t 16) (.c (.d (.bool false))), [], [], none, none⟩,
     ⟨some 4, .mv (.t 17), [], [], none, none⟩]
def g_internal_stringslite_HasPrefix.o0 : List AOper :=
  (⟨some 11, .mv (.t 0), [], [], (some (5, 10, true)), none⟩ ::
     ⟨some 12, .mv (.t 1), [], [], (some (5, 10, true)), none⟩ ::
     ⟨some 13, .lenS (.t 12), [], [], (some (5, 10, true)), none⟩ ::
     ⟨some 14, .slcS (.t 11) none (some (.t 13)), [], [], (some (5, 10, true)), none⟩ ::
     ⟨some 15, .mv (.t 1), [], [], (some (5, 10, true)), none⟩ ::
     ⟨some 16, .bin .eql (.t 14) (.t 15), [], [], (some (5, 10, true)), (some ([10, 16], (some [])))⟩ ::
     g_internal_stringslite_HasPrefix.o1)
def g_internal_stringslite_HasPrefix.c0 : ACode :=
  .ret
def g_internal_stringslite_HasPrefix.code : ACode :=
  .seq (.region [0, 1] (some []) none
     [⟨some 4, .mv (.c (.d (.bool false))), [], [], none, none⟩])
  (.seq (.region [4] (some []) none
      (⟨some 5, .mv (.t 0), [], [], none, none⟩ ::
       ⟨some 6, .lenS (.t 5), [], [], none, none⟩ ::
       ⟨some 7, .mv (.t 1), [], [], none, none⟩ ::
       ⟨some 8, .lenS (.t 7), [], [], none, none⟩ ::
       ⟨some 9, .bin .geq (.t 6) (.t 8), [], [], none, none⟩ ::
       ⟨some 10, .mv (.t 9), [], [], none, (some ([0, 1, 10], (some [])))⟩ ::
       g_internal_stringslite_HasPrefix.o0))
   (g_internal_stringslite_HasPrefix.c0))
def g_internal_stringslite_HasPrefix : AFn := { N := 18, res := [.slot 4], own := [], frz := [], code := g_internal_stringslite_HasPrefix.code }
def g_tree_parser_factor.c0 : ACode :=
  .seq (.region [0, 1, 27] none none
     [⟨some 27, .mv (.t 6), [], [], none, none⟩])
  (.cond (.t 27) (.seq (.region [4] none none
       [⟨some 28, .mv (.t 0), [], [], none, none⟩,
        ⟨some 29, .mv (.t 0), [], [], none, none⟩,
        ⟨some 30, .mv (.t 1), [], [], none, none⟩,
        ⟨some 31, .bin .add (.t 30) (.c (.d (.int .i64 1))), [], [], none, none⟩,
        ⟨some 32, .call 225 [(.t 29), (.t 31)], [], [], none, none⟩,
        ⟨some 33, .build [.d (.str []), .d (.str []), .d (.int .i64 0), .d (.int .i64 0), .d (.int .i64 0), .d (.int .i64 0)] [(0, 1, (.c (.d (.str [110, 101, 103])))), (3, 1, (.t 32))], [], [], none, none⟩,
        ⟨some 34, .call 222 [(.t 28), (.t 33)], [], [], none, none⟩,
        ⟨some 4, .mv (.t 34), [], [], none, none⟩])
    (.ret))
   (.skip))
def g_tree_parser_factor.c1 : ACode :=
  .seq (.region [0, 1, 7, 41] none none
     [⟨some 41, .mv (.t 8), [], [], none, none⟩])
  (.cond (.t 41) (.seq (.region [4] none none
       [⟨some 42, .mv (.t 0), [], [], none, none⟩,
        ⟨some 43, .mv (.t 7), [], [], none, none⟩,
        ⟨some 44, .mv (.t 1), [], [], none, none⟩,
        ⟨some 45, .call 226 [(.t 42), (.t 43), (.t 44)], [], [], none, none⟩,
        ⟨some 4, .mv (.t 45), [], [], none, none⟩])
    (.ret))
   (.skip))
def g_tree_parser_factor.c2 : ACode :=
  .seq (.region [11] none none
     [⟨some 57, .mv (.t 0), [], [], none, none⟩,
      ⟨some 58, .call 220 [(.t 57), (.c (.d (.str [41])))], [], [], none, none⟩])
  (.seq (.region [4] none none
      [⟨some 59, .mv (.t 11), [], [], none, none⟩,
       ⟨some 4, .mv (.t 59), [], [], none, none⟩])
   (.ret))
def g_tree_parser_factor.c3 : ACode :=
  .seq (.region [0, 1, 52] none none
     [⟨some 52, .mv (.t 10), [], [], none, none⟩])
  (.cond (.t 52) (.seq (.region [0, 11] none none
       [⟨some 53, .mv (.t 0), [], [], none, none⟩,
        ⟨some 54, .mv (.t 1), [], [], none, none⟩,
        ⟨some 55, .bin .add (.t 54) (.c (.d (.int .i64 1))), [], [], none, none⟩,
        ⟨some 56, .call 221 [(.t 53), (.t 55)], [], [], none, none⟩,
        ⟨some 11, .mv (.t 56), [], [], none, none⟩])
    (g_tree_parser_factor.c2))
   (.skip))
def g_tree_parser_factor.c4 : ACode :=
  .seq (.region [4] none none
     [⟨some 60, .mv (.t 0), [], [], none, none⟩,
      ⟨some 61, .call 227 [(.t 60)], [], [], none, none⟩,
      ⟨some 4, .mv (.t 61), [], [], none, none⟩])
  (.ret)
def g_tree_parser_factor.c5 : ACode :=
  .seq (.seq (.region [0, 1, 10] none none
      [⟨some 47, .mv (.t 0), [], [], none, none⟩,
       ⟨some 48, .bsl none 1 [] 1 [(0, (.c (.d (.str [40]))))], [], [], none, none⟩,
       ⟨some 49, .call 219 [(.t 47), (.t 48)], [], [], none, none⟩,
       ⟨some 46, .mv (.t 49), [], [], none, none⟩,
       ⟨some 50, .ext (.t 46) 0, [], [], none, none⟩,
       ⟨some 51, .ext (.t 46) 1, [], [], none, none⟩,
       ⟨some 9, .mv (.t 50), [], [], none, none⟩,
       ⟨some 10, .mv (.t 51), [], [], none, none⟩])
   (g_tree_parser_factor.c3))
  (g_tree_parser_factor.c4)
def g_tree_parser_factor.c6 : ACode :=
  .seq (.seq (.region [0, 1, 7, 8] none none
      [⟨some 36, .mv (.t 0), [], [], none, none⟩,
       ⟨some 37, .bsl none 1 [] 2 [(0, (.c (.d (.str [109, 105, 110])))), (1, (.c (.d (.str [109, 97, 120]))))], [], [], none, none⟩,
       ⟨some 38, .call 219 [(.t 36), (.t 37)], [], [], none, none⟩,
       ⟨some 35, .mv (.t 38), [], [], none, none⟩,
       ⟨some 39, .ext (.t 35) 0, [], [], none, none⟩,
       ⟨some 40, .ext (.t 35) 1, [], [], none, none⟩,
       ⟨some 7, .mv (.t 39), [], [], none, none⟩,
       ⟨some 8, .mv (.t 40), [], [], none, none⟩])
   (g_tree_parser_factor.c1))
  (g_tree_parser_factor.c5)
def g_tree_parser_factor.c7 : ACode :=
  .seq (.seq (.region [0, 1, 6] none none
      [⟨some 22, .mv (.t 0), [], [], none, none⟩,
       ⟨some 23, .bsl none 1 [] 1 [(0, (.c (.d (.str [45]))))], [], [], none, none⟩,
       ⟨some 24, .call 219 [(.t 22), (.t 23)], [], [], none, none⟩,
       ⟨some 21, .mv (.t 24), [], [], none, none⟩,
       ⟨some 25, .ext (.t 21) 0, [], [], none, none⟩,
       ⟨some 26, .ext (.t 21) 1, [], [], none, none⟩,
       ⟨some 5, .mv (.t 25), [], [], none, none⟩,
       ⟨some 6, .mv (.t 26), [], [], none, none⟩])
   (g_tree_parser_factor.c0))
  (g_tree_parser_factor.c6)
def g_tree_parser_factor.c8 : ACode :=
  .seq (.seq (.region [0, 1, 20] none none
      [⟨some 16, .mv (.t 0), [], [], none, none⟩,
       ⟨some 17, .nilc (.t 16), [], [], none, none⟩,
       ⟨some 18, .faddr 5 (.t 17), [], [], none, none⟩,
       ⟨some 19, .load none (.t 18), [], [], none, none⟩,
       ⟨some 20, .bin .neq (.t 19) (.c (.d (.int .i64 0))), [], [], none, none⟩])
   (.cond (.t 20) (.seq (.region [4] none none
        [⟨some 4, .mv (.c (.d (.int .i64 0))), [], [], none, none⟩])
     (.ret))
    (.skip)))
  (g_tree_parser_factor.c7)
def g_tree_parser_factor.code : ACode :=
  .seq (.region [0, 1] none none
     [⟨some 4, .mv (.c (.d (.int .i64 0))), [], [], none, none⟩])
  (.seq (.seq (.region [0, 1, 13] none none
       [⟨some 12, .mv (.t 1), [], [], none, none⟩,
        ⟨some 13, .bin .gtr (.t 12) (.c (.d (.int .i64 20))), [], [], none, none⟩])
    (.cond (.t 13) (.region [0, 1] none none
        [⟨some 14, .mv (.t 0), [], [], none, none⟩,
         ⟨some 15, .call 218 [(.t 14), (.c (.d (.int .i64 9)))], [], [], none, none⟩])
     (.skip)))
   (g_tree_parser_factor.c8))
def g_tree_parser_factor : AFn := { N := 62, res := [.slot 4], own := [], frz := [], code := g_tree_parser_factor.code }
def g_internal_stringslite_CutSuffix.c0 : ACode :=
  .seq (.region [4, 5] (some []) none
     [⟨some 11, .mv (.t 0), [], [], none, none⟩,
      ⟨some 12, .mv (.t 0), [], [], none, none⟩,
      ⟨some 13, .lenS (.t 12), [], [], none, none⟩,
      ⟨some 14, .mv (.t 1), [], [], none, none⟩,
      ⟨some 15, .lenS (.t 14), [], [], none, none⟩,
      ⟨some 16, .bin .sub (.t 13) (.t 15), [], [], none, none⟩,
      ⟨some 17, .slcS (.t 11) none (some (.t 16)), [], [], none, none⟩,
      ⟨some 4, .mv (.t 17), [], [], none, none⟩,
      ⟨some 5, .mv (.c (.d (.bool true))), [], [], none, none⟩])
  (.ret)
def g_internal_stringslite_CutSuffix.code : ACode :=
  .seq (.region [0, 1] (some []) none
     [⟨some 4, .mv (.c (.d (.str []))), [], [], none, none⟩,
      ⟨some 5, .mv (.c (.d (.bool false))), [], [], none, none⟩])
  (.seq (.seq (.region [0, 1, 9] (some []) none
       [⟨some 6, .mv (.t 0), [], [], none, none⟩,
        ⟨some 7, .mv (.t 1), [], [], none, none⟩,
        ⟨some 8, .call 141 [(.t 6), (.t 7)], [], [], none, none⟩,
        ⟨some 9, .un .not (.t 8), [], [], none, none⟩])
    (.cond (.t 9) (.seq (.region [4, 5] (some []) none
         [⟨some 10, .mv (.t 0), [], [], none, none⟩,
          ⟨some 4, .mv (.t 10), [], [], none, none⟩,
          ⟨some 5, .mv (.c (.d (.bool false))), [], [], none, none⟩])
      (.ret))
     (.skip)))
   (g_internal_stringslite_CutSuffix.c0))
def g_internal_stringslite_CutSuffix : AFn := { N := 18, res := [.slot 4, .slot 5], own := [], frz := [], code := g_internal_stringslite_CutSuffix.code }
def g_tree_parser_pair.c0 : ACode :=
  .seq (.region [0, 1, 7, 8] none none
     [⟨some 21, .mv (.t 0), [], [], none, none⟩,
      ⟨some 22, .call 220 [(.t 21), (.c (.d (.str [41])))], [], [], none, none⟩])
  (.seq (.region [6] none none
      [⟨some 23, .mv (.t 0), [], [], none, none⟩,
       ⟨some 24, .mv (.t 1), [], [], none, none⟩,
       ⟨some 25, .mv (.t 7), [], [], none, none⟩,
       ⟨some 26, .mv (.t 8), [], [], none, none⟩,
       ⟨some 27, .build [.d (.str []), .d (.str []), .d (.int .i64 0), .d (.int .i64 0), .d (.int .i64 0), .d (.int .i64 0)] [(0, 1, (.t 24)), (3, 1, (.t 25)), (4, 1, (.t 26))], [], [], none, none⟩,
       ⟨some 28, .call 222 [(.t 23), (.t 27)], [], [], none, none⟩,
       ⟨some 6, .mv (.t 28), [], [], none, none⟩])
   (.ret))
def g_tree_parser_pair.c1 : ACode :=
  .seq (.region [0, 1, 2, 7] none none
     [⟨some 15, .mv (.t 0), [], [], none, none⟩,
      ⟨some 16, .call 220 [(.t 15), (.c (.d (.str [44])))], [], [], none, none⟩])
  (.seq (.region [0, 1, 7, 8] none none
      [⟨some 17, .mv (.t 0), [], [], none, none⟩,
       ⟨some 18, .mv (.t 2), [], [], none, none⟩,
       ⟨some 19, .bin .add (.t 18) (.c (.d (.int .i64 1))), [], [], none, none⟩,
       ⟨some 20, .call 221 [(.t 17), (.t 19)], [], [], none, none⟩,
       ⟨some 8, .mv (.t 20), [], [], none, none⟩])
   (g_tree_parser_pair.c0))
def g_tree_parser_pair.code : ACode :=
  .seq (.region [0, 1, 2] none none
     [⟨some 6, .mv (.c (.d (.int .i64 0))), [], [], none, none⟩])
  (.seq (.region [0, 1, 2] none none
      [⟨some 9, .mv (.t 0), [], [], none, none⟩,
       ⟨some 10, .call 220 [(.t 9), (.c (.d (.str [40])))], [], [], none, none⟩])
   (.seq (.region [0, 1, 2, 7] none none
       [⟨some 11, .mv (.t 0), [], [], none, none⟩,
        ⟨some 12, .mv (.t 2), [], [], none, none⟩,
        ⟨some 13, .bin .add (.t 12) (.c (.d (.int .i64 1))), [], [], none, none⟩,
        ⟨some 14, .call 221 [(.t 11), (.t 13)], [], [], none, none⟩,
        ⟨some 7, .mv (.t 14), [], [], none, none⟩])
    (g_tree_parser_pair.c1)))
def g_tree_parser_pair : AFn := { N := 29, res := [.slot 6], own := [], frz := [], code := g_tree_parser_pair.code }
def g_tree_parser_leaf.c0 : ACode :=
  .region [0, 3, 4] none none
    [⟨some 24, .mv (.t 5), [], [], none, none⟩,
     ⟨some 25, .build [.d (.str []), .d (.str []), .d (.int .i64 0), .d (.int .i64 0), .d (.int .i64 0), .d (.int .i64 0)] [(0, 1, (.c (.d (.str [119, 104, 111, 108, 101])))), (2, 1, (.t 24))], [], [], none, none⟩,
     ⟨none, .store 6 (.t 4) (.t 25), [], [], none, none⟩]
def g_tree_parser_leaf.c1 : ACode :=
  .region [0, 3, 4] none none
    [⟨some 34, .mv (.t 7), [], [], none, none⟩,
     ⟨some 35, .build [.d (.str []), .d (.str []), .d (.int .i64 0), .d (.int .i64 0), .d (.int .i64 0), .d (.int .i64 0)] [(0, 1, (.c (.d (.str [97, 109, 111, 117, 110, 116])))), (2, 1, (.t 34))], [], [], none, none⟩,
     ⟨none, .store 6 (.t 4) (.t 35), [], [], none, none⟩]
def g_tree_parser_leaf.c2 : ACode :=
  .region [0, 3, 4] none none
    [⟨some 44, .mv (.t 9), [], [], none, none⟩,
     ⟨some 45, .build [.d (.str []), .d (.str []), .d (.int .i64 0), .d (.int .i64 0), .d (.int .i64 0), .d (.int .i64 0)] [(0, 1, (.c (.d (.str [114, 97, 116, 101])))), (2, 1, (.t 44))], [], [], none, none⟩,
     ⟨none, .store 6 (.t 4) (.t 45), [], [], none, none⟩]
def g_tree_parser_leaf.o3 : List AOper :=
  [⟨some 64, .pick (.t 54) (.c (.d (.bool true))) (.t 63), [], [], none, none⟩]
def g_tree_parser_leaf.o2 : List AOper :=
  (⟨some 63, .pick (.t 58) (.t 62) (.c (.d (.bool false))), [], [], (some (3, 54, false)), (some ([0, 4, 54, 63], none))⟩ ::
     g_tree_parser_leaf.o3)
def g_tree_parser_leaf.o1 : List AOper :=
  (⟨some 59, .faddr 1 (.t 3), [], [], (some (7, 58, true)), none⟩ ::
     ⟨some 60, .load none (.t 59), [], [], (some (7, 58, true)), none⟩ ::
     ⟨some 61, .call 158 [(.t 60)], [], [], (some (7, 58, true)), none⟩ ::
     ⟨some 62, .un .not (.t 61), [], [], (some (7, 58, true)), (some ([0, 4, 54, 58, 62], none))⟩ ::
     g_tree_parser_leaf.o2)
def g_tree_parser_leaf.o0 : List AOper :=
  (⟨some 55, .faddr 0 (.t 4), [], [], (some (3, 54, false)), none⟩ ::
     ⟨some 56, .load none (.t 55), [], [], (some (3, 54, false)), none⟩ ::
     ⟨some 57, .bin .eql (.t 56) (.c (.d (.str [110, 97, 109, 101]))), [], [], (some (3, 54, false)), none⟩ ::
     ⟨some 58, .mv (.t 57), [], [], (some (3, 54, false)), (some ([0, 3, 4, 54, 58], none))⟩ ::
     g_tree_parser_leaf.o1)
def g_tree_parser_leaf.c3 : ACode :=
  .cond (.t 64) (.seq (.region [] none none
      [⟨some 65, .mv (.t 0), [], [], none, none⟩,
       ⟨some 66, .call 218 [(.t 65), (.c (.d (.int .i64 2)))], [], [], none, none⟩])
   (.seq (.region [2] none none
       [⟨some 2, .mv (.c (.d (.int .i64 0))), [], [], none, none⟩])
    (.ret)))
  (.skip)
def g_tree_parser_leaf.c4 : ACode :=
  .seq (.region [2] none none
     [⟨some 74, .mv (.t 0), [], [], none, none⟩,
      ⟨some 75, .load (some 6) (.t 4), [], [], none, none⟩,
      ⟨some 76, .call 222 [(.t 74), (.t 75)], [], [], none, none⟩,
      ⟨some 2, .mv (.t 76), [], [], none, none⟩])
  (.ret)
def g_tree_parser_leaf.c5 : ACode :=
  .seq (.region [0, 4] none none
     [⟨some 67, .mv (.t 0), [], [], none, none⟩,
      ⟨some 68, .nilc (.t 67), [], [], none, none⟩,
      ⟨some 69, .faddr 2 (.t 68), [], [], none, none⟩,
      ⟨some 70, .load none (.t 69), [], [], none, none⟩,
      ⟨some 71, .bin .add (.t 70) (.c (.d (.int .i64 1))), [], [], none, none⟩,
      ⟨some 72, .nilc (.t 67), [], [], none, none⟩,
      ⟨some 73, .faddr 2 (.t 72), [], [], none, none⟩,
      ⟨none, .store 1 (.t 73) (.t 71), [], [], none, none⟩])
  (g_tree_parser_leaf.c4)
def g_tree_parser_leaf.c6 : ACode :=
  .seq (.seq (.region [0, 4, 64] none none
      (⟨some 51, .faddr 0 (.t 4), [], [], none, none⟩ ::
       ⟨some 52, .load none (.t 51), [], [], none, none⟩ ::
       ⟨some 53, .bin .eql (.t 52) (.c (.d (.str []))), [], [], none, none⟩ ::
       ⟨some 54, .mv (.t 53), [], [], none, (some ([0, 3, 4, 54], none))⟩ ::
       g_tree_parser_leaf.o0))
   (g_tree_parser_leaf.c3))
  (g_tree_parser_leaf.c5)
def g_tree_parser_leaf.c7 : ACode :=
  .seq (.region [0, 3, 4] none none
     [⟨some 13, .build [.d (.str []), .d (.str []), .d (.int .i64 0), .d (.int .i64 0), .d (.int .i64 0), .d (.int .i64 0)] [], [], [], none, none⟩,
      ⟨some 4, .alloc 4 [.d (.str []), .d (.str []), .d (.int .i64 0), .d (.int .i64 0), .d (.int .i64 0), .d (.int .i64 0)], [], [], none, none⟩,
      ⟨none, .store 6 (.t 4) (.t 13), [], [], none, none⟩])
  (.seq (.seq (.region [0, 3, 4, 15] none none
       [⟨some 14, .faddr 0 (.t 3), [], [], none, none⟩,
        ⟨some 15, .load none (.t 14), [], [], none, none⟩])
    (.block 0 [0, 3, 4] none (.seq (.region [0, 3, 4, 15, 16] none none
         [⟨some 17, .bin .eql (.t 15) (.c (.d (.int .i64 2))), [], [], none, none⟩,
          ⟨some 16, .mv (.t 17), [], [], none, none⟩])
      (.cond (.t 16) (.seq (.region [0, 3, 4, 5] none none
           [⟨some 19, .faddr 1 (.t 3), [], [], none, none⟩,
            ⟨some 20, .load none (.t 19), [], [], none, none⟩,
            ⟨some 21, .call 70 [(.t 20)], [], [], none, none⟩,
            ⟨some 18, .mv (.t 21), [], [], none, none⟩,
            ⟨some 22, .ext (.t 18) 0, [], [], none, none⟩,
            ⟨some 23, .ext (.t 18) 1, [], [], none, none⟩,
            ⟨some 5, .mv (.t 22), [], [], none, none⟩,
            ⟨some 6, .mv (.t 23), [], [], none, none⟩])
        (g_tree_parser_leaf.c0))
       (.seq (.region [0, 3, 4, 15, 26] none none
           [⟨some 27, .bin .eql (.t 15) (.c (.d (.int .i64 3))), [], [], none, none⟩,
            ⟨some 26, .mv (.t 27), [], [], none, none⟩])
        (.cond (.t 26) (.seq (.region [0, 3, 4, 7] none none
             [⟨some 29, .faddr 1 (.t 3), [], [], none, none⟩,
              ⟨some 30, .load none (.t 29), [], [], none, none⟩,
              ⟨some 31, .call 51 [(.t 30)], [], [], none, none⟩,
              ⟨some 28, .mv (.t 31), [], [], none, none⟩,
              ⟨some 32, .ext (.t 28) 0, [], [], none, none⟩,
              ⟨some 33, .ext (.t 28) 1, [], [], none, none⟩,
              ⟨some 7, .mv (.t 32), [], [], none, none⟩,
              ⟨some 8, .mv (.t 33), [], [], none, none⟩])
          (g_tree_parser_leaf.c1))
         (.seq (.region [0, 3, 4, 15, 36] none none
             [⟨some 37, .bin .eql (.t 15) (.c (.d (.int .i64 4))), [], [], none, none⟩,
              ⟨some 36, .mv (.t 37), [], [], none, none⟩])
          (.cond (.t 36) (.seq (.region [0, 3, 4, 9] none none
               [⟨some 39, .faddr 1 (.t 3), [], [], none, none⟩,
                ⟨some 40, .load none (.t 39), [], [], none, none⟩,
                ⟨some 41, .call 92 [(.t 40)], [], [], none, none⟩,
                ⟨some 38, .mv (.t 41), [], [], none, none⟩,
                ⟨some 42, .ext (.t 38) 0, [], [], none, none⟩,
                ⟨some 43, .ext (.t 38) 1, [], [], none, none⟩,
                ⟨some 9, .mv (.t 42), [], [], none, none⟩,
                ⟨some 10, .mv (.t 43), [], [], none, none⟩])
            (g_tree_parser_leaf.c2))
           (.seq (.region [0, 3, 4, 46] none none
               [⟨some 47, .bin .eql (.t 15) (.c (.d (.int .i64 1))), [], [], none, none⟩,
                ⟨some 46, .mv (.t 47), [], [], none, none⟩])
            (.cond (.t 46) (.region [0, 3, 4] none none
                [⟨some 48, .faddr 1 (.t 3), [], [], none, none⟩,
                 ⟨some 49, .load none (.t 48), [], [], none, none⟩,
                 ⟨some 50, .build [.d (.str []), .d (.str []), .d (.int .i64 0), .d (.int .i64 0), .d (.int .i64 0), .d (.int .i64 0)] [(0, 1, (.c (.d (.str [110, 97, 109, 101])))), (1, 1, (.t 49))], [], [], none, none⟩,
                 ⟨none, .store 6 (.t 4) (.t 50), [], [], none, none⟩])
             (.skip)))))))))))
   (g_tree_parser_leaf.c6))
def g_tree_parser_leaf.code : ACode :=
  .seq (.region [0] none none
     [⟨some 2, .mv (.c (.d (.int .i64 0))), [], [], none, none⟩])
  (.seq (.region [0, 3] none none
      [⟨some 11, .mv (.t 0), [], [], none, none⟩,
       ⟨some 12, .call 217 [(.t 11)], [], [], none, none⟩,
       ⟨some 3, .alloc 3 [.d (.int .i64 0), .d (.str []), .d (.int .i64 0)], [], [], none, none⟩,
       ⟨none, .store 3 (.t 3) (.t 12), [], [], none, none⟩])
   (g_tree_parser_leaf.c7))
def g_tree_parser_leaf : AFn := { N := 77, res := [.slot 2], own := [], frz := [], code := g_tree_parser_leaf.code }
def g_internal_stringslite_HasSuffix.o1 : List AOper :=
  [⟨some 20, .pick (.t 10) (.t 19) (.c (.d (.bool false))), [], [], none, none⟩,
     ⟨some 4, .mv (.t 20), [], [], none, none⟩]
def g_internal_stringslite_HasSuffix.o0 : List AOper :=
  (⟨some 11, .mv (.t 0), [], [], (some (5, 10, true)), none⟩ ::
     ⟨some 12, .mv (.t 0), [], [], (some (5, 10, true)), none⟩ ::
     ⟨some 13, .lenS (.t 12), [], [], (some (5, 10, true)), none⟩ ::
     ⟨some 14, .mv (.t 1), [], [], (some (5, 10, true)), none⟩ ::
     ⟨some 15, .lenS (.t 14), [], [], (some (5, 10, true)), none⟩ ::
     ⟨some 16, .bin .sub (.t 13) (.t 15), [], [], (some (5, 10, true)), none⟩ ::
     ⟨some 17, .slcS (.t 11) (some (.t 16)) none, [], [], (some (5, 10, true)), none⟩ ::
     ⟨some 18, .mv (.t 1), [], [], (some (5, 10, true)), none⟩ ::
     ⟨some 19, .bin .eql (.t 17) (.t 18), [], [], (some (5, 10, true)), (some ([10, 19], (some [])))⟩ ::
     g_internal_stringslite_HasSuffix.o1)
def g_internal_stringslite_HasSuffix.c0 : ACode :=
  .ret
def g_internal_stringslite_HasSuffix.code : ACode :=
  .seq (.region [0, 1] (some []) none
     [⟨some 4, .mv (.c (.d (.bool false))), [], [], none, none⟩])
  (.seq (.region [4] (some []) none
      (⟨some 5, .mv (.t 0), [], [], none, none⟩ ::
       ⟨some 6, .lenS (.t 5), [], [], none, none⟩ ::
       ⟨some 7, .mv (.t 1), [], [], none, none⟩ ::
       ⟨some 8, .lenS (.t 7), [], [], none, none⟩ ::
       ⟨some 9, .bin .geq (.t 6) (.t 8), [], [], none, none⟩ ::
       ⟨some 10, .mv (.t 9), [], [], none, (some ([0, 1, 10], (some [])))⟩ ::
       g_internal_stringslite_HasSuffix.o0))
   (g_internal_stringslite_HasSuffix.c0))
def g_internal_stringslite_HasSuffix : AFn := { N := 21, res := [.slot 4], own := [], frz := [], code := g_internal_stringslite_HasSuffix.code }

end Pay
