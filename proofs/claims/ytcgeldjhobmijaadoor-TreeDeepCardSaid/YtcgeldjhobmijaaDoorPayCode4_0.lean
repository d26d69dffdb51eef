/- The program's functions as abstract code. -/
import Derived.Test.YtcgeldjhobmijaaDoorPayBa1
set_option maxRecDepth 20000
namespace Pay
def g_law08_TreeDeep.c0 : ACode :=
  .region [1, 5, 6, 7, 14, 15] (some []) none
    [⟨some 24, .bin .add (.t 15) (.c (.d (.int .i64 1))), [], [], none, none⟩,
     ⟨some 15, .mv (.t 24), [], [], none, none⟩]
def g_law08_TreeDeep.l0 : ACode :=
  .loop [1, 5, 6, 7, 14, 15] (some []) (.seq (.region [1, 5, 6, 7, 14, 15, 16] (some []) none
     [⟨some 16, .bin .lss (.t 15) (.t 14), [], [], none, none⟩])
  (.seq (.cond (.t 16) (.skip)
    (.exit 0))
   (.seq (.block 1 [1, 5, 6, 7, 14, 15] (some []) (.seq (.region [1, 5, 6, 7, 14, 15, 17] (some []) none
         [⟨some 17, .mv (.t 1), [], [], none, none⟩])
      (.cond (.t 17) (.region [1, 5, 6, 7, 14, 15] (some []) none
          [⟨some 18, .mv (.t 6), [], [], none, none⟩,
           ⟨some 19, .bin .add (.t 18) (.c (.d (.str [45]))), [], [], none, none⟩,
           ⟨some 6, .mv (.t 19), [], [], none, none⟩])
       (.seq (.region [1, 5, 6, 7, 14, 15] (some []) none
           [⟨some 20, .mv (.t 6), [], [], none, none⟩,
            ⟨some 21, .bin .add (.t 20) (.c (.d (.str [40]))), [], [], none, none⟩,
            ⟨some 6, .mv (.t 21), [], [], none, none⟩])
        (.region [1, 5, 6, 7, 14, 15] (some []) none
           [⟨some 22, .mv (.t 7), [], [], none, none⟩,
            ⟨some 23, .bin .add (.t 22) (.c (.d (.str [41]))), [], [], none, none⟩,
            ⟨some 7, .mv (.t 23), [], [], none, none⟩])))))
    (g_law08_TreeDeep.c0))))
def g_law08_TreeDeep.o7 : List AOper :=
  [⟨some 59, .pick (.t 57) (.t 58) (.c (.d (.bool false))), [], [], none, none⟩,
     ⟨some 4, .mv (.t 59), [], [], none, none⟩]
def g_law08_TreeDeep.o6 : List AOper :=
  (⟨some 58, .call 143 [], [], [], (some (21, 57, true)), (some ([57, 58], (some [])))⟩ ::
     g_law08_TreeDeep.o7)
def g_law08_TreeDeep.o5 : List AOper :=
  (⟨some 56, .pick (.t 44) (.t 55) (.c (.d (.bool false))), [], [], none, none⟩ ::
     ⟨some 57, .mv (.t 56), [], [], none, (some ([57], (some [])))⟩ ::
     g_law08_TreeDeep.o6)
def g_law08_TreeDeep.o4 : List AOper :=
  (⟨some 54, .pick (.t 51) (.c (.d (.bool true))) (.t 53), [], [], (some (8, 44, true)), none⟩ ::
     ⟨some 55, .beq false (.t 48) (.t 54), [], [], (some (8, 44, true)), (some ([44, 55], (some [])))⟩ ::
     g_law08_TreeDeep.o5)
def g_law08_TreeDeep.o3 : List AOper :=
  (⟨some 52, .mv (.t 5), [], [], (some (15, 51, false)), none⟩ ::
     ⟨some 53, .bin .eql (.t 52) (.c (.d (.int .i64 0))), [], [], (some (15, 51, false)), (some ([44, 48, 51, 53], (some [])))⟩ ::
     g_law08_TreeDeep.o4)
def g_law08_TreeDeep.o2 : List AOper :=
  (⟨some 45, .faddr 1 (.t 8), [], [], (some (8, 44, true)), none⟩ ::
     ⟨some 46, .load none (.t 45), [], [], (some (8, 44, true)), none⟩ ::
     ⟨some 47, .len (.t 46), [], [], (some (8, 44, true)), none⟩ ::
     ⟨some 48, .bin .eql (.t 47) (.c (.d (.int .i64 1))), [], [], (some (8, 44, true)), none⟩ ::
     ⟨some 49, .mv (.t 1), [], [], (some (8, 44, true)), none⟩ ::
     ⟨some 50, .un .not (.t 49), [], [], (some (8, 44, true)), none⟩ ::
     ⟨some 51, .mv (.t 50), [], [], (some (8, 44, true)), (some ([5, 44, 48, 51], (some [])))⟩ ::
     g_law08_TreeDeep.o3)
def g_law08_TreeDeep.o1 : List AOper :=
  (⟨some 43, .pick (.t 38) (.t 42) (.c (.d (.bool false))), [], [], none, none⟩ ::
     ⟨some 44, .mv (.t 43), [], [], none, (some ([1, 5, 8, 44], (some [8])))⟩ ::
     g_law08_TreeDeep.o2)
def g_law08_TreeDeep.o0 : List AOper :=
  (⟨some 39, .faddr 0 (.t 8), [], [], (some (2, 38, true)), none⟩ ::
     ⟨some 40, .load none (.t 39), [], [], (some (2, 38, true)), none⟩ ::
     ⟨some 41, .len (.t 40), [], [], (some (2, 38, true)), none⟩ ::
     ⟨some 42, .bin .eql (.t 41) (.c (.d (.int .i64 1))), [], [], (some (2, 38, true)), (some ([1, 5, 8, 38, 42], (some [8])))⟩ ::
     g_law08_TreeDeep.o1)
def g_law08_TreeDeep.c1 : ACode :=
  .ret
def g_law08_TreeDeep.o13 : List AOper :=
  [⟨some 74, .pick (.t 72) (.t 73) (.c (.d (.bool false))), [], [], none, none⟩,
     ⟨some 4, .mv (.t 74), [], [], none, none⟩]
def g_law08_TreeDeep.o12 : List AOper :=
  (⟨some 73, .call 143 [], [], [], (some (12, 72, true)), (some ([72, 73], (some [])))⟩ ::
     g_law08_TreeDeep.o13)
def g_law08_TreeDeep.o11 : List AOper :=
  (⟨some 71, .pick (.t 66) (.t 70) (.c (.d (.bool false))), [], [], none, none⟩ ::
     ⟨some 72, .mv (.t 71), [], [], none, (some ([72], (some [])))⟩ ::
     g_law08_TreeDeep.o12)
def g_law08_TreeDeep.o10 : List AOper :=
  (⟨some 67, .faddr 0 (.t 8), [], [], (some (6, 66, true)), none⟩ ::
     ⟨some 68, .load none (.t 67), [], [], (some (6, 66, true)), none⟩ ::
     ⟨some 69, .len (.t 68), [], [], (some (6, 66, true)), none⟩ ::
     ⟨some 70, .bin .eql (.t 69) (.c (.d (.int .i64 0))), [], [], (some (6, 66, true)), (some ([66, 70], (some [])))⟩ ::
     g_law08_TreeDeep.o11)
def g_law08_TreeDeep.o9 : List AOper :=
  (⟨some 65, .pick (.t 62) (.t 64) (.c (.d (.bool false))), [], [], none, none⟩ ::
     ⟨some 66, .mv (.t 65), [], [], none, (some ([8, 66], (some [8])))⟩ ::
     g_law08_TreeDeep.o10)
def g_law08_TreeDeep.o8 : List AOper :=
  (⟨some 63, .mv (.t 9), [], [], (some (2, 62, true)), none⟩ ::
     ⟨some 64, .bin .eql (.t 63) (.c (.d (.int .i64 28))), [], [], (some (2, 62, true)), (some ([8, 62, 64], (some [8])))⟩ ::
     g_law08_TreeDeep.o9)
def g_law08_TreeDeep.c2 : ACode :=
  .ret
def g_law08_TreeDeep.c3 : ACode :=
  .seq (.region [4] (some []) none
     (⟨some 60, .mv (.t 10), [], [], none, none⟩ ::
      ⟨some 61, .bin .eql (.t 60) (.c (.d (.int .i64 9))), [], [], none, none⟩ ::
      ⟨some 62, .mv (.t 61), [], [], none, (some ([8, 9, 62], (some [8])))⟩ ::
      g_law08_TreeDeep.o8))
  (g_law08_TreeDeep.c2)
def g_law08_TreeDeep.c4 : ACode :=
  .seq (.seq (.region [1, 5, 8, 9, 10, 35] (some [8]) none
      [⟨some 34, .mv (.t 5), [], [], none, none⟩,
       ⟨some 35, .bin .lss (.t 34) (.c (.d (.int .i64 20))), [], [], none, none⟩])
   (.cond (.t 35) (.seq (.region [4] (some []) none
        (⟨some 36, .mv (.t 10), [], [], none, none⟩ ::
         ⟨some 37, .bin .eql (.t 36) (.c (.d (.int .i64 0))), [], [], none, none⟩ ::
         ⟨some 38, .mv (.t 37), [], [], none, (some ([1, 5, 8, 38], (some [8])))⟩ ::
         g_law08_TreeDeep.o0))
     (g_law08_TreeDeep.c1))
    (.skip)))
  (g_law08_TreeDeep.c3)
def g_law08_TreeDeep.c5 : ACode :=
  .seq (.region [1, 5, 8, 9, 10] (some [8]) none
     [⟨some 26, .mv (.t 6), [], [], none, none⟩,
      ⟨some 27, .mv (.t 7), [], [], none, none⟩,
      ⟨some 28, .bin .add (.t 26) (.t 27), [], [], none, none⟩,
      ⟨some 29, .bin .add (.t 28) (.c (.d (.str [59]))), [], [], none, none⟩,
      ⟨some 30, .call 144 [(.t 29)], [], [], none, none⟩,
      ⟨some 25, .mv (.t 30), [], [], none, none⟩,
      ⟨some 31, .ext (.t 25) 0, [], [], none, none⟩,
      ⟨some 32, .ext (.t 25) 1, [], [], none, none⟩,
      ⟨some 33, .ext (.t 25) 2, [], [], none, none⟩,
      ⟨some 8, .alloc 8 [.cap0, .cap0], [], [], none, none⟩,
      ⟨none, .store 2 (.t 8) (.t 31), [], [], none, none⟩,
      ⟨some 9, .mv (.t 32), [], [], none, none⟩,
      ⟨some 10, .mv (.t 33), [], [], none, none⟩])
  (g_law08_TreeDeep.c4)
def g_law08_TreeDeep.c6 : ACode :=
  .seq (.region [1, 5, 6, 7] (some []) none
     [⟨some 6, .mv (.c (.d (.str [108, 101, 116, 32, 97, 32, 61, 32]))), [], [], none, none⟩,
      ⟨some 7, .mv (.c (.d (.str [49]))), [], [], none, none⟩])
  (.seq (.seq (.region [1, 5, 6, 7, 14, 15] (some []) none
       [⟨some 14, .mv (.t 5), [], [], none, none⟩,
        ⟨some 15, .mv (.c (.d (.int .i64 0))), [], [], none, none⟩])
    (.block 0 [1, 5, 6, 7] (some []) (g_law08_TreeDeep.l0)))
   (g_law08_TreeDeep.c5))
def g_law08_TreeDeep.code : ACode :=
  .seq (.region [0, 1] (some []) none
     [⟨some 4, .mv (.c (.d (.bool false))), [], [], none, none⟩])
  (.seq (.region [1, 5] (some []) none
      [⟨some 11, .mv (.t 0), [], [], none, none⟩,
       ⟨some 12, .bin .rem (.t 11) (.c (.d (.int .u8 40))), [], [], none, none⟩,
       ⟨some 13, .conv .i64 (.t 12), [], [], none, none⟩,
       ⟨some 5, .mv (.t 13), [], [], none, none⟩])
   (g_law08_TreeDeep.c6))
def g_law08_TreeDeep : AFn := { N := 75, res := [.slot 4], own := [], frz := [], code := g_law08_TreeDeep.code }

end Pay
