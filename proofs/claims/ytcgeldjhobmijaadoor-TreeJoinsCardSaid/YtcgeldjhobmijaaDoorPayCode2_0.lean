/- The program's functions as abstract code. -/
import Derived.Test.YtcgeldjhobmijaaDoorPayBa1
set_option maxRecDepth 20000
namespace Pay
def g_law08_TreeBlanks.o1 : List AOper :=
  [⟨some 32, .pick (.t 30) (.t 31) (.c (.d (.bool false))), [], [], none, none⟩,
     ⟨some 2, .mv (.t 32), [], [], none, none⟩]
def g_law08_TreeBlanks.o0 : List AOper :=
  (⟨some 31, .call 143 [], [], [], (some (3, 30, true)), (some ([30, 31], (some [])))⟩ ::
     g_law08_TreeBlanks.o1)
def g_law08_TreeBlanks.c0 : ACode :=
  .ret
def g_law08_TreeBlanks.c1 : ACode :=
  .region [0, 6, 33, 34, 35] (some []) none
    [⟨some 39, .mv (.t 6), [], [], none, none⟩,
     ⟨some 40, .faddr 1 (.t 8), [], [], none, none⟩,
     ⟨some 41, .load none (.t 40), [], [], none, none⟩,
     ⟨some 42, .bin .add (.c (.d (.str [32]))) (.t 41), [], [], none, none⟩,
     ⟨some 43, .bin .add (.t 42) (.c (.d (.str [10]))), [], [], none, none⟩,
     ⟨some 44, .bin .add (.t 39) (.t 43), [], [], none, none⟩,
     ⟨some 6, .mv (.t 44), [], [], none, none⟩]
def g_law08_TreeBlanks.c2 : ACode :=
  .region [0, 6, 33, 34, 35] (some []) none
    [⟨some 45, .bin .add (.t 35) (.c (.d (.int .i64 1))), [], [], none, none⟩,
     ⟨some 35, .mv (.t 45), [], [], none, none⟩]
def g_law08_TreeBlanks.l0 : ACode :=
  .loop [0, 6, 33, 34, 35] (some []) (.seq (.region [0, 6, 33, 34, 35, 36] (some []) none
     [⟨some 36, .bin .lss (.t 35) (.t 34), [], [], none, none⟩])
  (.seq (.cond (.t 36) (.skip)
    (.exit 0))
   (.seq (.block 1 [0, 6, 33, 34, 35] (some []) (.seq (.region [0, 6, 8, 33, 34, 35] (some [8]) none
         [⟨some 37, .iaddr 3 (.t 33) (.t 35), [], [], none, none⟩,
          ⟨some 38, .load (some 3) (.t 37), [], [], none, none⟩,
          ⟨some 8, .alloc 8 [.d (.int .i64 0), .d (.str []), .d (.int .i64 0)], [], [], none, none⟩,
          ⟨none, .store 3 (.t 8) (.t 38), [], [], none, none⟩])
      (g_law08_TreeBlanks.c1)))
    (g_law08_TreeBlanks.c2))))
def g_law08_TreeBlanks.a2 : List AOper :=
  [⟨some 58, .mv (.t 11), [], [], none, none⟩,
     ⟨some 59, .mv (.t 14), [], [], none, none⟩,
     ⟨some 60, .bin .eql (.t 58) (.t 59), [], [0, 1], none, none⟩,
     ⟨some 61, .mv (.t 60), [], [2], none, none⟩,
     ⟨some 62, .load (some 2) (.t 9), [], [3], (some (3, 61, true)), none⟩,
     ⟨some 63, .call 146 [(.t 62)], [], [4, 3, 3], (some (3, 61, true)), none⟩,
     ⟨some 64, .load (some 2) (.t 12), [], [3], (some (3, 61, true)), none⟩,
     ⟨some 65, .call 146 [(.t 64)], [], [6, 5, 3], (some (3, 61, true)), none⟩,
     ⟨some 66, .call 147 [(.t 63), (.t 65)], [], [5, 7, 7, 3], (some (3, 61, true)), none⟩,
     ⟨some 67, .pick (.t 61) (.t 66) (.c (.d (.bool false))), [], [3, 8], none, none⟩,
     ⟨some 68, .mv (.t 67), [], [9, 8], none, none⟩,
     ⟨some 69, .call 143 [], [], [10, 10], (some (10, 68, true)), none⟩,
     ⟨some 70, .pick (.t 68) (.t 69) (.c (.d (.bool false))), [], [10, 11], none, none⟩,
     ⟨some 2, .mv (.t 70), [], [12, 11, 0, 1, 2, 3, 4, 5, 6, 7, 8, 9, 10, 11, 12], none, none⟩]
def g_law08_TreeBlanks.i15 : List Nat := 13 :: []
def g_law08_TreeBlanks.i14 : List Nat := 12 :: g_law08_TreeBlanks.i15
def g_law08_TreeBlanks.i13 : List Nat := 11 :: g_law08_TreeBlanks.i14
def g_law08_TreeBlanks.i12 : List Nat := 10 :: g_law08_TreeBlanks.i13
def g_law08_TreeBlanks.i11 : List Nat := 9 :: g_law08_TreeBlanks.i12
def g_law08_TreeBlanks.i10 : List Nat := 8 :: g_law08_TreeBlanks.i11
def g_law08_TreeBlanks.i9 : List Nat := 7 :: g_law08_TreeBlanks.i10
def g_law08_TreeBlanks.i8 : List Nat := 6 :: g_law08_TreeBlanks.i9
def g_law08_TreeBlanks.i7 : List Nat := 5 :: g_law08_TreeBlanks.i8
def g_law08_TreeBlanks.i6 : List Nat := 4 :: g_law08_TreeBlanks.i7
def g_law08_TreeBlanks.i5 : List Nat := 3 :: g_law08_TreeBlanks.i6
def g_law08_TreeBlanks.i4 : List Nat := 2 :: g_law08_TreeBlanks.i5
def g_law08_TreeBlanks.i3 : List Nat := 1 :: g_law08_TreeBlanks.i4
def g_law08_TreeBlanks.c3 : ACode :=
  .ret
def g_law08_TreeBlanks.c4 : ACode :=
  .seq (.region [2] (some []) (some (0 :: g_law08_TreeBlanks.i3, .done)) g_law08_TreeBlanks.a2)
  (g_law08_TreeBlanks.c3)
def g_law08_TreeBlanks.c5 : ACode :=
  .seq (.region [9, 11, 12, 14] (some [9, 12]) none
     [⟨some 53, .mv (.t 6), [], [], none, none⟩,
      ⟨some 54, .call 144 [(.t 53)], [], [], none, none⟩,
      ⟨some 52, .mv (.t 54), [], [], none, none⟩,
      ⟨some 55, .ext (.t 52) 0, [], [], none, none⟩,
      ⟨some 56, .ext (.t 52) 1, [], [], none, none⟩,
      ⟨some 57, .ext (.t 52) 2, [], [], none, none⟩,
      ⟨some 12, .alloc 12 [.cap0, .cap0], [], [], none, none⟩,
      ⟨none, .store 2 (.t 12) (.t 55), [], [], none, none⟩,
      ⟨some 13, .mv (.t 56), [], [], none, none⟩,
      ⟨some 14, .mv (.t 57), [], [], none, none⟩])
  (g_law08_TreeBlanks.c4)
def g_law08_TreeBlanks.c6 : ACode :=
  .seq (.region [6, 9, 11] (some [9]) none
     [⟨some 47, .mv (.t 0), [], [], none, none⟩,
      ⟨some 48, .call 144 [(.t 47)], [], [], none, none⟩,
      ⟨some 46, .mv (.t 48), [], [], none, none⟩,
      ⟨some 49, .ext (.t 46) 0, [], [], none, none⟩,
      ⟨some 50, .ext (.t 46) 1, [], [], none, none⟩,
      ⟨some 51, .ext (.t 46) 2, [], [], none, none⟩,
      ⟨some 9, .alloc 9 [.cap0, .cap0], [], [], none, none⟩,
      ⟨none, .store 2 (.t 9) (.t 49), [], [], none, none⟩,
      ⟨some 10, .mv (.t 50), [], [], none, none⟩,
      ⟨some 11, .mv (.t 51), [], [], none, none⟩])
  (g_law08_TreeBlanks.c5)
def g_law08_TreeBlanks.c7 : ACode :=
  .seq (.region [0, 3, 6] (some []) none
     [⟨some 6, .mv (.c (.d (.str []))), [], [], none, none⟩])
  (.seq (.seq (.region [0, 6, 33, 34, 35] (some []) none
       [⟨some 33, .mv (.t 3), [], [], none, none⟩,
        ⟨some 34, .len (.t 33), [], [], none, none⟩,
        ⟨some 35, .mv (.c (.d (.int .i64 0))), [], [], none, none⟩])
    (.block 0 [0, 6] (some []) (g_law08_TreeBlanks.l0)))
   (g_law08_TreeBlanks.c6))
def g_law08_TreeBlanks.c8 : ACode :=
  .seq (.seq (.region [0, 3, 26] (some []) none
      [⟨some 25, .mv (.t 5), [], [], none, none⟩,
       ⟨some 26, .bin .neq (.t 25) (.c (.d (.int .i64 0))), [], [], none, none⟩])
   (.cond (.t 26) (.seq (.region [2] (some []) none
        (⟨some 27, .mv (.t 3), [], [], none, none⟩ ::
         ⟨some 28, .len (.t 27), [], [], none, none⟩ ::
         ⟨some 29, .bin .eql (.t 28) (.c (.d (.int .i64 0))), [], [], none, none⟩ ::
         ⟨some 30, .mv (.t 29), [], [], none, (some ([30], (some [])))⟩ ::
         g_law08_TreeBlanks.o0))
     (g_law08_TreeBlanks.c0))
    (.skip)))
  (g_law08_TreeBlanks.c7)
def g_law08_TreeBlanks.c9 : ACode :=
  .seq (.region [0, 3, 5] (some []) none
     [⟨some 20, .mv (.t 0), [], [], none, none⟩,
      ⟨some 21, .call 74 [(.t 20)], [], [], none, none⟩,
      ⟨some 19, .mv (.t 21), [], [], none, none⟩,
      ⟨some 22, .ext (.t 19) 0, [], [], none, none⟩,
      ⟨some 23, .ext (.t 19) 1, [], [], none, none⟩,
      ⟨some 24, .ext (.t 19) 2, [], [], none, none⟩,
      ⟨some 3, .mv (.t 22), [], [], none, none⟩,
      ⟨some 4, .mv (.t 23), [], [], none, none⟩,
      ⟨some 5, .mv (.t 24), [], [], none, none⟩])
  (g_law08_TreeBlanks.c8)
def g_law08_TreeBlanks.code : ACode :=
  .seq (.region [0] (some []) none
     [⟨some 2, .mv (.c (.d (.bool false))), [], [], none, none⟩])
  (.seq (.seq (.region [0, 17] (some []) none
       [⟨some 15, .mv (.t 0), [], [], none, none⟩,
        ⟨some 16, .lenS (.t 15), [], [], none, none⟩,
        ⟨some 17, .bin .gtr (.t 16) (.c (.d (.int .i64 500))), [], [], none, none⟩])
    (.cond (.t 17) (.seq (.region [2] (some []) none
         [⟨some 18, .call 143 [], [], [], none, none⟩,
          ⟨some 2, .mv (.t 18), [], [], none, none⟩])
      (.ret))
     (.skip)))
   (g_law08_TreeBlanks.c9))
def g_law08_TreeBlanks : AFn := { N := 71, res := [.slot 2], own := [], frz := [], code := g_law08_TreeBlanks.code }

end Pay
