/- Written by gen.py: the program's functions as abstract code. -/
import Derived.Test.YtbhjjheefdilbaaDoorPayQ
set_option maxRecDepth 20000
namespace Pay
/- paymaster/paymasterlaw01.MoneyTexts: function 48.  -/
def g_law01_MoneyTexts.o7 : List AOper :=
  [⟨some 50, .pick (.t 46) (.c (.d (.bool true))) (.t 49), [], [], none, none⟩]
def g_law01_MoneyTexts.o6 : List AOper :=
  (⟨some 47, .mv (.t 8), [], [], (some (14, 46, false)), none⟩ ::
     ⟨some 48, .mv (.t 10), [], [], (some (14, 46, false)), none⟩ ::
     ⟨some 49, .beq true (.t 47) (.t 48), [], [], (some (14, 46, false)), (some ([0, 5, 6, 46, 49], (some [])))⟩ ::
     g_law01_MoneyTexts.o7)
def g_law01_MoneyTexts.o5 : List AOper :=
  (⟨some 45, .pick (.t 38) (.c (.d (.bool true))) (.t 44), [], [], none, none⟩ ::
     ⟨some 46, .mv (.t 45), [], [], none, (some ([0, 5, 6, 8, 10, 46], (some [])))⟩ ::
     g_law01_MoneyTexts.o6)
def g_law01_MoneyTexts.o4 : List AOper :=
  (⟨some 44, .pick (.t 41) (.t 43) (.c (.d (.bool false))), [], [], (some (6, 38, false)), (some ([0, 5, 6, 8, 10, 38, 44], (some [])))⟩ ::
     g_law01_MoneyTexts.o5)
def g_law01_MoneyTexts.o3 : List AOper :=
  (⟨some 42, .mv (.t 7), [], [], (some (9, 41, true)), none⟩ ::
     ⟨some 43, .bin .neq (.t 42) (.c (.d (.int .i64 0))), [], [], (some (9, 41, true)), (some ([0, 5, 6, 8, 10, 38, 41, 43], (some [])))⟩ ::
     g_law01_MoneyTexts.o4)
def g_law01_MoneyTexts.o2 : List AOper :=
  (⟨some 39, .mv (.t 10), [], [], (some (6, 38, false)), none⟩ ::
     ⟨some 40, .un .not (.t 39), [], [], (some (6, 38, false)), none⟩ ::
     ⟨some 41, .mv (.t 40), [], [], (some (6, 38, false)), (some ([0, 5, 6, 7, 8, 10, 38, 41], (some [])))⟩ ::
     g_law01_MoneyTexts.o3)
def g_law01_MoneyTexts.o1 : List AOper :=
  (⟨some 37, .pick (.t 35) (.t 36) (.c (.d (.bool false))), [], [], none, none⟩ ::
     ⟨some 38, .mv (.t 37), [], [], none, (some ([0, 5, 6, 7, 8, 10, 38], (some [])))⟩ ::
     g_law01_MoneyTexts.o2)
def g_law01_MoneyTexts.o0 : List AOper :=
  (⟨some 36, .mv (.t 10), [], [], (some (3, 35, true)), (some ([0, 5, 6, 7, 8, 10, 35, 36], (some [])))⟩ ::
     g_law01_MoneyTexts.o1)
def g_law01_MoneyTexts.c0 : ACode :=
  .cond (.t 50) (.seq (.region [4] (some []) none
      [⟨some 4, .mv (.c (.d (.bool false))), [], [], none, none⟩])
   (.ret))
  (.skip)
def g_law01_MoneyTexts.o11 : List AOper :=
  [⟨some 62, .pick (.t 60) (.t 61) (.c (.d (.bool false))), [], [], none, none⟩,
     ⟨some 4, .mv (.t 62), [], [], none, none⟩]
def g_law01_MoneyTexts.o10 : List AOper :=
  (⟨some 61, .call 49 [], [], [], (some (6, 60, true)), (some ([60, 61], (some [])))⟩ ::
     g_law01_MoneyTexts.o11)
def g_law01_MoneyTexts.o9 : List AOper :=
  (⟨some 59, .pick (.t 56) (.t 58) (.c (.d (.bool false))), [], [], none, none⟩ ::
     ⟨some 60, .mv (.t 59), [], [], none, (some ([60], (some [])))⟩ ::
     g_law01_MoneyTexts.o10)
def g_law01_MoneyTexts.o8 : List AOper :=
  (⟨some 57, .mv (.t 6), [], [], (some (2, 56, true)), none⟩ ::
     ⟨some 58, .bin .eql (.t 57) (.c (.d (.int .i64 3))), [], [], (some (2, 56, true)), (some ([56, 58], (some [])))⟩ ::
     g_law01_MoneyTexts.o9)
def g_law01_MoneyTexts.c1 : ACode :=
  .ret
def g_law01_MoneyTexts.o19 : List AOper :=
  [⟨some 86, .pick (.t 84) (.t 85) (.c (.d (.bool false))), [], [], none, none⟩,
     ⟨some 4, .mv (.t 86), [], [], none, none⟩]
def g_law01_MoneyTexts.o18 : List AOper :=
  (⟨some 85, .call 49 [], [], [], (some (16, 84, true)), (some ([84, 85], (some [])))⟩ ::
     g_law01_MoneyTexts.o19)
def g_law01_MoneyTexts.o17 : List AOper :=
  (⟨some 83, .pick (.t 81) (.t 82) (.c (.d (.bool false))), [], [], none, none⟩ ::
     ⟨some 84, .mv (.t 83), [], [], none, (some ([84], (some [])))⟩ ::
     g_law01_MoneyTexts.o18)
def g_law01_MoneyTexts.o16 : List AOper :=
  (⟨some 82, .mv (.t 12), [], [], (some (13, 81, true)), (some ([81, 82], (some [])))⟩ ::
     g_law01_MoneyTexts.o17)
def g_law01_MoneyTexts.o15 : List AOper :=
  (⟨some 80, .pick (.t 76) (.t 79) (.c (.d (.bool false))), [], [], none, none⟩ ::
     ⟨some 81, .mv (.t 80), [], [], none, (some ([12, 81], (some [])))⟩ ::
     g_law01_MoneyTexts.o16)
def g_law01_MoneyTexts.o14 : List AOper :=
  (⟨some 77, .mv (.t 11), [], [], (some (8, 76, true)), none⟩ ::
     ⟨some 78, .mv (.t 0), [], [], (some (8, 76, true)), none⟩ ::
     ⟨some 79, .bin .eql (.t 77) (.t 78), [], [], (some (8, 76, true)), (some ([12, 76, 79], (some [])))⟩ ::
     g_law01_MoneyTexts.o15)
def g_law01_MoneyTexts.o13 : List AOper :=
  (⟨some 75, .pick (.t 72) (.t 74) (.c (.d (.bool false))), [], [], none, none⟩ ::
     ⟨some 76, .mv (.t 75), [], [], none, (some ([0, 11, 12, 76], (some [])))⟩ ::
     g_law01_MoneyTexts.o14)
def g_law01_MoneyTexts.o12 : List AOper :=
  (⟨some 73, .mv (.t 6), [], [], (some (4, 72, true)), none⟩ ::
     ⟨some 74, .bin .eql (.t 73) (.c (.d (.int .i64 0))), [], [], (some (4, 72, true)), (some ([0, 11, 12, 72, 74], (some [])))⟩ ::
     g_law01_MoneyTexts.o13)
def g_law01_MoneyTexts.c2 : ACode :=
  .ret
def g_law01_MoneyTexts.c3 : ACode :=
  .seq (.region [4] (some []) none
     (⟨some 68, .mv (.t 5), [], [], none, none⟩ ::
      ⟨some 69, .mv (.t 0), [], [], none, none⟩ ::
      ⟨some 70, .call 54 [(.t 69)], [], [], none, none⟩ ::
      ⟨some 71, .bin .eql (.t 68) (.t 70), [], [], none, none⟩ ::
      ⟨some 72, .mv (.t 71), [], [], none, (some ([0, 6, 11, 12, 72], (some [])))⟩ ::
      g_law01_MoneyTexts.o12))
  (g_law01_MoneyTexts.c2)
def g_law01_MoneyTexts.c4 : ACode :=
  .seq (.region [0, 5, 6, 11, 12] (some []) none
     [⟨some 64, .mv (.t 5), [], [], none, none⟩,
      ⟨some 65, .call 51 [(.t 64)], [], [], none, none⟩,
      ⟨some 63, .mv (.t 65), [], [], none, none⟩,
      ⟨some 66, .ext (.t 63) 0, [], [], none, none⟩,
      ⟨some 67, .ext (.t 63) 1, [], [], none, none⟩,
      ⟨some 11, .mv (.t 66), [], [], none, none⟩,
      ⟨some 12, .mv (.t 67), [], [], none, none⟩])
  (g_law01_MoneyTexts.c3)
def g_law01_MoneyTexts.c5 : ACode :=
  .seq (.seq (.region [0, 5, 6, 53] (some []) none
      [⟨some 51, .mv (.t 0), [], [], none, none⟩,
       ⟨some 52, .call 53 [(.t 51)], [], [], none, none⟩,
       ⟨some 53, .un .not (.t 52), [], [], none, none⟩])
   (.cond (.t 53) (.seq (.region [4] (some []) none
        (⟨some 54, .mv (.t 5), [], [], none, none⟩ ::
         ⟨some 55, .bin .eql (.t 54) (.c (.d (.str []))), [], [], none, none⟩ ::
         ⟨some 56, .mv (.t 55), [], [], none, (some ([6, 56], (some [])))⟩ ::
         g_law01_MoneyTexts.o8))
     (g_law01_MoneyTexts.c1))
    (.skip)))
  (g_law01_MoneyTexts.c4)
def g_law01_MoneyTexts.c6 : ACode :=
  .seq (.seq (.region [0, 5, 6, 50] (some []) none
      (⟨some 32, .mv (.t 7), [], [], none, none⟩ ::
       ⟨some 33, .mv (.t 9), [], [], none, none⟩ ::
       ⟨some 34, .bin .neq (.t 32) (.t 33), [], [], none, none⟩ ::
       ⟨some 35, .mv (.t 34), [], [], none, (some ([0, 5, 6, 7, 8, 10, 35], (some [])))⟩ ::
       g_law01_MoneyTexts.o0))
   (g_law01_MoneyTexts.c0))
  (g_law01_MoneyTexts.c5)
def g_law01_MoneyTexts.c7 : ACode :=
  .seq (.region [0, 5, 6, 7, 8, 9, 10] (some []) none
     [⟨some 28, .mv (.t 1), [], [], none, none⟩,
      ⟨some 29, .call 52 [(.t 28)], [], [], none, none⟩,
      ⟨some 27, .mv (.t 29), [], [], none, none⟩,
      ⟨some 30, .ext (.t 27) 0, [], [], none, none⟩,
      ⟨some 31, .ext (.t 27) 1, [], [], none, none⟩,
      ⟨some 9, .mv (.t 30), [], [], none, none⟩,
      ⟨some 10, .mv (.t 31), [], [], none, none⟩])
  (g_law01_MoneyTexts.c6)
def g_law01_MoneyTexts.c8 : ACode :=
  .seq (.region [0, 1, 5, 6, 7, 8] (some []) none
     [⟨some 23, .mv (.t 1), [], [], none, none⟩,
      ⟨some 24, .call 51 [(.t 23)], [], [], none, none⟩,
      ⟨some 22, .mv (.t 24), [], [], none, none⟩,
      ⟨some 25, .ext (.t 22) 0, [], [], none, none⟩,
      ⟨some 26, .ext (.t 22) 1, [], [], none, none⟩,
      ⟨some 7, .mv (.t 25), [], [], none, none⟩,
      ⟨some 8, .mv (.t 26), [], [], none, none⟩])
  (g_law01_MoneyTexts.c7)
def g_law01_MoneyTexts.c9 : ACode :=
  .seq (.region [0, 1, 5, 6] (some []) none
     [⟨some 18, .mv (.t 0), [], [], none, none⟩,
      ⟨some 19, .call 50 [(.t 18)], [], [], none, none⟩,
      ⟨some 17, .mv (.t 19), [], [], none, none⟩,
      ⟨some 20, .ext (.t 17) 0, [], [], none, none⟩,
      ⟨some 21, .ext (.t 17) 1, [], [], none, none⟩,
      ⟨some 5, .mv (.t 20), [], [], none, none⟩,
      ⟨some 6, .mv (.t 21), [], [], none, none⟩])
  (g_law01_MoneyTexts.c8)
def g_law01_MoneyTexts.code : ACode :=
  .seq (.region [0, 1] (some []) none
     [⟨some 4, .mv (.c (.d (.bool false))), [], [], none, none⟩])
  (.seq (.seq (.region [0, 1, 15] (some []) none
       [⟨some 13, .mv (.t 1), [], [], none, none⟩,
        ⟨some 14, .lenS (.t 13), [], [], none, none⟩,
        ⟨some 15, .bin .gtr (.t 14) (.c (.d (.int .i64 60))), [], [], none, none⟩])
    (.cond (.t 15) (.seq (.region [4] (some []) none
         [⟨some 16, .call 49 [], [], [], none, none⟩,
          ⟨some 4, .mv (.t 16), [], [], none, none⟩])
      (.ret))
     (.skip)))
   (g_law01_MoneyTexts.c9))
def g_law01_MoneyTexts : AFn := { N := 87, res := [.slot 4], own := [], frz := [], code := g_law01_MoneyTexts.code }

/- paymaster/paymasterlaw01.MoneyPlaces: function 55.  -/
def g_law01_MoneyPlaces.o9 : List AOper :=
  [⟨some 55, .pick (.t 51) (.c (.d (.bool true))) (.t 54), [], [], none, none⟩]
def g_law01_MoneyPlaces.o8 : List AOper :=
  (⟨some 52, .mv (.t 6), [], [], (some (21, 51, false)), none⟩ ::
     ⟨some 53, .lenS (.t 52), [], [], (some (21, 51, false)), none⟩ ::
     ⟨some 54, .bin .lss (.t 53) (.c (.d (.int .i64 4))), [], [], (some (21, 51, false)), (some ([3, 4, 51, 54], (some [])))⟩ ::
     g_law01_MoneyPlaces.o9)
def g_law01_MoneyPlaces.o7 : List AOper :=
  (⟨some 50, .pick (.t 46) (.c (.d (.bool true))) (.t 49), [], [], none, none⟩ ::
     ⟨some 51, .mv (.t 50), [], [], none, (some ([3, 4, 6, 51], (some [])))⟩ ::
     g_law01_MoneyPlaces.o8)
def g_law01_MoneyPlaces.o6 : List AOper :=
  (⟨some 47, .mv (.t 4), [], [], (some (16, 46, false)), none⟩ ::
     ⟨some 48, .lenS (.t 47), [], [], (some (16, 46, false)), none⟩ ::
     ⟨some 49, .bin .lss (.t 48) (.c (.d (.int .i64 4))), [], [], (some (16, 46, false)), (some ([3, 4, 6, 46, 49], (some [])))⟩ ::
     g_law01_MoneyPlaces.o7)
def g_law01_MoneyPlaces.o5 : List AOper :=
  (⟨some 45, .pick (.t 40) (.c (.d (.bool true))) (.t 44), [], [], none, none⟩ ::
     ⟨some 46, .mv (.t 45), [], [], none, (some ([3, 4, 6, 46], (some [])))⟩ ::
     g_law01_MoneyPlaces.o6)
def g_law01_MoneyPlaces.o4 : List AOper :=
  (⟨some 41, .mv (.t 8), [], [], (some (10, 40, false)), none⟩ ::
     ⟨some 42, .mv (.t 3), [], [], (some (10, 40, false)), none⟩ ::
     ⟨some 43, .bin .mul (.c (.d (.int .i64 100))) (.t 42), [], [], (some (10, 40, false)), none⟩ ::
     ⟨some 44, .bin .neq (.t 41) (.t 43), [], [], (some (10, 40, false)), (some ([3, 4, 6, 40, 44], (some [])))⟩ ::
     g_law01_MoneyPlaces.o5)
def g_law01_MoneyPlaces.o3 : List AOper :=
  (⟨some 39, .pick (.t 36) (.c (.d (.bool true))) (.t 38), [], [], none, none⟩ ::
     ⟨some 40, .mv (.t 39), [], [], none, (some ([3, 4, 6, 8, 40], (some [])))⟩ ::
     g_law01_MoneyPlaces.o4)
def g_law01_MoneyPlaces.o2 : List AOper :=
  (⟨some 37, .mv (.t 9), [], [], (some (6, 36, false)), none⟩ ::
     ⟨some 38, .un .not (.t 37), [], [], (some (6, 36, false)), (some ([3, 4, 6, 8, 36, 38], (some [])))⟩ ::
     g_law01_MoneyPlaces.o3)
def g_law01_MoneyPlaces.o1 : List AOper :=
  (⟨some 35, .pick (.t 32) (.c (.d (.bool true))) (.t 34), [], [], none, none⟩ ::
     ⟨some 36, .mv (.t 35), [], [], none, (some ([3, 4, 6, 8, 9, 36], (some [])))⟩ ::
     g_law01_MoneyPlaces.o2)
def g_law01_MoneyPlaces.o0 : List AOper :=
  (⟨some 33, .mv (.t 7), [], [], (some (2, 32, false)), none⟩ ::
     ⟨some 34, .bin .neq (.t 33) (.c (.d (.int .i64 0))), [], [], (some (2, 32, false)), (some ([3, 4, 6, 8, 9, 32, 34], (some [])))⟩ ::
     g_law01_MoneyPlaces.o1)
def g_law01_MoneyPlaces.c0 : ACode :=
  .cond (.t 55) (.seq (.region [2] (some []) none
      [⟨some 2, .mv (.c (.d (.bool false))), [], [], none, none⟩])
   (.ret))
  (.skip)
def g_law01_MoneyPlaces.o15 : List AOper :=
  [⟨some 86, .pick (.t 84) (.t 85) (.c (.d (.bool false))), [], [], none, none⟩,
     ⟨some 2, .mv (.t 86), [], [], none, none⟩]
def g_law01_MoneyPlaces.o14 : List AOper :=
  (⟨some 85, .call 49 [], [], [], (some (16, 84, true)), (some ([84, 85], (some [])))⟩ ::
     g_law01_MoneyPlaces.o15)
def g_law01_MoneyPlaces.o13 : List AOper :=
  (⟨some 83, .pick (.t 77) (.t 82) (.c (.d (.bool false))), [], [], none, none⟩ ::
     ⟨some 84, .mv (.t 83), [], [], none, (some ([84], (some [])))⟩ ::
     g_law01_MoneyPlaces.o14)
def g_law01_MoneyPlaces.o12 : List AOper :=
  (⟨some 78, .mv (.t 10), [], [], (some (9, 77, true)), none⟩ ::
     ⟨some 79, .mv (.t 3), [], [], (some (9, 77, true)), none⟩ ::
     ⟨some 80, .bin .mul (.c (.d (.int .i64 100))) (.t 79), [], [], (some (9, 77, true)), none⟩ ::
     ⟨some 81, .bin .add (.t 80) (.c (.d (.int .i64 99))), [], [], (some (9, 77, true)), none⟩ ::
     ⟨some 82, .bin .eql (.t 78) (.t 81), [], [], (some (9, 77, true)), (some ([77, 82], (some [])))⟩ ::
     g_law01_MoneyPlaces.o13)
def g_law01_MoneyPlaces.o11 : List AOper :=
  (⟨some 76, .pick (.t 74) (.t 75) (.c (.d (.bool false))), [], [], none, none⟩ ::
     ⟨some 77, .mv (.t 76), [], [], none, (some ([3, 10, 77], (some [])))⟩ ::
     g_law01_MoneyPlaces.o12)
def g_law01_MoneyPlaces.o10 : List AOper :=
  (⟨some 75, .mv (.t 11), [], [], (some (6, 74, true)), (some ([3, 10, 74, 75], (some [])))⟩ ::
     g_law01_MoneyPlaces.o11)
def g_law01_MoneyPlaces.c1 : ACode :=
  .ret
def g_law01_MoneyPlaces.o21 : List AOper :=
  [⟨some 105, .pick (.t 103) (.t 104) (.c (.d (.bool false))), [], [], none, none⟩,
     ⟨some 2, .mv (.t 105), [], [], none, none⟩]
def g_law01_MoneyPlaces.o20 : List AOper :=
  (⟨some 104, .call 49 [], [], [], (some (16, 103, true)), (some ([103, 104], (some [])))⟩ ::
     g_law01_MoneyPlaces.o21)
def g_law01_MoneyPlaces.o19 : List AOper :=
  (⟨some 102, .pick (.t 96) (.t 101) (.c (.d (.bool false))), [], [], none, none⟩ ::
     ⟨some 103, .mv (.t 102), [], [], none, (some ([103], (some [])))⟩ ::
     g_law01_MoneyPlaces.o20)
def g_law01_MoneyPlaces.o18 : List AOper :=
  (⟨some 97, .mv (.t 10), [], [], (some (9, 96, true)), none⟩ ::
     ⟨some 98, .mv (.t 3), [], [], (some (9, 96, true)), none⟩ ::
     ⟨some 99, .bin .mul (.c (.d (.int .i64 100))) (.t 98), [], [], (some (9, 96, true)), none⟩ ::
     ⟨some 100, .bin .sub (.t 99) (.c (.d (.int .i64 99))), [], [], (some (9, 96, true)), none⟩ ::
     ⟨some 101, .bin .eql (.t 97) (.t 100), [], [], (some (9, 96, true)), (some ([96, 101], (some [])))⟩ ::
     g_law01_MoneyPlaces.o19)
def g_law01_MoneyPlaces.o17 : List AOper :=
  (⟨some 95, .pick (.t 93) (.t 94) (.c (.d (.bool false))), [], [], none, none⟩ ::
     ⟨some 96, .mv (.t 95), [], [], none, (some ([3, 10, 96], (some [])))⟩ ::
     g_law01_MoneyPlaces.o18)
def g_law01_MoneyPlaces.o16 : List AOper :=
  (⟨some 94, .mv (.t 11), [], [], (some (6, 93, true)), (some ([3, 10, 93, 94], (some [])))⟩ ::
     g_law01_MoneyPlaces.o17)
def g_law01_MoneyPlaces.c2 : ACode :=
  .ret
def g_law01_MoneyPlaces.c3 : ACode :=
  .seq (.region [2] (some []) none
     (⟨some 87, .mv (.t 4), [], [], none, none⟩ ::
      ⟨some 88, .mv (.t 4), [], [], none, none⟩ ::
      ⟨some 89, .lenS (.t 88), [], [], none, none⟩ ::
      ⟨some 90, .bin .sub (.t 89) (.c (.d (.int .i64 3))), [], [], none, none⟩ ::
      ⟨some 91, .slcS (.t 87) (some (.t 90)) none, [], [], none, none⟩ ::
      ⟨some 92, .bin .eql (.t 91) (.c (.d (.str [46, 48, 48]))), [], [], none, none⟩ ::
      ⟨some 93, .mv (.t 92), [], [], none, (some ([3, 10, 11, 93], (some [])))⟩ ::
      g_law01_MoneyPlaces.o16))
  (g_law01_MoneyPlaces.c2)
def g_law01_MoneyPlaces.c4 : ACode :=
  .seq (.seq (.region [3, 4, 10, 11, 67] (some []) none
      [⟨some 66, .mv (.t 3), [], [], none, none⟩,
       ⟨some 67, .bin .geq (.t 66) (.c (.d (.int .i64 0))), [], [], none, none⟩])
   (.cond (.t 67) (.seq (.region [2] (some []) none
        (⟨some 68, .mv (.t 4), [], [], none, none⟩ ::
         ⟨some 69, .mv (.t 4), [], [], none, none⟩ ::
         ⟨some 70, .lenS (.t 69), [], [], none, none⟩ ::
         ⟨some 71, .bin .sub (.t 70) (.c (.d (.int .i64 3))), [], [], none, none⟩ ::
         ⟨some 72, .slcS (.t 68) (some (.t 71)) none, [], [], none, none⟩ ::
         ⟨some 73, .bin .eql (.t 72) (.c (.d (.str [46, 48, 48]))), [], [], none, none⟩ ::
         ⟨some 74, .mv (.t 73), [], [], none, (some ([3, 10, 11, 74], (some [])))⟩ ::
         g_law01_MoneyPlaces.o10))
     (g_law01_MoneyPlaces.c1))
    (.skip)))
  (g_law01_MoneyPlaces.c3)
def g_law01_MoneyPlaces.c5 : ACode :=
  .seq (.region [3, 4, 10, 11] (some []) none
     [⟨some 57, .mv (.t 4), [], [], none, none⟩,
      ⟨some 58, .mv (.t 4), [], [], none, none⟩,
      ⟨some 59, .lenS (.t 58), [], [], none, none⟩,
      ⟨some 60, .bin .sub (.t 59) (.c (.d (.int .i64 3))), [], [], none, none⟩,
      ⟨some 61, .slcS (.t 57) none (some (.t 60)), [], [], none, none⟩,
      ⟨some 62, .bin .add (.t 61) (.c (.d (.str [46, 57, 57]))), [], [], none, none⟩,
      ⟨some 63, .call 51 [(.t 62)], [], [], none, none⟩,
      ⟨some 56, .mv (.t 63), [], [], none, none⟩,
      ⟨some 64, .ext (.t 56) 0, [], [], none, none⟩,
      ⟨some 65, .ext (.t 56) 1, [], [], none, none⟩,
      ⟨some 10, .mv (.t 64), [], [], none, none⟩,
      ⟨some 11, .mv (.t 65), [], [], none, none⟩])
  (g_law01_MoneyPlaces.c4)
def g_law01_MoneyPlaces.c6 : ACode :=
  .seq (.seq (.region [3, 4, 55] (some []) none
      (⟨some 30, .mv (.t 5), [], [], none, none⟩ ::
       ⟨some 31, .bin .neq (.t 30) (.c (.d (.int .i64 0))), [], [], none, none⟩ ::
       ⟨some 32, .mv (.t 31), [], [], none, (some ([3, 4, 6, 7, 8, 9, 32], (some [])))⟩ ::
       g_law01_MoneyPlaces.o0))
   (g_law01_MoneyPlaces.c0))
  (g_law01_MoneyPlaces.c5)
def g_law01_MoneyPlaces.c7 : ACode :=
  .seq (.region [3, 4, 5, 6, 7, 8, 9] (some []) none
     [⟨some 26, .mv (.t 4), [], [], none, none⟩,
      ⟨some 27, .call 51 [(.t 26)], [], [], none, none⟩,
      ⟨some 25, .mv (.t 27), [], [], none, none⟩,
      ⟨some 28, .ext (.t 25) 0, [], [], none, none⟩,
      ⟨some 29, .ext (.t 25) 1, [], [], none, none⟩,
      ⟨some 8, .mv (.t 28), [], [], none, none⟩,
      ⟨some 9, .mv (.t 29), [], [], none, none⟩])
  (g_law01_MoneyPlaces.c6)
def g_law01_MoneyPlaces.c8 : ACode :=
  .seq (.region [3, 4, 5, 6, 7] (some []) none
     [⟨some 21, .mv (.t 3), [], [], none, none⟩,
      ⟨some 22, .call 50 [(.t 21)], [], [], none, none⟩,
      ⟨some 20, .mv (.t 22), [], [], none, none⟩,
      ⟨some 23, .ext (.t 20) 0, [], [], none, none⟩,
      ⟨some 24, .ext (.t 20) 1, [], [], none, none⟩,
      ⟨some 6, .mv (.t 23), [], [], none, none⟩,
      ⟨some 7, .mv (.t 24), [], [], none, none⟩])
  (g_law01_MoneyPlaces.c7)
def g_law01_MoneyPlaces.code : ACode :=
  .seq (.region [0] (some []) none
     [⟨some 2, .mv (.c (.d (.bool false))), [], [], none, none⟩])
  (.seq (.region [3] (some []) none
      [⟨some 12, .mv (.t 0), [], [], none, none⟩,
       ⟨some 13, .bin .rem (.t 12) (.c (.d (.int .i64 1125899906842624))), [], [], none, none⟩,
       ⟨some 3, .mv (.t 13), [], [], none, none⟩])
   (.seq (.region [3, 4, 5] (some []) none
       [⟨some 15, .mv (.t 3), [], [], none, none⟩,
        ⟨some 16, .bin .mul (.c (.d (.int .i64 100))) (.t 15), [], [], none, none⟩,
        ⟨some 17, .call 50 [(.t 16)], [], [], none, none⟩,
        ⟨some 14, .mv (.t 17), [], [], none, none⟩,
        ⟨some 18, .ext (.t 14) 0, [], [], none, none⟩,
        ⟨some 19, .ext (.t 14) 1, [], [], none, none⟩,
        ⟨some 4, .mv (.t 18), [], [], none, none⟩,
        ⟨some 5, .mv (.t 19), [], [], none, none⟩])
    (g_law01_MoneyPlaces.c8)))
def g_law01_MoneyPlaces : AFn := { N := 106, res := [.slot 2], own := [], frz := [], code := g_law01_MoneyPlaces.code }

/- paymaster/paymasterlaw01.MoneySigns: function 56.  -/
def g_law01_MoneySigns.o3 : List AOper :=
  [⟨some 35, .pick (.t 33) (.t 34) (.c (.d (.bool false))), [], [], none, none⟩,
     ⟨some 2, .mv (.t 35), [], [], none, none⟩]
def g_law01_MoneySigns.o2 : List AOper :=
  (⟨some 34, .call 49 [], [], [], (some (7, 33, true)), (some ([33, 34], (some [])))⟩ ::
     g_law01_MoneySigns.o3)
def g_law01_MoneySigns.o1 : List AOper :=
  (⟨some 32, .pick (.t 29) (.t 31) (.c (.d (.bool false))), [], [], none, none⟩ ::
     ⟨some 33, .mv (.t 32), [], [], none, (some ([33], (some [])))⟩ ::
     g_law01_MoneySigns.o2)
def g_law01_MoneySigns.o0 : List AOper :=
  (⟨some 30, .mv (.t 8), [], [], (some (3, 29, true)), none⟩ ::
     ⟨some 31, .bin .eql (.t 30) (.c (.d (.int .i64 3))), [], [], (some (3, 29, true)), (some ([29, 31], (some [])))⟩ ::
     g_law01_MoneySigns.o1)
def g_law01_MoneySigns.c0 : ACode :=
  .ret
def g_law01_MoneySigns.o15 : List AOper :=
  [⟨some 70, .pick (.t 68) (.t 69) (.c (.d (.bool false))), [], [], none, none⟩,
     ⟨some 2, .mv (.t 70), [], [], none, none⟩]
def g_law01_MoneySigns.o14 : List AOper :=
  (⟨some 69, .call 49 [], [], [], (some (32, 68, true)), (some ([68, 69], (some [])))⟩ ::
     g_law01_MoneySigns.o15)
def g_law01_MoneySigns.o13 : List AOper :=
  (⟨some 67, .pick (.t 60) (.t 66) (.c (.d (.bool false))), [], [], none, none⟩ ::
     ⟨some 68, .mv (.t 67), [], [], none, (some ([68], (some [])))⟩ ::
     g_law01_MoneySigns.o14)
def g_law01_MoneySigns.o12 : List AOper :=
  (⟨some 61, .mv (.t 7), [], [], (some (24, 60, true)), none⟩ ::
     ⟨some 62, .idx (.t 61) (.c (.d (.int .i64 0))), [], [], (some (24, 60, true)), none⟩ ::
     ⟨some 63, .bin .eql (.t 62) (.c (.d (.int .u8 45))), [], [], (some (24, 60, true)), none⟩ ::
     ⟨some 64, .mv (.t 0), [], [], (some (24, 60, true)), none⟩ ::
     ⟨some 65, .bin .lss (.t 64) (.c (.d (.int .i64 0))), [], [], (some (24, 60, true)), none⟩ ::
     ⟨some 66, .beq false (.t 63) (.t 65), [], [], (some (24, 60, true)), (some ([60, 66], (some [])))⟩ ::
     g_law01_MoneySigns.o13)
def g_law01_MoneySigns.o11 : List AOper :=
  (⟨some 59, .pick (.t 52) (.t 58) (.c (.d (.bool false))), [], [], none, none⟩ ::
     ⟨some 60, .mv (.t 59), [], [], none, (some ([0, 7, 60], (some [])))⟩ ::
     g_law01_MoneySigns.o12)
def g_law01_MoneySigns.o10 : List AOper :=
  (⟨some 53, .mv (.t 7), [], [], (some (16, 52, true)), none⟩ ::
     ⟨some 54, .mv (.t 7), [], [], (some (16, 52, true)), none⟩ ::
     ⟨some 55, .lenS (.t 54), [], [], (some (16, 52, true)), none⟩ ::
     ⟨some 56, .bin .sub (.t 55) (.c (.d (.int .i64 3))), [], [], (some (16, 52, true)), none⟩ ::
     ⟨some 57, .idx (.t 53) (.t 56), [], [], (some (16, 52, true)), none⟩ ::
     ⟨some 58, .bin .eql (.t 57) (.c (.d (.int .u8 46))), [], [], (some (16, 52, true)), (some ([0, 7, 52, 58], (some [])))⟩ ::
     g_law01_MoneySigns.o11)
def g_law01_MoneySigns.o9 : List AOper :=
  (⟨some 51, .pick (.t 47) (.t 50) (.c (.d (.bool false))), [], [], none, none⟩ ::
     ⟨some 52, .mv (.t 51), [], [], none, (some ([0, 7, 52], (some [])))⟩ ::
     g_law01_MoneySigns.o10)
def g_law01_MoneySigns.o8 : List AOper :=
  (⟨some 48, .mv (.t 7), [], [], (some (11, 47, true)), none⟩ ::
     ⟨some 49, .lenS (.t 48), [], [], (some (11, 47, true)), none⟩ ::
     ⟨some 50, .bin .geq (.t 49) (.c (.d (.int .i64 4))), [], [], (some (11, 47, true)), (some ([0, 7, 47, 50], (some [])))⟩ ::
     g_law01_MoneySigns.o9)
def g_law01_MoneySigns.o7 : List AOper :=
  (⟨some 46, .pick (.t 43) (.t 45) (.c (.d (.bool false))), [], [], none, none⟩ ::
     ⟨some 47, .mv (.t 46), [], [], none, (some ([0, 7, 47], (some [])))⟩ ::
     g_law01_MoneySigns.o8)
def g_law01_MoneySigns.o6 : List AOper :=
  (⟨some 44, .mv (.t 8), [], [], (some (7, 43, true)), none⟩ ::
     ⟨some 45, .bin .eql (.t 44) (.c (.d (.int .i64 0))), [], [], (some (7, 43, true)), (some ([0, 7, 43, 45], (some [])))⟩ ::
     g_law01_MoneySigns.o7)
def g_law01_MoneySigns.o5 : List AOper :=
  (⟨some 42, .pick (.t 39) (.t 41) (.c (.d (.bool false))), [], [], none, none⟩ ::
     ⟨some 43, .mv (.t 42), [], [], none, (some ([0, 7, 8, 43], (some [])))⟩ ::
     g_law01_MoneySigns.o6)
def g_law01_MoneySigns.o4 : List AOper :=
  (⟨some 40, .mv (.t 6), [], [], (some (3, 39, true)), none⟩ ::
     ⟨some 41, .bin .eql (.t 40) (.c (.d (.int .i64 0))), [], [], (some (3, 39, true)), (some ([0, 7, 8, 39, 41], (some [])))⟩ ::
     g_law01_MoneySigns.o5)
def g_law01_MoneySigns.c1 : ACode :=
  .ret
def g_law01_MoneySigns.c2 : ACode :=
  .seq (.region [2] (some []) none
     (⟨some 36, .mv (.t 5), [], [], none, none⟩ ::
      ⟨some 37, .mv (.t 0), [], [], none, none⟩ ::
      ⟨some 38, .bin .eql (.t 36) (.t 37), [], [], none, none⟩ ::
      ⟨some 39, .mv (.t 38), [], [], none, (some ([0, 6, 7, 8, 39], (some [])))⟩ ::
      g_law01_MoneySigns.o4))
  (g_law01_MoneySigns.c1)
def g_law01_MoneySigns.c3 : ACode :=
  .seq (.seq (.region [0, 5, 6, 7, 8, 25] (some []) none
      [⟨some 24, .mv (.t 4), [], [], none, none⟩,
       ⟨some 25, .bin .neq (.t 24) (.c (.d (.int .i64 0))), [], [], none, none⟩])
   (.cond (.t 25) (.seq (.region [2] (some []) none
        (⟨some 26, .mv (.t 0), [], [], none, none⟩ ::
         ⟨some 27, .call 58 [(.t 26)], [], [], none, none⟩ ::
         ⟨some 28, .un .not (.t 27), [], [], none, none⟩ ::
         ⟨some 29, .mv (.t 28), [], [], none, (some ([8, 29], (some [])))⟩ ::
         g_law01_MoneySigns.o0))
     (g_law01_MoneySigns.c0))
    (.skip)))
  (g_law01_MoneySigns.c2)
def g_law01_MoneySigns.c4 : ACode :=
  .seq (.region [0, 4, 5, 6, 7, 8] (some []) none
     [⟨some 20, .mv (.t 0), [], [], none, none⟩,
      ⟨some 21, .call 50 [(.t 20)], [], [], none, none⟩,
      ⟨some 19, .mv (.t 21), [], [], none, none⟩,
      ⟨some 22, .ext (.t 19) 0, [], [], none, none⟩,
      ⟨some 23, .ext (.t 19) 1, [], [], none, none⟩,
      ⟨some 7, .mv (.t 22), [], [], none, none⟩,
      ⟨some 8, .mv (.t 23), [], [], none, none⟩])
  (g_law01_MoneySigns.c3)
def g_law01_MoneySigns.c5 : ACode :=
  .seq (.region [0, 4, 5, 6] (some []) none
     [⟨some 15, .mv (.t 3), [], [], none, none⟩,
      ⟨some 16, .call 57 [(.t 15)], [], [], none, none⟩,
      ⟨some 14, .mv (.t 16), [], [], none, none⟩,
      ⟨some 17, .ext (.t 14) 0, [], [], none, none⟩,
      ⟨some 18, .ext (.t 14) 1, [], [], none, none⟩,
      ⟨some 5, .mv (.t 17), [], [], none, none⟩,
      ⟨some 6, .mv (.t 18), [], [], none, none⟩])
  (g_law01_MoneySigns.c4)
def g_law01_MoneySigns.code : ACode :=
  .seq (.region [0] (some []) none
     [⟨some 2, .mv (.c (.d (.bool false))), [], [], none, none⟩])
  (.seq (.region [0, 3, 4] (some []) none
      [⟨some 10, .mv (.t 0), [], [], none, none⟩,
       ⟨some 11, .call 57 [(.t 10)], [], [], none, none⟩,
       ⟨some 9, .mv (.t 11), [], [], none, none⟩,
       ⟨some 12, .ext (.t 9) 0, [], [], none, none⟩,
       ⟨some 13, .ext (.t 9) 1, [], [], none, none⟩,
       ⟨some 3, .mv (.t 12), [], [], none, none⟩,
       ⟨some 4, .mv (.t 13), [], [], none, none⟩])
   (g_law01_MoneySigns.c5))
def g_law01_MoneySigns : AFn := { N := 71, res := [.slot 2], own := [], frz := [], code := g_law01_MoneySigns.code }

/- paymaster/paymasterlaw01.MoneyLists: function 59. drawn region 10: first 7, left 3 -/
def g_law01_MoneyLists.c0 : ACode :=
  .region [3, 4, 17, 18, 19] (some [27, 35, 40]) none
    [⟨some 28, .bin .add (.t 19) (.c (.d (.int .i64 1))), [], [], none, none⟩,
     ⟨some 19, .mv (.t 28), [], [], none, none⟩]
def g_law01_MoneyLists.l0 : ACode :=
  .loop [3, 4, 17, 18, 19] (some [27, 35, 40]) (.seq (.region [3, 4, 17, 18, 19, 20] (some [27, 35, 40]) none
     [⟨some 20, .bin .lss (.t 19) (.t 18), [], [], none, none⟩])
  (.seq (.cond (.t 20) (.skip)
    (.exit 0))
   (.seq (.block 1 [3, 4, 17, 18, 19] (some [27, 35, 40]) (.seq (.region [3, 4, 6, 17, 18, 19] (some [27, 35, 40]) none
         [⟨some 21, .iaddr 1 (.t 17) (.t 19), [], [], none, none⟩,
          ⟨some 22, .load none (.t 21), [], [], none, none⟩,
          ⟨some 6, .mv (.t 22), [], [], none, none⟩])
      (.region [3, 4, 17, 18, 19] (some [27, 35, 40]) none
         [⟨some 23, .mv (.t 3), [], [], none, none⟩,
          ⟨some 24, .mv (.t 6), [], [], none, none⟩,
          ⟨some 25, .bin .rem (.t 24) (.c (.d (.int .i64 9007199254740992))), [], [], none, none⟩,
          ⟨some 26, .bsl none 1 [] 1 [(0, (.t 25))], [], [], none, none⟩,
          ⟨some 27, .app (some 27) 1 8 (.t 23) (.t 26), [], [], none, none⟩,
          ⟨some 3, .mv (.t 27), [], [], none, none⟩])))
    (g_law01_MoneyLists.c0))))
def g_law01_MoneyLists.o9 : List AOper :=
  [⟨some 76, .pick (.t 74) (.t 75) (.c (.d (.bool false))), [], [], none, none⟩,
     ⟨some 2, .mv (.t 76), [], [], none, none⟩]
def g_law01_MoneyLists.o8 : List AOper :=
  (⟨some 75, .call 49 [], [], [], (some (19, 74, true)), (some ([74, 75], (some [])))⟩ ::
     g_law01_MoneyLists.o9)
def g_law01_MoneyLists.o7 : List AOper :=
  (⟨some 73, .pick (.t 70) (.t 72) (.c (.d (.bool false))), [], [], none, none⟩ ::
     ⟨some 74, .mv (.t 73), [], [], none, (some ([74], (some [])))⟩ ::
     g_law01_MoneyLists.o8)
def g_law01_MoneyLists.o6 : List AOper :=
  (⟨some 71, .mv (.t 12), [], [], (some (15, 70, true)), none⟩ ::
     ⟨some 72, .bin .eql (.t 71) (.c (.d (.int .i64 0))), [], [], (some (15, 70, true)), (some ([70, 72], (some [])))⟩ ::
     g_law01_MoneyLists.o7)
def g_law01_MoneyLists.o5 : List AOper :=
  (⟨some 69, .pick (.t 66) (.t 68) (.c (.d (.bool false))), [], [], none, none⟩ ::
     ⟨some 70, .mv (.t 69), [], [], none, (some ([12, 70], (some [])))⟩ ::
     g_law01_MoneyLists.o6)
def g_law01_MoneyLists.o4 : List AOper :=
  (⟨some 67, .mv (.t 11), [], [], (some (11, 66, true)), none⟩ ::
     ⟨some 68, .bin .eql (.t 67) (.c (.d (.int .i64 0))), [], [], (some (11, 66, true)), (some ([12, 66, 68], (some [])))⟩ ::
     g_law01_MoneyLists.o5)
def g_law01_MoneyLists.o3 : List AOper :=
  (⟨some 65, .pick (.t 62) (.t 64) (.c (.d (.bool false))), [], [], none, none⟩ ::
     ⟨some 66, .mv (.t 65), [], [], none, (some ([11, 12, 66], (some [])))⟩ ::
     g_law01_MoneyLists.o4)
def g_law01_MoneyLists.o2 : List AOper :=
  (⟨some 63, .mv (.t 10), [], [], (some (7, 62, true)), none⟩ ::
     ⟨some 64, .bin .eql (.t 63) (.c (.d (.int .i64 0))), [], [], (some (7, 62, true)), (some ([11, 12, 62, 64], (some [])))⟩ ::
     g_law01_MoneyLists.o3)
def g_law01_MoneyLists.o1 : List AOper :=
  (⟨some 61, .pick (.t 58) (.t 60) (.c (.d (.bool false))), [], [], none, none⟩ ::
     ⟨some 62, .mv (.t 61), [], [], none, (some ([10, 11, 12, 62], (some [])))⟩ ::
     g_law01_MoneyLists.o2)
def g_law01_MoneyLists.o0 : List AOper :=
  (⟨some 59, .mv (.t 8), [], [], (some (3, 58, true)), none⟩ ::
     ⟨some 60, .bin .eql (.t 59) (.c (.d (.int .i64 0))), [], [], (some (3, 58, true)), (some ([10, 11, 12, 58, 60], (some [])))⟩ ::
     g_law01_MoneyLists.o1)
def g_law01_MoneyLists.c1 : ACode :=
  .ret
def g_law01_MoneyLists.c2 : ACode :=
  .seq (.region [2] (some []) none
     (⟨some 55, .mv (.t 7), [], [], none, none⟩ ::
      ⟨some 56, .mv (.t 9), [], [], none, none⟩ ::
      ⟨some 57, .bin .eql (.t 55) (.t 56), [], [], none, none⟩ ::
      ⟨some 58, .mv (.t 57), [], [], none, (some ([8, 10, 11, 12, 58], (some [])))⟩ ::
      g_law01_MoneyLists.o0))
  (g_law01_MoneyLists.c1)
def g_law01_MoneyLists.c3 : ACode :=
  .seq (.region [7, 8, 9, 10, 11, 12] (some []) none
     [⟨some 52, .call 60 [(.c (.cap0))], [], [], none, none⟩,
      ⟨some 51, .mv (.t 52), [], [], none, none⟩,
      ⟨some 53, .ext (.t 51) 0, [], [], none, none⟩,
      ⟨some 54, .ext (.t 51) 1, [], [], none, none⟩,
      ⟨some 11, .mv (.t 53), [], [], none, none⟩,
      ⟨some 12, .mv (.t 54), [], [], none, none⟩])
  (g_law01_MoneyLists.c2)
def g_law01_MoneyLists.c4 : ACode :=
  .seq (.region [7, 8, 9, 10] (some []) none
     [⟨some 47, .mv (.t 4), [], [], none, none⟩,
      ⟨some 48, .call 60 [(.t 47)], [47], [], none, none⟩,
      ⟨some 46, .mv (.t 48), [], [], none, none⟩,
      ⟨some 49, .ext (.t 46) 0, [], [], none, none⟩,
      ⟨some 50, .ext (.t 46) 1, [], [], none, none⟩,
      ⟨some 9, .mv (.t 49), [], [], none, none⟩,
      ⟨some 10, .mv (.t 50), [], [], none, none⟩])
  (g_law01_MoneyLists.c3)
def g_law01_MoneyLists.c5 : ACode :=
  .seq (.region [4, 7, 8] (some [35, 40]) none
     [⟨some 42, .mv (.t 3), [], [], none, none⟩,
      ⟨some 43, .call 60 [(.t 42)], [42], [], none, none⟩,
      ⟨some 41, .mv (.t 43), [], [], none, none⟩,
      ⟨some 44, .ext (.t 41) 0, [], [], none, none⟩,
      ⟨some 45, .ext (.t 41) 1, [], [], none, none⟩,
      ⟨some 7, .mv (.t 44), [], [], none, none⟩,
      ⟨some 8, .mv (.t 45), [], [], none, none⟩])
  (g_law01_MoneyLists.c4)
def g_law01_MoneyLists.c6 : ACode :=
  .seq (.seq (.region [3, 4, 31] (some [27, 35, 40]) none
      [⟨some 29, .mv (.t 3), [], [], none, none⟩,
       ⟨some 30, .len (.t 29), [29], [], none, none⟩,
       ⟨some 31, .bin .gtr (.t 30) (.c (.d (.int .i64 0))), [], [], none, none⟩])
   (.cond (.t 31) (.region [3, 4] (some [27, 35, 40]) (some ([0, 1, 2, 4, 5, 6, 7], .one 3 (.one 8 (.one 9 (.done)))))
       [⟨some 32, .mv (.t 4), [], [], none, none⟩,
        ⟨some 33, .mv (.t 3), [], [], none, none⟩,
        ⟨some 34, .slc 1 (.t 33) (some (.c (.d (.int .i64 1)))) none, [], [1], none, none⟩,
        ⟨some 35, .app (some 35) 1 8 (.t 32) (.t 34), [], [0, 2], none, none⟩,
        ⟨some 36, .mv (.t 3), [], [], none, none⟩,
        ⟨some 37, .iaddr 1 (.t 36) (.c (.d (.int .i64 0))), [], [4], none, none⟩,
        ⟨some 38, .load none (.t 37), [], [5], none, none⟩,
        ⟨some 39, .bsl none 1 [] 1 [(0, (.t 38))], [], [6], none, none⟩,
        ⟨some 40, .app (some 40) 1 8 (.t 35) (.t 39), [], [3, 7, 3], none, none⟩,
        ⟨some 4, .mv (.t 40), [], [8, 8, 0, 1, 2, 3, 4, 5, 6, 7, 8], none, none⟩])
    (.skip)))
  (g_law01_MoneyLists.c5)
def g_law01_MoneyLists.c7 : ACode :=
  .seq (.region [0, 3, 4] (some [27, 35, 40]) none
     [⟨some 3, .mv (.c (.cap0)), [], [], none, none⟩,
      ⟨some 4, .mv (.c (.cap0)), [], [], none, none⟩])
  (.seq (.seq (.region [3, 4, 17, 18, 19] (some [27, 35, 40]) none
       [⟨some 17, .mv (.t 0), [], [], none, none⟩,
        ⟨some 18, .len (.t 17), [], [], none, none⟩,
        ⟨some 19, .mv (.c (.d (.int .i64 0))), [], [], none, none⟩])
    (.block 0 [3, 4] (some [27, 35, 40]) (g_law01_MoneyLists.l0)))
   (g_law01_MoneyLists.c6))
def g_law01_MoneyLists.code : ACode :=
  .seq (.region [0] (some []) none
     [⟨some 2, .mv (.c (.d (.bool false))), [], [], none, none⟩])
  (.seq (.seq (.region [0, 15] (some []) none
       [⟨some 13, .mv (.t 0), [], [], none, none⟩,
        ⟨some 14, .len (.t 13), [], [], none, none⟩,
        ⟨some 15, .bin .gtr (.t 14) (.c (.d (.int .i64 100))), [], [], none, none⟩])
    (.cond (.t 15) (.seq (.region [2] (some []) none
         [⟨some 16, .call 49 [], [], [], none, none⟩,
          ⟨some 2, .mv (.t 16), [], [], none, none⟩])
      (.ret))
     (.skip)))
   (g_law01_MoneyLists.c7))
def g_law01_MoneyLists : AFn := { N := 77, res := [.slot 2], own := [], frz := [], code := g_law01_MoneyLists.code }

/- paymaster/paymasterlaw01.MoneyFirst: function 61.  -/
def g_law01_MoneyFirst.o1 : List AOper :=
  [⟨some 22, .pick (.t 18) (.c (.d (.bool true))) (.t 21), [], [], none, none⟩]
def g_law01_MoneyFirst.o0 : List AOper :=
  (⟨some 19, .mv (.t 1), [], [], (some (3, 18, false)), none⟩ ::
     ⟨some 20, .len (.t 19), [], [], (some (3, 18, false)), none⟩ ::
     ⟨some 21, .bin .gtr (.t 20) (.c (.d (.int .i64 50))), [], [], (some (3, 18, false)), (some ([0, 1, 18, 21], (some [])))⟩ ::
     g_law01_MoneyFirst.o1)
def g_law01_MoneyFirst.c0 : ACode :=
  .cond (.t 22) (.seq (.region [4] (some []) none
      [⟨some 23, .call 49 [], [], [], none, none⟩,
       ⟨some 4, .mv (.t 23), [], [], none, none⟩])
   (.ret))
  (.skip)
def g_law01_MoneyFirst.o7 : List AOper :=
  [⟨some 66, .pick (.t 64) (.t 65) (.c (.d (.bool false))), [], [], none, none⟩,
     ⟨some 4, .mv (.t 66), [], [], none, none⟩]
def g_law01_MoneyFirst.o6 : List AOper :=
  (⟨some 65, .call 49 [], [], [], (some (11, 64, true)), (some ([64, 65], (some [])))⟩ ::
     g_law01_MoneyFirst.o7)
def g_law01_MoneyFirst.o5 : List AOper :=
  (⟨some 63, .pick (.t 60) (.t 62) (.c (.d (.bool false))), [], [], none, none⟩ ::
     ⟨some 64, .mv (.t 63), [], [], none, (some ([64], (some [])))⟩ ::
     g_law01_MoneyFirst.o6)
def g_law01_MoneyFirst.o4 : List AOper :=
  (⟨some 61, .mv (.t 14), [], [], (some (7, 60, true)), none⟩ ::
     ⟨some 62, .bin .eql (.t 61) (.c (.d (.int .i64 0))), [], [], (some (7, 60, true)), (some ([60, 62], (some [])))⟩ ::
     g_law01_MoneyFirst.o5)
def g_law01_MoneyFirst.o3 : List AOper :=
  (⟨some 59, .pick (.t 56) (.t 58) (.c (.d (.bool false))), [], [], none, none⟩ ::
     ⟨some 60, .mv (.t 59), [], [], none, (some ([14, 60], (some [])))⟩ ::
     g_law01_MoneyFirst.o4)
def g_law01_MoneyFirst.o2 : List AOper :=
  (⟨some 57, .mv (.t 12), [], [], (some (3, 56, true)), none⟩ ::
     ⟨some 58, .bin .eql (.t 57) (.c (.d (.int .i64 0))), [], [], (some (3, 56, true)), (some ([14, 56, 58], (some [])))⟩ ::
     g_law01_MoneyFirst.o3)
def g_law01_MoneyFirst.c1 : ACode :=
  .ret
def g_law01_MoneyFirst.c2 : ACode :=
  .seq (.region [4] (some []) none
     (⟨some 53, .mv (.t 11), [], [], none, none⟩ ::
      ⟨some 54, .mv (.t 13), [], [], none, none⟩ ::
      ⟨some 55, .bin .eql (.t 53) (.t 54), [], [], none, none⟩ ::
      ⟨some 56, .mv (.t 55), [], [], none, (some ([12, 14, 56], (some [])))⟩ ::
      g_law01_MoneyFirst.o2))
  (g_law01_MoneyFirst.c1)
def g_law01_MoneyFirst.c3 : ACode :=
  .seq (.region [11, 12, 13, 14] (some []) none
     [⟨some 45, .bsl (some 45) 1 [] 0 [], [], [], none, none⟩,
      ⟨some 46, .mv (.t 5), [], [], none, none⟩,
      ⟨some 47, .app (some 47) 1 8 (.t 45) (.t 46), [], [], none, none⟩,
      ⟨some 48, .mv (.t 6), [], [], none, none⟩,
      ⟨some 49, .app none 1 8 (.t 47) (.t 48), [], [], none, none⟩,
      ⟨some 50, .call 60 [(.t 49)], [], [], none, none⟩,
      ⟨some 44, .mv (.t 50), [], [], none, none⟩,
      ⟨some 51, .ext (.t 44) 0, [], [], none, none⟩,
      ⟨some 52, .ext (.t 44) 1, [], [], none, none⟩,
      ⟨some 13, .mv (.t 51), [], [], none, none⟩,
      ⟨some 14, .mv (.t 52), [], [], none, none⟩])
  (g_law01_MoneyFirst.c2)
def g_law01_MoneyFirst.c4 : ACode :=
  .seq (.region [5, 6, 11, 12] (some []) none
     [⟨some 39, .mv (.t 7), [], [], none, none⟩,
      ⟨some 40, .mv (.t 9), [], [], none, none⟩,
      ⟨some 41, .call 63 [(.t 39), (.t 40)], [], [], none, none⟩,
      ⟨some 38, .mv (.t 41), [], [], none, none⟩,
      ⟨some 42, .ext (.t 38) 0, [], [], none, none⟩,
      ⟨some 43, .ext (.t 38) 1, [], [], none, none⟩,
      ⟨some 11, .mv (.t 42), [], [], none, none⟩,
      ⟨some 12, .mv (.t 43), [], [], none, none⟩])
  (g_law01_MoneyFirst.c3)
def g_law01_MoneyFirst.c5 : ACode :=
  .seq (.region [5, 6, 7, 9] (some []) none
     [⟨some 34, .mv (.t 6), [], [], none, none⟩,
      ⟨some 35, .call 60 [(.t 34)], [], [], none, none⟩,
      ⟨some 33, .mv (.t 35), [], [], none, none⟩,
      ⟨some 36, .ext (.t 33) 0, [], [], none, none⟩,
      ⟨some 37, .ext (.t 33) 1, [], [], none, none⟩,
      ⟨some 9, .mv (.t 36), [], [], none, none⟩,
      ⟨some 10, .mv (.t 37), [], [], none, none⟩])
  (g_law01_MoneyFirst.c4)
def g_law01_MoneyFirst.c6 : ACode :=
  .seq (.region [5, 6, 7] (some []) none
     [⟨some 29, .mv (.t 5), [], [], none, none⟩,
      ⟨some 30, .call 60 [(.t 29)], [], [], none, none⟩,
      ⟨some 28, .mv (.t 30), [], [], none, none⟩,
      ⟨some 31, .ext (.t 28) 0, [], [], none, none⟩,
      ⟨some 32, .ext (.t 28) 1, [], [], none, none⟩,
      ⟨some 7, .mv (.t 31), [], [], none, none⟩,
      ⟨some 8, .mv (.t 32), [], [], none, none⟩])
  (g_law01_MoneyFirst.c5)
def g_law01_MoneyFirst.c7 : ACode :=
  .seq (.region [5, 6] (some []) none
     [⟨some 24, .mv (.t 0), [], [], none, none⟩,
      ⟨some 25, .call 62 [(.t 24)], [], [], none, none⟩,
      ⟨some 26, .mv (.t 1), [], [], none, none⟩,
      ⟨some 27, .call 62 [(.t 26)], [], [], none, none⟩,
      ⟨some 5, .mv (.t 25), [], [], none, none⟩,
      ⟨some 6, .mv (.t 27), [], [], none, none⟩])
  (g_law01_MoneyFirst.c6)
def g_law01_MoneyFirst.code : ACode :=
  .seq (.region [0, 1] (some []) none
     [⟨some 4, .mv (.c (.d (.bool false))), [], [], none, none⟩])
  (.seq (.seq (.region [0, 1, 22] (some []) none
       (⟨some 15, .mv (.t 0), [], [], none, none⟩ ::
        ⟨some 16, .len (.t 15), [], [], none, none⟩ ::
        ⟨some 17, .bin .gtr (.t 16) (.c (.d (.int .i64 50))), [], [], none, none⟩ ::
        ⟨some 18, .mv (.t 17), [], [], none, (some ([0, 1, 18], (some [])))⟩ ::
        g_law01_MoneyFirst.o0))
    (g_law01_MoneyFirst.c0))
   (g_law01_MoneyFirst.c7))
def g_law01_MoneyFirst : AFn := { N := 67, res := [.slot 4], own := [], frz := [], code := g_law01_MoneyFirst.code }

/- paymaster/paymasterlaw01.MoneyBack: function 64.  -/
def g_law01_MoneyBack.o3 : List AOper :=
  [⟨some 36, .pick (.t 34) (.t 35) (.c (.d (.bool false))), [], [], none, none⟩,
     ⟨some 4, .mv (.t 36), [], [], none, none⟩]
def g_law01_MoneyBack.o2 : List AOper :=
  (⟨some 35, .call 49 [], [], [], (some (7, 34, true)), (some ([34, 35], (some [])))⟩ ::
     g_law01_MoneyBack.o3)
def g_law01_MoneyBack.o1 : List AOper :=
  (⟨some 33, .pick (.t 29) (.t 32) (.c (.d (.bool false))), [], [], none, none⟩ ::
     ⟨some 34, .mv (.t 33), [], [], none, (some ([34], (some [])))⟩ ::
     g_law01_MoneyBack.o2)
def g_law01_MoneyBack.o0 : List AOper :=
  (⟨some 30, .mv (.t 8), [], [], (some (2, 29, true)), none⟩ ::
     ⟨some 31, .mv (.t 6), [], [], (some (2, 29, true)), none⟩ ::
     ⟨some 32, .bin .eql (.t 30) (.t 31), [], [], (some (2, 29, true)), (some ([29, 32], (some [])))⟩ ::
     g_law01_MoneyBack.o1)
def g_law01_MoneyBack.c0 : ACode :=
  .ret
def g_law01_MoneyBack.o15 : List AOper :=
  [⟨some 76, .pick (.t 74) (.t 75) (.c (.d (.bool false))), [], [], none, none⟩,
     ⟨some 4, .mv (.t 76), [], [], none, none⟩]
def g_law01_MoneyBack.o14 : List AOper :=
  (⟨some 75, .call 49 [], [], [], (some (25, 74, true)), (some ([74, 75], (some [])))⟩ ::
     g_law01_MoneyBack.o15)
def g_law01_MoneyBack.o13 : List AOper :=
  (⟨some 73, .pick (.t 70) (.t 72) (.c (.d (.bool false))), [], [], none, none⟩ ::
     ⟨some 74, .mv (.t 73), [], [], none, (some ([74], (some [])))⟩ ::
     g_law01_MoneyBack.o14)
def g_law01_MoneyBack.o12 : List AOper :=
  (⟨some 71, .mv (.t 12), [], [], (some (21, 70, true)), none⟩ ::
     ⟨some 72, .bin .eql (.t 71) (.c (.d (.int .i64 0))), [], [], (some (21, 70, true)), (some ([70, 72], (some [])))⟩ ::
     g_law01_MoneyBack.o13)
def g_law01_MoneyBack.o11 : List AOper :=
  (⟨some 69, .pick (.t 65) (.t 68) (.c (.d (.bool false))), [], [], none, none⟩ ::
     ⟨some 70, .mv (.t 69), [], [], none, (some ([12, 70], (some [])))⟩ ::
     g_law01_MoneyBack.o12)
def g_law01_MoneyBack.o10 : List AOper :=
  (⟨some 66, .mv (.t 11), [], [], (some (16, 65, true)), none⟩ ::
     ⟨some 67, .mv (.t 1), [], [], (some (16, 65, true)), none⟩ ::
     ⟨some 68, .bin .eql (.t 66) (.t 67), [], [], (some (16, 65, true)), (some ([12, 65, 68], (some [])))⟩ ::
     g_law01_MoneyBack.o11)
def g_law01_MoneyBack.o9 : List AOper :=
  (⟨some 64, .pick (.t 61) (.t 63) (.c (.d (.bool false))), [], [], none, none⟩ ::
     ⟨some 65, .mv (.t 64), [], [], none, (some ([1, 11, 12, 65], (some [])))⟩ ::
     g_law01_MoneyBack.o10)
def g_law01_MoneyBack.o8 : List AOper :=
  (⟨some 62, .mv (.t 10), [], [], (some (12, 61, true)), none⟩ ::
     ⟨some 63, .bin .eql (.t 62) (.c (.d (.int .i64 0))), [], [], (some (12, 61, true)), (some ([1, 11, 12, 61, 63], (some [])))⟩ ::
     g_law01_MoneyBack.o9)
def g_law01_MoneyBack.o7 : List AOper :=
  (⟨some 60, .pick (.t 56) (.t 59) (.c (.d (.bool false))), [], [], none, none⟩ ::
     ⟨some 61, .mv (.t 60), [], [], none, (some ([1, 10, 11, 12, 61], (some [])))⟩ ::
     g_law01_MoneyBack.o8)
def g_law01_MoneyBack.o6 : List AOper :=
  (⟨some 57, .mv (.t 9), [], [], (some (7, 56, true)), none⟩ ::
     ⟨some 58, .mv (.t 0), [], [], (some (7, 56, true)), none⟩ ::
     ⟨some 59, .bin .eql (.t 57) (.t 58), [], [], (some (7, 56, true)), (some ([1, 10, 11, 12, 56, 59], (some [])))⟩ ::
     g_law01_MoneyBack.o7)
def g_law01_MoneyBack.o5 : List AOper :=
  (⟨some 55, .pick (.t 52) (.t 54) (.c (.d (.bool false))), [], [], none, none⟩ ::
     ⟨some 56, .mv (.t 55), [], [], none, (some ([0, 1, 9, 10, 11, 12, 56], (some [])))⟩ ::
     g_law01_MoneyBack.o6)
def g_law01_MoneyBack.o4 : List AOper :=
  (⟨some 53, .mv (.t 8), [], [], (some (3, 52, true)), none⟩ ::
     ⟨some 54, .bin .eql (.t 53) (.c (.d (.int .i64 0))), [], [], (some (3, 52, true)), (some ([0, 1, 9, 10, 11, 12, 52, 54], (some [])))⟩ ::
     g_law01_MoneyBack.o5)
def g_law01_MoneyBack.c1 : ACode :=
  .ret
def g_law01_MoneyBack.c2 : ACode :=
  .seq (.region [4] (some []) none
     (⟨some 49, .mv (.t 5), [], [], none, none⟩ ::
      ⟨some 50, .mv (.t 7), [], [], none, none⟩ ::
      ⟨some 51, .bin .eql (.t 49) (.t 50), [], [], none, none⟩ ::
      ⟨some 52, .mv (.t 51), [], [], none, (some ([0, 1, 8, 9, 10, 11, 12, 52], (some [])))⟩ ::
      g_law01_MoneyBack.o4))
  (g_law01_MoneyBack.c1)
def g_law01_MoneyBack.c3 : ACode :=
  .seq (.region [0, 1, 5, 7, 8, 9, 10, 11, 12] (some []) none
     [⟨some 44, .mv (.t 5), [], [], none, none⟩,
      ⟨some 45, .mv (.t 0), [], [], none, none⟩,
      ⟨some 46, .call 65 [(.t 44), (.t 45)], [], [], none, none⟩,
      ⟨some 43, .mv (.t 46), [], [], none, none⟩,
      ⟨some 47, .ext (.t 43) 0, [], [], none, none⟩,
      ⟨some 48, .ext (.t 43) 1, [], [], none, none⟩,
      ⟨some 11, .mv (.t 47), [], [], none, none⟩,
      ⟨some 12, .mv (.t 48), [], [], none, none⟩])
  (g_law01_MoneyBack.c2)
def g_law01_MoneyBack.c4 : ACode :=
  .seq (.region [0, 1, 5, 7, 8, 9, 10] (some []) none
     [⟨some 38, .mv (.t 5), [], [], none, none⟩,
      ⟨some 39, .mv (.t 1), [], [], none, none⟩,
      ⟨some 40, .call 65 [(.t 38), (.t 39)], [], [], none, none⟩,
      ⟨some 37, .mv (.t 40), [], [], none, none⟩,
      ⟨some 41, .ext (.t 37) 0, [], [], none, none⟩,
      ⟨some 42, .ext (.t 37) 1, [], [], none, none⟩,
      ⟨some 9, .mv (.t 41), [], [], none, none⟩,
      ⟨some 10, .mv (.t 42), [], [], none, none⟩])
  (g_law01_MoneyBack.c3)
def g_law01_MoneyBack.c5 : ACode :=
  .seq (.seq (.region [0, 1, 5, 6, 7, 8, 26] (some []) none
      [⟨some 25, .mv (.t 6), [], [], none, none⟩,
       ⟨some 26, .bin .neq (.t 25) (.c (.d (.int .i64 0))), [], [], none, none⟩])
   (.cond (.t 26) (.seq (.region [4] (some []) none
        (⟨some 27, .mv (.t 5), [], [], none, none⟩ ::
         ⟨some 28, .bin .eql (.t 27) (.c (.d (.int .i64 0))), [], [], none, none⟩ ::
         ⟨some 29, .mv (.t 28), [], [], none, (some ([6, 8, 29], (some [])))⟩ ::
         g_law01_MoneyBack.o0))
     (g_law01_MoneyBack.c0))
    (.skip)))
  (g_law01_MoneyBack.c4)
def g_law01_MoneyBack.c6 : ACode :=
  .seq (.region [0, 1, 5, 6, 7, 8] (some []) none
     [⟨some 20, .mv (.t 1), [], [], none, none⟩,
      ⟨some 21, .mv (.t 0), [], [], none, none⟩,
      ⟨some 22, .call 63 [(.t 20), (.t 21)], [], [], none, none⟩,
      ⟨some 19, .mv (.t 22), [], [], none, none⟩,
      ⟨some 23, .ext (.t 19) 0, [], [], none, none⟩,
      ⟨some 24, .ext (.t 19) 1, [], [], none, none⟩,
      ⟨some 7, .mv (.t 23), [], [], none, none⟩,
      ⟨some 8, .mv (.t 24), [], [], none, none⟩])
  (g_law01_MoneyBack.c5)
def g_law01_MoneyBack.code : ACode :=
  .seq (.region [0, 1] (some []) none
     [⟨some 4, .mv (.c (.d (.bool false))), [], [], none, none⟩])
  (.seq (.region [0, 1, 5, 6] (some []) none
      [⟨some 14, .mv (.t 0), [], [], none, none⟩,
       ⟨some 15, .mv (.t 1), [], [], none, none⟩,
       ⟨some 16, .call 63 [(.t 14), (.t 15)], [], [], none, none⟩,
       ⟨some 13, .mv (.t 16), [], [], none, none⟩,
       ⟨some 17, .ext (.t 13) 0, [], [], none, none⟩,
       ⟨some 18, .ext (.t 13) 1, [], [], none, none⟩,
       ⟨some 5, .mv (.t 17), [], [], none, none⟩,
       ⟨some 6, .mv (.t 18), [], [], none, none⟩])
   (g_law01_MoneyBack.c6))
def g_law01_MoneyBack : AFn := { N := 77, res := [.slot 4], own := [], frz := [], code := g_law01_MoneyBack.code }

/- paymaster/paymasterlaw01.MoneySums: function 66.  -/
def g_law01_MoneySums.o7 : List AOper :=
  [⟨some 80, .pick (.t 74) (.c (.d (.bool true))) (.t 79), [], [], none, none⟩]
def g_law01_MoneySums.o6 : List AOper :=
  (⟨some 75, .mv (.t 0), [], [], (some (17, 74, false)), none⟩ ::
     ⟨some 76, .call 58 [(.t 75)], [], [], (some (17, 74, false)), none⟩ ::
     ⟨some 77, .mv (.t 0), [], [], (some (17, 74, false)), none⟩ ::
     ⟨some 78, .call 53 [(.t 77)], [], [], (some (17, 74, false)), none⟩ ::
     ⟨some 79, .beq true (.t 76) (.t 78), [], [], (some (17, 74, false)), (some ([0, 1, 2, 9, 10, 11, 12, 13, 14, 74, 79], (some [])))⟩ ::
     g_law01_MoneySums.o7)
def g_law01_MoneySums.o5 : List AOper :=
  (⟨some 73, .pick (.t 66) (.c (.d (.bool true))) (.t 72), [], [], none, none⟩ ::
     ⟨some 74, .mv (.t 73), [], [], none, (some ([0, 1, 2, 9, 10, 11, 12, 13, 14, 74], (some [])))⟩ ::
     g_law01_MoneySums.o6)
def g_law01_MoneySums.o4 : List AOper :=
  (⟨some 72, .pick (.t 69) (.t 71) (.c (.d (.bool false))), [], [], (some (9, 66, false)), (some ([0, 1, 2, 9, 10, 11, 12, 13, 14, 66, 72], (some [])))⟩ ::
     g_law01_MoneySums.o5)
def g_law01_MoneySums.o3 : List AOper :=
  (⟨some 70, .mv (.t 8), [], [], (some (12, 69, true)), none⟩ ::
     ⟨some 71, .bin .neq (.t 70) (.c (.d (.int .i64 3))), [], [], (some (12, 69, true)), (some ([0, 1, 2, 9, 10, 11, 12, 13, 14, 66, 69, 71], (some [])))⟩ ::
     g_law01_MoneySums.o4)
def g_law01_MoneySums.o2 : List AOper :=
  (⟨some 67, .mv (.t 8), [], [], (some (9, 66, false)), none⟩ ::
     ⟨some 68, .bin .neq (.t 67) (.c (.d (.int .i64 0))), [], [], (some (9, 66, false)), none⟩ ::
     ⟨some 69, .mv (.t 68), [], [], (some (9, 66, false)), (some ([0, 1, 2, 8, 9, 10, 11, 12, 13, 14, 66, 69], (some [])))⟩ ::
     g_law01_MoneySums.o3)
def g_law01_MoneySums.o1 : List AOper :=
  (⟨some 65, .pick (.t 60) (.c (.d (.bool true))) (.t 64), [], [], none, none⟩ ::
     ⟨some 66, .mv (.t 65), [], [], none, (some ([0, 1, 2, 8, 9, 10, 11, 12, 13, 14, 66], (some [])))⟩ ::
     g_law01_MoneySums.o2)
def g_law01_MoneySums.o0 : List AOper :=
  (⟨some 61, .mv (.t 8), [], [], (some (3, 60, false)), none⟩ ::
     ⟨some 62, .bin .eql (.t 61) (.c (.d (.int .i64 0))), [], [], (some (3, 60, false)), none⟩ ::
     ⟨some 63, .mv (.t 16), [], [], (some (3, 60, false)), none⟩ ::
     ⟨some 64, .beq true (.t 62) (.t 63), [], [], (some (3, 60, false)), (some ([0, 1, 2, 8, 9, 10, 11, 12, 13, 14, 60, 64], (some [])))⟩ ::
     g_law01_MoneySums.o1)
def g_law01_MoneySums.c0 : ACode :=
  .cond (.t 80) (.seq (.region [6] (some []) none
      [⟨some 6, .mv (.c (.d (.bool false))), [], [], none, none⟩])
   (.ret))
  (.skip)
def g_law01_MoneySums.o13 : List AOper :=
  [⟨some 107, .pick (.t 100) (.c (.d (.bool true))) (.t 106), [], [], none, none⟩]
def g_law01_MoneySums.o12 : List AOper :=
  (⟨some 106, .pick (.t 103) (.t 105) (.c (.d (.bool false))), [], [], (some (9, 100, false)), (some ([0, 2, 11, 12, 13, 14, 100, 106], (some [])))⟩ ::
     g_law01_MoneySums.o13)
def g_law01_MoneySums.o11 : List AOper :=
  (⟨some 104, .mv (.t 10), [], [], (some (12, 103, true)), none⟩ ::
     ⟨some 105, .bin .neq (.t 104) (.c (.d (.int .i64 3))), [], [], (some (12, 103, true)), (some ([0, 2, 11, 12, 13, 14, 100, 103, 105], (some [])))⟩ ::
     g_law01_MoneySums.o12)
def g_law01_MoneySums.o10 : List AOper :=
  (⟨some 101, .mv (.t 10), [], [], (some (9, 100, false)), none⟩ ::
     ⟨some 102, .bin .neq (.t 101) (.c (.d (.int .i64 0))), [], [], (some (9, 100, false)), none⟩ ::
     ⟨some 103, .mv (.t 102), [], [], (some (9, 100, false)), (some ([0, 2, 10, 11, 12, 13, 14, 100, 103], (some [])))⟩ ::
     g_law01_MoneySums.o11)
def g_law01_MoneySums.o9 : List AOper :=
  (⟨some 99, .pick (.t 94) (.c (.d (.bool true))) (.t 98), [], [], none, none⟩ ::
     ⟨some 100, .mv (.t 99), [], [], none, (some ([0, 2, 10, 11, 12, 13, 14, 100], (some [])))⟩ ::
     g_law01_MoneySums.o10)
def g_law01_MoneySums.o8 : List AOper :=
  (⟨some 95, .mv (.t 10), [], [], (some (3, 94, false)), none⟩ ::
     ⟨some 96, .bin .eql (.t 95) (.c (.d (.int .i64 0))), [], [], (some (3, 94, false)), none⟩ ::
     ⟨some 97, .mv (.t 18), [], [], (some (3, 94, false)), none⟩ ::
     ⟨some 98, .beq true (.t 96) (.t 97), [], [], (some (3, 94, false)), (some ([0, 2, 10, 11, 12, 13, 14, 94, 98], (some [])))⟩ ::
     g_law01_MoneySums.o9)
def g_law01_MoneySums.c1 : ACode :=
  .cond (.t 107) (.seq (.region [6] (some []) none
      [⟨some 6, .mv (.c (.d (.bool false))), [], [], none, none⟩])
   (.ret))
  (.skip)
def g_law01_MoneySums.o19 : List AOper :=
  [⟨some 129, .pick (.t 122) (.c (.d (.bool true))) (.t 128), [], [], none, none⟩]
def g_law01_MoneySums.o18 : List AOper :=
  (⟨some 128, .pick (.t 125) (.t 127) (.c (.d (.bool false))), [], [], (some (9, 122, false)), (some ([2, 13, 14, 122, 128], (some [])))⟩ ::
     g_law01_MoneySums.o19)
def g_law01_MoneySums.o17 : List AOper :=
  (⟨some 126, .mv (.t 12), [], [], (some (12, 125, true)), none⟩ ::
     ⟨some 127, .bin .neq (.t 126) (.c (.d (.int .i64 3))), [], [], (some (12, 125, true)), (some ([2, 13, 14, 122, 125, 127], (some [])))⟩ ::
     g_law01_MoneySums.o18)
def g_law01_MoneySums.o16 : List AOper :=
  (⟨some 123, .mv (.t 12), [], [], (some (9, 122, false)), none⟩ ::
     ⟨some 124, .bin .neq (.t 123) (.c (.d (.int .i64 0))), [], [], (some (9, 122, false)), none⟩ ::
     ⟨some 125, .mv (.t 124), [], [], (some (9, 122, false)), (some ([2, 12, 13, 14, 122, 125], (some [])))⟩ ::
     g_law01_MoneySums.o17)
def g_law01_MoneySums.o15 : List AOper :=
  (⟨some 121, .pick (.t 116) (.c (.d (.bool true))) (.t 120), [], [], none, none⟩ ::
     ⟨some 122, .mv (.t 121), [], [], none, (some ([2, 12, 13, 14, 122], (some [])))⟩ ::
     g_law01_MoneySums.o16)
def g_law01_MoneySums.o14 : List AOper :=
  (⟨some 117, .mv (.t 12), [], [], (some (3, 116, false)), none⟩ ::
     ⟨some 118, .bin .eql (.t 117) (.c (.d (.int .i64 0))), [], [], (some (3, 116, false)), none⟩ ::
     ⟨some 119, .mv (.t 20), [], [], (some (3, 116, false)), none⟩ ::
     ⟨some 120, .beq true (.t 118) (.t 119), [], [], (some (3, 116, false)), (some ([2, 12, 13, 14, 116, 120], (some [])))⟩ ::
     g_law01_MoneySums.o15)
def g_law01_MoneySums.c2 : ACode :=
  .cond (.t 129) (.seq (.region [6] (some []) none
      [⟨some 6, .mv (.c (.d (.bool false))), [], [], none, none⟩])
   (.ret))
  (.skip)
def g_law01_MoneySums.c3 : ACode :=
  .region [13, 14, 21, 22, 130, 131, 132] (some []) none
    [⟨some 143, .bin .add (.t 132) (.c (.d (.int .i64 1))), [], [], none, none⟩,
     ⟨some 132, .mv (.t 143), [], [], none, none⟩]
def g_law01_MoneySums.l0 : ACode :=
  .loop [13, 14, 21, 22, 130, 131, 132] (some []) (.seq (.region [13, 14, 21, 22, 130, 131, 132, 133] (some []) none
     [⟨some 133, .bin .lss (.t 132) (.t 131), [], [], none, none⟩])
  (.seq (.cond (.t 133) (.skip)
    (.exit 0))
   (.seq (.block 1 [13, 14, 21, 22, 130, 131, 132] (some []) (.seq (.region [13, 14, 21, 22, 24, 130, 131, 132] (some []) none
         [⟨some 134, .iaddr 1 (.t 130) (.t 132), [], [], none, none⟩,
          ⟨some 135, .load none (.t 134), [], [], none, none⟩,
          ⟨some 24, .mv (.t 135), [], [], none, none⟩])
      (.seq (.region [13, 14, 21, 22, 24, 130, 131, 132, 136] (some []) none
          [⟨some 136, .mv (.t 22), [], [], none, none⟩])
       (.cond (.t 136) (.region [13, 14, 21, 22, 130, 131, 132] (some []) none
           [⟨some 138, .mv (.t 21), [], [], none, none⟩,
            ⟨some 139, .mv (.t 24), [], [], none, none⟩,
            ⟨some 140, .call 67 [(.t 138), (.t 139)], [], [], none, none⟩,
            ⟨some 137, .mv (.t 140), [], [], none, none⟩,
            ⟨some 141, .ext (.t 137) 0, [], [], none, none⟩,
            ⟨some 142, .ext (.t 137) 1, [], [], none, none⟩,
            ⟨some 21, .mv (.t 141), [], [], none, none⟩,
            ⟨some 22, .mv (.t 142), [], [], none, none⟩])
        (.skip)))))
    (g_law01_MoneySums.c3))))
def g_law01_MoneySums.o27 : List AOper :=
  [⟨some 165, .pick (.t 163) (.t 164) (.c (.d (.bool false))), [], [], none, none⟩,
     ⟨some 6, .mv (.t 165), [], [], none, none⟩]
def g_law01_MoneySums.o26 : List AOper :=
  (⟨some 164, .call 49 [], [], [], (some (17, 163, true)), (some ([163, 164], (some [])))⟩ ::
     g_law01_MoneySums.o27)
def g_law01_MoneySums.o25 : List AOper :=
  (⟨some 162, .pick (.t 155) (.t 161) (.c (.d (.bool false))), [], [], none, none⟩ ::
     ⟨some 163, .mv (.t 162), [], [], none, (some ([163], (some [])))⟩ ::
     g_law01_MoneySums.o26)
def g_law01_MoneySums.o24 : List AOper :=
  (⟨some 161, .pick (.t 158) (.c (.d (.bool true))) (.t 160), [], [], (some (9, 155, true)), (some ([155, 161], (some [])))⟩ ::
     g_law01_MoneySums.o25)
def g_law01_MoneySums.o23 : List AOper :=
  (⟨some 159, .mv (.t 14), [], [], (some (12, 158, false)), none⟩ ::
     ⟨some 160, .bin .eql (.t 159) (.c (.d (.int .i64 3))), [], [], (some (12, 158, false)), (some ([155, 158, 160], (some [])))⟩ ::
     g_law01_MoneySums.o24)
def g_law01_MoneySums.o22 : List AOper :=
  (⟨some 156, .mv (.t 14), [], [], (some (9, 155, true)), none⟩ ::
     ⟨some 157, .bin .eql (.t 156) (.c (.d (.int .i64 0))), [], [], (some (9, 155, true)), none⟩ ::
     ⟨some 158, .mv (.t 157), [], [], (some (9, 155, true)), (some ([14, 155, 158], (some [])))⟩ ::
     g_law01_MoneySums.o23)
def g_law01_MoneySums.o21 : List AOper :=
  (⟨some 154, .pick (.t 149) (.t 153) (.c (.d (.bool false))), [], [], none, none⟩ ::
     ⟨some 155, .mv (.t 154), [], [], none, (some ([14, 155], (some [])))⟩ ::
     g_law01_MoneySums.o22)
def g_law01_MoneySums.o20 : List AOper :=
  (⟨some 150, .mv (.t 14), [], [], (some (3, 149, true)), none⟩ ::
     ⟨some 151, .bin .eql (.t 150) (.c (.d (.int .i64 0))), [], [], (some (3, 149, true)), none⟩ ::
     ⟨some 152, .mv (.t 22), [], [], (some (3, 149, true)), none⟩ ::
     ⟨some 153, .beq false (.t 151) (.t 152), [], [], (some (3, 149, true)), (some ([14, 149, 153], (some [])))⟩ ::
     g_law01_MoneySums.o21)
def g_law01_MoneySums.c4 : ACode :=
  .ret
def g_law01_MoneySums.c5 : ACode :=
  .seq (.region [6] (some []) none
     (⟨some 146, .mv (.t 13), [], [], none, none⟩ ::
      ⟨some 147, .mv (.t 21), [], [], none, none⟩ ::
      ⟨some 148, .bin .eql (.t 146) (.t 147), [], [], none, none⟩ ::
      ⟨some 149, .mv (.t 148), [], [], none, (some ([14, 22, 149], (some [])))⟩ ::
      g_law01_MoneySums.o20))
  (g_law01_MoneySums.c4)
def g_law01_MoneySums.c6 : ACode :=
  .seq (.seq (.region [13, 14, 21, 22, 145] (some []) none
      [⟨some 144, .mv (.t 22), [], [], none, none⟩,
       ⟨some 145, .un .not (.t 144), [], [], none, none⟩])
   (.cond (.t 145) (.region [13, 14, 21, 22] (some []) none
       [⟨some 21, .mv (.c (.d (.int .i64 0))), [], [], none, none⟩])
    (.skip)))
  (g_law01_MoneySums.c5)
def g_law01_MoneySums.c7 : ACode :=
  .seq (.region [2, 13, 14, 21, 22] (some []) none
     [⟨some 21, .mv (.c (.d (.int .i64 0))), [], [], none, none⟩,
      ⟨some 22, .mv (.c (.d (.bool true))), [], [], none, none⟩])
  (.seq (.seq (.region [13, 14, 21, 22, 130, 131, 132] (some []) none
       [⟨some 130, .mv (.t 2), [], [], none, none⟩,
        ⟨some 131, .len (.t 130), [], [], none, none⟩,
        ⟨some 132, .mv (.c (.d (.int .i64 0))), [], [], none, none⟩])
    (.block 0 [13, 14, 21, 22] (some []) (g_law01_MoneySums.l0)))
   (g_law01_MoneySums.c6))
def g_law01_MoneySums.c8 : ACode :=
  .seq (.seq (.region [2, 13, 14, 129] (some []) none
      (⟨some 113, .mv (.t 11), [], [], none, none⟩ ::
       ⟨some 114, .mv (.t 19), [], [], none, none⟩ ::
       ⟨some 115, .bin .neq (.t 113) (.t 114), [], [], none, none⟩ ::
       ⟨some 116, .mv (.t 115), [], [], none, (some ([2, 12, 13, 14, 20, 116], (some [])))⟩ ::
       g_law01_MoneySums.o14))
   (g_law01_MoneySums.c2))
  (g_law01_MoneySums.c7)
def g_law01_MoneySums.c9 : ACode :=
  .seq (.seq (.region [0, 2, 11, 12, 13, 14, 19, 20, 110] (some []) none
      [⟨some 110, .mv (.t 20), [], [], none, none⟩])
   (.cond (.t 110) (.region [2, 11, 12, 13, 14, 19, 20] (some []) none
       [⟨some 111, .mv (.t 0), [], [], none, none⟩,
        ⟨some 112, .un .neg (.t 111), [], [], none, none⟩,
        ⟨some 19, .mv (.t 112), [], [], none, none⟩])
    (.skip)))
  (g_law01_MoneySums.c8)
def g_law01_MoneySums.c10 : ACode :=
  .seq (.region [0, 2, 11, 12, 13, 14, 19, 20] (some []) none
     [⟨some 108, .mv (.t 0), [], [], none, none⟩,
      ⟨some 109, .call 53 [(.t 108)], [], [], none, none⟩,
      ⟨some 19, .mv (.c (.d (.int .i64 0))), [], [], none, none⟩,
      ⟨some 20, .mv (.t 109), [], [], none, none⟩])
  (g_law01_MoneySums.c9)
def g_law01_MoneySums.c11 : ACode :=
  .seq (.seq (.region [0, 2, 11, 12, 13, 14, 107] (some []) none
      (⟨some 91, .mv (.t 9), [], [], none, none⟩ ::
       ⟨some 92, .mv (.t 17), [], [], none, none⟩ ::
       ⟨some 93, .bin .neq (.t 91) (.t 92), [], [], none, none⟩ ::
       ⟨some 94, .mv (.t 93), [], [], none, (some ([0, 2, 10, 11, 12, 13, 14, 18, 94], (some [])))⟩ ::
       g_law01_MoneySums.o8))
   (g_law01_MoneySums.c1))
  (g_law01_MoneySums.c10)
def g_law01_MoneySums.c12 : ACode :=
  .seq (.seq (.region [0, 1, 2, 9, 10, 11, 12, 13, 14, 17, 18, 83] (some []) none
      [⟨some 83, .mv (.t 18), [], [], none, none⟩])
   (.cond (.t 83) (.region [0, 2, 9, 10, 11, 12, 13, 14, 17, 18] (some []) none
       [⟨some 85, .mv (.t 0), [], [], none, none⟩,
        ⟨some 86, .mv (.t 1), [], [], none, none⟩,
        ⟨some 87, .un .neg (.t 86), [], [], none, none⟩,
        ⟨some 88, .call 67 [(.t 85), (.t 87)], [], [], none, none⟩,
        ⟨some 84, .mv (.t 88), [], [], none, none⟩,
        ⟨some 89, .ext (.t 84) 0, [], [], none, none⟩,
        ⟨some 90, .ext (.t 84) 1, [], [], none, none⟩,
        ⟨some 17, .mv (.t 89), [], [], none, none⟩,
        ⟨some 18, .mv (.t 90), [], [], none, none⟩])
    (.skip)))
  (g_law01_MoneySums.c11)
def g_law01_MoneySums.c13 : ACode :=
  .seq (.region [0, 1, 2, 9, 10, 11, 12, 13, 14, 17, 18] (some []) none
     [⟨some 81, .mv (.t 1), [], [], none, none⟩,
      ⟨some 82, .call 53 [(.t 81)], [], [], none, none⟩,
      ⟨some 17, .mv (.c (.d (.int .i64 0))), [], [], none, none⟩,
      ⟨some 18, .mv (.t 82), [], [], none, none⟩])
  (g_law01_MoneySums.c12)
def g_law01_MoneySums.c14 : ACode :=
  .seq (.seq (.region [0, 1, 2, 9, 10, 11, 12, 13, 14, 80] (some []) none
      (⟨some 57, .mv (.t 7), [], [], none, none⟩ ::
       ⟨some 58, .mv (.t 15), [], [], none, none⟩ ::
       ⟨some 59, .bin .neq (.t 57) (.t 58), [], [], none, none⟩ ::
       ⟨some 60, .mv (.t 59), [], [], none, (some ([0, 1, 2, 8, 9, 10, 11, 12, 13, 14, 16, 60], (some [])))⟩ ::
       g_law01_MoneySums.o0))
   (g_law01_MoneySums.c0))
  (g_law01_MoneySums.c13)
def g_law01_MoneySums.c15 : ACode :=
  .seq (.region [0, 1, 2, 7, 8, 9, 10, 11, 12, 13, 14, 15, 16] (some []) none
     [⟨some 52, .mv (.t 0), [], [], none, none⟩,
      ⟨some 53, .mv (.t 1), [], [], none, none⟩,
      ⟨some 54, .call 67 [(.t 52), (.t 53)], [], [], none, none⟩,
      ⟨some 51, .mv (.t 54), [], [], none, none⟩,
      ⟨some 55, .ext (.t 51) 0, [], [], none, none⟩,
      ⟨some 56, .ext (.t 51) 1, [], [], none, none⟩,
      ⟨some 15, .mv (.t 55), [], [], none, none⟩,
      ⟨some 16, .mv (.t 56), [], [], none, none⟩])
  (g_law01_MoneySums.c14)
def g_law01_MoneySums.c16 : ACode :=
  .seq (.region [0, 1, 2, 7, 8, 9, 10, 11, 12, 13, 14] (some []) none
     [⟨some 47, .mv (.t 2), [], [], none, none⟩,
      ⟨some 48, .call 60 [(.t 47)], [], [], none, none⟩,
      ⟨some 46, .mv (.t 48), [], [], none, none⟩,
      ⟨some 49, .ext (.t 46) 0, [], [], none, none⟩,
      ⟨some 50, .ext (.t 46) 1, [], [], none, none⟩,
      ⟨some 13, .mv (.t 49), [], [], none, none⟩,
      ⟨some 14, .mv (.t 50), [], [], none, none⟩])
  (g_law01_MoneySums.c15)
def g_law01_MoneySums.c17 : ACode :=
  .seq (.region [0, 1, 2, 7, 8, 9, 10, 11, 12] (some []) none
     [⟨some 42, .mv (.t 0), [], [], none, none⟩,
      ⟨some 43, .call 57 [(.t 42)], [], [], none, none⟩,
      ⟨some 41, .mv (.t 43), [], [], none, none⟩,
      ⟨some 44, .ext (.t 41) 0, [], [], none, none⟩,
      ⟨some 45, .ext (.t 41) 1, [], [], none, none⟩,
      ⟨some 11, .mv (.t 44), [], [], none, none⟩,
      ⟨some 12, .mv (.t 45), [], [], none, none⟩])
  (g_law01_MoneySums.c16)
def g_law01_MoneySums.c18 : ACode :=
  .seq (.region [0, 1, 2, 7, 8, 9, 10] (some []) none
     [⟨some 36, .mv (.t 0), [], [], none, none⟩,
      ⟨some 37, .mv (.t 1), [], [], none, none⟩,
      ⟨some 38, .call 65 [(.t 36), (.t 37)], [], [], none, none⟩,
      ⟨some 35, .mv (.t 38), [], [], none, none⟩,
      ⟨some 39, .ext (.t 35) 0, [], [], none, none⟩,
      ⟨some 40, .ext (.t 35) 1, [], [], none, none⟩,
      ⟨some 9, .mv (.t 39), [], [], none, none⟩,
      ⟨some 10, .mv (.t 40), [], [], none, none⟩])
  (g_law01_MoneySums.c17)
def g_law01_MoneySums.c19 : ACode :=
  .seq (.region [0, 1, 2, 7, 8] (some []) none
     [⟨some 30, .mv (.t 0), [], [], none, none⟩,
      ⟨some 31, .mv (.t 1), [], [], none, none⟩,
      ⟨some 32, .call 63 [(.t 30), (.t 31)], [], [], none, none⟩,
      ⟨some 29, .mv (.t 32), [], [], none, none⟩,
      ⟨some 33, .ext (.t 29) 0, [], [], none, none⟩,
      ⟨some 34, .ext (.t 29) 1, [], [], none, none⟩,
      ⟨some 7, .mv (.t 33), [], [], none, none⟩,
      ⟨some 8, .mv (.t 34), [], [], none, none⟩])
  (g_law01_MoneySums.c18)
def g_law01_MoneySums.code : ACode :=
  .seq (.region [0, 1, 2] (some []) none
     [⟨some 6, .mv (.c (.d (.bool false))), [], [], none, none⟩])
  (.seq (.seq (.region [0, 1, 2, 27] (some []) none
       [⟨some 25, .mv (.t 2), [], [], none, none⟩,
        ⟨some 26, .len (.t 25), [], [], none, none⟩,
        ⟨some 27, .bin .gtr (.t 26) (.c (.d (.int .i64 100))), [], [], none, none⟩])
    (.cond (.t 27) (.seq (.region [6] (some []) none
         [⟨some 28, .call 49 [], [], [], none, none⟩,
          ⟨some 6, .mv (.t 28), [], [], none, none⟩])
      (.ret))
     (.skip)))
   (g_law01_MoneySums.c19))
def g_law01_MoneySums : AFn := { N := 166, res := [.slot 6], own := [], frz := [], code := g_law01_MoneySums.code }

/- paymaster/paymasterlaw01.awake: function 49.  -/
def g_law01_awake.o7 : List AOper :=
  [⟨some 35, .pick (.t 32) (.t 34) (.c (.d (.bool false))), [], [], none, none⟩,
     ⟨some 0, .mv (.t 35), [], [], none, none⟩]
def g_law01_awake.o6 : List AOper :=
  (⟨some 33, .mv (.t 6), [], [], (some (13, 32, true)), none⟩ ::
     ⟨some 34, .bin .eql (.t 33) (.c (.d (.int .i64 3))), [], [], (some (13, 32, true)), (some ([32, 34], (some [])))⟩ ::
     g_law01_awake.o7)
def g_law01_awake.o5 : List AOper :=
  (⟨some 31, .pick (.t 29) (.t 30) (.c (.d (.bool false))), [], [], none, none⟩ ::
     ⟨some 32, .mv (.t 31), [], [], none, (some ([6, 32], (some [])))⟩ ::
     g_law01_awake.o6)
def g_law01_awake.o4 : List AOper :=
  (⟨some 30, .mv (.t 4), [], [], (some (10, 29, true)), (some ([6, 29, 30], (some [])))⟩ ::
     g_law01_awake.o5)
def g_law01_awake.o3 : List AOper :=
  (⟨some 28, .pick (.t 25) (.t 27) (.c (.d (.bool false))), [], [], none, none⟩ ::
     ⟨some 29, .mv (.t 28), [], [], none, (some ([4, 6, 29], (some [])))⟩ ::
     g_law01_awake.o4)
def g_law01_awake.o2 : List AOper :=
  (⟨some 26, .mv (.t 3), [], [], (some (6, 25, true)), none⟩ ::
     ⟨some 27, .bin .eql (.t 26) (.c (.d (.int .i64 1234))), [], [], (some (6, 25, true)), (some ([4, 6, 25, 27], (some [])))⟩ ::
     g_law01_awake.o3)
def g_law01_awake.o1 : List AOper :=
  (⟨some 24, .pick (.t 21) (.t 23) (.c (.d (.bool false))), [], [], none, none⟩ ::
     ⟨some 25, .mv (.t 24), [], [], none, (some ([3, 4, 6, 25], (some [])))⟩ ::
     g_law01_awake.o2)
def g_law01_awake.o0 : List AOper :=
  (⟨some 22, .mv (.t 2), [], [], (some (2, 21, true)), none⟩ ::
     ⟨some 23, .bin .eql (.t 22) (.c (.d (.int .i64 0))), [], [], (some (2, 21, true)), (some ([3, 4, 6, 21, 23], (some [])))⟩ ::
     g_law01_awake.o1)
def g_law01_awake.c0 : ACode :=
  .ret
def g_law01_awake.c1 : ACode :=
  .seq (.region [0] (some []) none
     (⟨some 19, .mv (.t 1), [], [], none, none⟩ ::
      ⟨some 20, .bin .eql (.t 19) (.c (.d (.str [45, 48, 46, 48, 53]))), [], [], none, none⟩ ::
      ⟨some 21, .mv (.t 20), [], [], none, (some ([2, 3, 4, 6, 21], (some [])))⟩ ::
      g_law01_awake.o0))
  (g_law01_awake.c0)
def g_law01_awake.c2 : ACode :=
  .seq (.region [1, 2, 3, 4, 6] (some []) none
     [⟨some 16, .call 63 [(.c (.d (.int .i64 9223372036854775807))), (.c (.d (.int .i64 1)))], [], [], none, none⟩,
      ⟨some 15, .mv (.t 16), [], [], none, none⟩,
      ⟨some 17, .ext (.t 15) 0, [], [], none, none⟩,
      ⟨some 18, .ext (.t 15) 1, [], [], none, none⟩,
      ⟨some 5, .mv (.t 17), [], [], none, none⟩,
      ⟨some 6, .mv (.t 18), [], [], none, none⟩])
  (g_law01_awake.c1)
def g_law01_awake.c3 : ACode :=
  .seq (.region [1, 2, 3, 4] (some []) none
     [⟨some 12, .call 51 [(.c (.d (.str [49, 50, 46, 51, 52])))], [], [], none, none⟩,
      ⟨some 11, .mv (.t 12), [], [], none, none⟩,
      ⟨some 13, .ext (.t 11) 0, [], [], none, none⟩,
      ⟨some 14, .ext (.t 11) 1, [], [], none, none⟩,
      ⟨some 3, .mv (.t 13), [], [], none, none⟩,
      ⟨some 4, .mv (.t 14), [], [], none, none⟩])
  (g_law01_awake.c2)
def g_law01_awake.code : ACode :=
  .seq (.region [] (some []) none
     [⟨some 0, .mv (.c (.d (.bool false))), [], [], none, none⟩])
  (.seq (.region [1, 2] (some []) none
      [⟨some 8, .call 50 [(.c (.d (.int .i64 (-5))))], [], [], none, none⟩,
       ⟨some 7, .mv (.t 8), [], [], none, none⟩,
       ⟨some 9, .ext (.t 7) 0, [], [], none, none⟩,
       ⟨some 10, .ext (.t 7) 1, [], [], none, none⟩,
       ⟨some 1, .mv (.t 9), [], [], none, none⟩,
       ⟨some 2, .mv (.t 10), [], [], none, none⟩])
   (g_law01_awake.c3))
def g_law01_awake : AFn := { N := 36, res := [.slot 0], own := [], frz := [], code := g_law01_awake.code }

/- paymaster/money.Text: function 50. drawn region 7: first 11, left 0 -/
def g_money_Text.c0 : ACode :=
  .seq (.region [2, 3] (some []) (some ([0, 1, 2, 3, 4, 5, 6, 7, 8, 9, 10], .done))
     [⟨some 17, .mv (.t 4), [], [], none, none⟩,
      ⟨some 18, .mv (.t 0), [], [], none, none⟩,
      ⟨some 19, .bin .quo (.t 18) (.c (.d (.int .i64 100))), [], [1], none, none⟩,
      ⟨some 20, .call 68 [(.t 19)], [], [2], none, none⟩,
      ⟨some 21, .bin .add (.t 17) (.t 20), [], [0, 3], none, none⟩,
      ⟨some 22, .bin .add (.t 21) (.c (.d (.str [46]))), [], [4], none, none⟩,
      ⟨some 23, .mv (.t 5), [], [], none, none⟩,
      ⟨some 24, .slcS (.t 23) (some (.c (.d (.int .i64 1)))) none, [], [6], none, none⟩,
      ⟨some 25, .bin .add (.t 22) (.t 24), [], [5, 7], none, none⟩,
      ⟨some 2, .mv (.t 25), [], [8, 3, 0, 1, 2, 3, 4, 5, 6, 7, 8], none, none⟩,
      ⟨some 3, .mv (.c (.d (.int .i64 0))), [], [9, 0, 1, 2, 3, 4, 5, 6, 7, 8, 9], none, none⟩])
  (.ret)
def g_money_Text.c1 : ACode :=
  .seq (.region [0, 4, 5] (some []) none
     [⟨some 13, .mv (.t 0), [], [], none, none⟩,
      ⟨some 14, .bin .rem (.t 13) (.c (.d (.int .i64 100))), [], [], none, none⟩,
      ⟨some 15, .bin .add (.c (.d (.int .i64 100))) (.t 14), [], [], none, none⟩,
      ⟨some 16, .call 68 [(.t 15)], [], [], none, none⟩,
      ⟨some 5, .mv (.t 16), [], [], none, none⟩])
  (g_money_Text.c0)
def g_money_Text.c2 : ACode :=
  .seq (.region [0, 4] (some []) none
     [⟨some 4, .mv (.c (.d (.str []))), [], [], none, none⟩])
  (.seq (.seq (.region [0, 4, 10] (some []) none
       [⟨some 9, .mv (.t 0), [], [], none, none⟩,
        ⟨some 10, .bin .lss (.t 9) (.c (.d (.int .i64 0))), [], [], none, none⟩])
    (.cond (.t 10) (.region [0, 4] (some []) none
        [⟨some 11, .mv (.t 0), [], [], none, none⟩,
         ⟨some 12, .un .neg (.t 11), [], [], none, none⟩,
         ⟨some 4, .mv (.c (.d (.str [45]))), [], [], none, none⟩,
         ⟨some 0, .mv (.t 12), [], [], none, none⟩])
     (.skip)))
   (g_money_Text.c1))
def g_money_Text.code : ACode :=
  .seq (.region [0] (some []) none
     [⟨some 2, .mv (.c (.d (.str []))), [], [], none, none⟩,
      ⟨some 3, .mv (.c (.d (.int .i64 0))), [], [], none, none⟩])
  (.seq (.seq (.region [0, 8] (some []) none
       [⟨some 6, .mv (.t 0), [], [], none, none⟩,
        ⟨some 7, .call 58 [(.t 6)], [], [], none, none⟩,
        ⟨some 8, .un .not (.t 7), [], [], none, none⟩])
    (.cond (.t 8) (.seq (.region [2, 3] (some []) none
         [⟨some 2, .mv (.c (.d (.str []))), [], [], none, none⟩,
          ⟨some 3, .mv (.c (.d (.int .i64 3))), [], [], none, none⟩])
      (.ret))
     (.skip)))
   (g_money_Text.c2))
def g_money_Text : AFn := { N := 26, res := [.slot 2, .slot 3], own := [], frz := [], code := g_money_Text.code }

/- paymaster/money.Parse: function 51.  -/
def g_money_Parse.o1 : List AOper :=
  [⟨some 20, .pick (.t 16) (.c (.d (.bool true))) (.t 19), [], [], none, none⟩]
def g_money_Parse.o0 : List AOper :=
  (⟨some 17, .mv (.t 4), [], [], (some (2, 16, false)), none⟩ ::
     ⟨some 18, .call 58 [(.t 17)], [], [], (some (2, 16, false)), none⟩ ::
     ⟨some 19, .un .not (.t 18), [], [], (some (2, 16, false)), (some ([0, 4, 16, 19], (some [])))⟩ ::
     g_money_Parse.o1)
def g_money_Parse.c0 : ACode :=
  .cond (.t 20) (.seq (.region [2, 3] (some []) none
      [⟨some 2, .mv (.c (.d (.int .i64 0))), [], [], none, none⟩,
       ⟨some 3, .mv (.c (.d (.bool false))), [], [], none, none⟩])
   (.ret))
  (.skip)
def g_money_Parse.c1 : ACode :=
  .seq (.region [4, 28] (some []) none
     [⟨some 26, .mv (.t 6), [], [], none, none⟩,
      ⟨some 27, .mv (.t 0), [], [], none, none⟩,
      ⟨some 28, .bin .neq (.t 26) (.t 27), [], [], none, none⟩])
  (.cond (.t 28) (.seq (.region [2, 3] (some []) none
       [⟨some 2, .mv (.c (.d (.int .i64 0))), [], [], none, none⟩,
        ⟨some 3, .mv (.c (.d (.bool false))), [], [], none, none⟩])
    (.ret))
   (.skip))
def g_money_Parse.c2 : ACode :=
  .seq (.region [2, 3] (some []) none
     [⟨some 29, .mv (.t 4), [], [], none, none⟩,
      ⟨some 2, .mv (.t 29), [], [], none, none⟩,
      ⟨some 3, .mv (.c (.d (.bool true))), [], [], none, none⟩])
  (.ret)
def g_money_Parse.c3 : ACode :=
  .seq (.seq (.region [0, 4, 6] (some []) none
      [⟨some 22, .mv (.t 4), [], [], none, none⟩,
       ⟨some 23, .call 50 [(.t 22)], [], [], none, none⟩,
       ⟨some 21, .mv (.t 23), [], [], none, none⟩,
       ⟨some 24, .ext (.t 21) 0, [], [], none, none⟩,
       ⟨some 25, .ext (.t 21) 1, [], [], none, none⟩,
       ⟨some 6, .mv (.t 24), [], [], none, none⟩,
       ⟨some 7, .mv (.t 25), [], [], none, none⟩])
   (g_money_Parse.c1))
  (g_money_Parse.c2)
def g_money_Parse.c4 : ACode :=
  .seq (.seq (.region [0, 4, 20] (some []) none
      (⟨some 14, .mv (.t 5), [], [], none, none⟩ ::
       ⟨some 15, .nilE true (.t 14), [], [], none, none⟩ ::
       ⟨some 16, .mv (.t 15), [], [], none, (some ([0, 4, 16], (some [])))⟩ ::
       g_money_Parse.o0))
   (g_money_Parse.c0))
  (g_money_Parse.c3)
def g_money_Parse.code : ACode :=
  .seq (.region [0] (some []) none
     [⟨some 2, .mv (.c (.d (.int .i64 0))), [], [], none, none⟩,
      ⟨some 3, .mv (.c (.d (.bool false))), [], [], none, none⟩])
  (.seq (.region [0, 4, 5] (some []) none
      [⟨some 9, .mv (.t 0), [], [], none, none⟩,
       ⟨some 10, .call 69 [(.t 9), (.c (.d (.str [46]))), (.c (.d (.str []))), (.c (.d (.int .i64 1)))], [], [], none, none⟩,
       ⟨some 11, .call 70 [(.t 10)], [], [], none, none⟩,
       ⟨some 8, .mv (.t 11), [], [], none, none⟩,
       ⟨some 12, .ext (.t 8) 0, [], [], none, none⟩,
       ⟨some 13, .ext (.t 8) 1, [], [], none, none⟩,
       ⟨some 4, .mv (.t 12), [], [], none, none⟩,
       ⟨some 5, .mv (.t 13), [], [], none, none⟩])
   (g_money_Parse.c4))
def g_money_Parse : AFn := { N := 30, res := [.slot 2, .slot 3], own := [], frz := [], code := g_money_Parse.code }

/- paymaster/paymasterref01.Parse: function 52.  -/
def g_ref01_Parse.o1 : List AOper :=
  [⟨some 18, .pick (.t 14) (.t 17) (.c (.d (.bool false))), [], [], none, none⟩]
def g_ref01_Parse.o0 : List AOper :=
  (⟨some 15, .mv (.t 4), [], [], (some (3, 14, true)), none⟩ ::
     ⟨some 16, .idx (.t 15) (.c (.d (.int .i64 0))), [], [], (some (3, 14, true)), none⟩ ::
     ⟨some 17, .bin .eql (.t 16) (.c (.d (.int .u8 45))), [], [], (some (3, 14, true)), (some ([0, 4, 5, 14, 17], (some [])))⟩ ::
     g_ref01_Parse.o1)
def g_ref01_Parse.c0 : ACode :=
  .cond (.t 18) (.region [0, 4, 5] (some []) none
     [⟨some 19, .mv (.t 4), [], [], none, none⟩,
      ⟨some 20, .slcS (.t 19) (some (.c (.d (.int .i64 1)))) none, [], [], none, none⟩,
      ⟨some 4, .mv (.t 20), [], [], none, none⟩,
      ⟨some 5, .mv (.c (.d (.bool true))), [], [], none, none⟩])
  (.skip)
def g_ref01_Parse.o3 : List AOper :=
  [⟨some 42, .pick (.t 39) (.c (.d (.bool true))) (.t 41), [], [], none, none⟩]
def g_ref01_Parse.o2 : List AOper :=
  (⟨some 40, .mv (.t 8), [], [], (some (2, 39, false)), none⟩ ::
     ⟨some 41, .bin .gtr (.t 40) (.c (.d (.int .u8 57))), [], [], (some (2, 39, false)), (some ([0, 4, 5, 6, 7, 8, 39, 41], (some [])))⟩ ::
     g_ref01_Parse.o3)
def g_ref01_Parse.c1 : ACode :=
  .cond (.t 42) (.seq (.region [2, 3] (some []) none
      [⟨some 2, .mv (.c (.d (.int .i64 0))), [], [], none, none⟩,
       ⟨some 3, .mv (.c (.d (.bool false))), [], [], none, none⟩])
   (.ret))
  (.skip)
def g_ref01_Parse.c2 : ACode :=
  .region [0, 4, 5, 6, 7] (some []) none
    [⟨some 51, .mv (.t 6), [], [], none, none⟩,
     ⟨some 52, .bin .mul (.c (.d (.int .i64 10))) (.t 51), [], [], none, none⟩,
     ⟨some 53, .mv (.t 9), [], [], none, none⟩,
     ⟨some 54, .bin .add (.t 52) (.t 53), [], [], none, none⟩,
     ⟨some 6, .mv (.t 54), [], [], none, none⟩]
def g_ref01_Parse.c3 : ACode :=
  .seq (.seq (.region [0, 4, 5, 6, 7, 9, 50] (some []) none
      [⟨some 46, .mv (.t 6), [], [], none, none⟩,
       ⟨some 47, .mv (.t 9), [], [], none, none⟩,
       ⟨some 48, .bin .sub (.c (.d (.int .i64 9223372036854775807))) (.t 47), [], [], none, none⟩,
       ⟨some 49, .bin .quo (.t 48) (.c (.d (.int .i64 10))), [], [], none, none⟩,
       ⟨some 50, .bin .gtr (.t 46) (.t 49), [], [], none, none⟩])
   (.cond (.t 50) (.seq (.region [2, 3] (some []) none
        [⟨some 2, .mv (.c (.d (.int .i64 0))), [], [], none, none⟩,
         ⟨some 3, .mv (.c (.d (.bool false))), [], [], none, none⟩])
     (.ret))
    (.skip)))
  (g_ref01_Parse.c2)
def g_ref01_Parse.c4 : ACode :=
  .seq (.region [0, 4, 5, 6, 7, 9] (some []) none
     [⟨some 43, .mv (.t 8), [], [], none, none⟩,
      ⟨some 44, .bin .sub (.t 43) (.c (.d (.int .u8 48))), [], [], none, none⟩,
      ⟨some 45, .conv .i64 (.t 44), [], [], none, none⟩,
      ⟨some 9, .mv (.t 45), [], [], none, none⟩])
  (g_ref01_Parse.c3)
def g_ref01_Parse.c5 : ACode :=
  .seq (.seq (.region [0, 4, 5, 6, 7, 8, 42] (some []) none
      (⟨some 37, .mv (.t 8), [], [], none, none⟩ ::
       ⟨some 38, .bin .lss (.t 37) (.c (.d (.int .u8 48))), [], [], none, none⟩ ::
       ⟨some 39, .mv (.t 38), [], [], none, (some ([0, 4, 5, 6, 7, 8, 39], (some [])))⟩ ::
       g_ref01_Parse.o2))
   (g_ref01_Parse.c1))
  (g_ref01_Parse.c4)
def g_ref01_Parse.c6 : ACode :=
  .seq (.seq (.region [0, 4, 5, 6, 7, 8, 34] (some []) none
      [⟨some 30, .mv (.t 7), [], [], none, none⟩,
       ⟨some 31, .mv (.t 4), [], [], none, none⟩,
       ⟨some 32, .lenS (.t 31), [], [], none, none⟩,
       ⟨some 33, .bin .sub (.t 32) (.c (.d (.int .i64 3))), [], [], none, none⟩,
       ⟨some 34, .bin .eql (.t 30) (.t 33), [], [], none, none⟩])
   (.cond (.t 34) (.seq (.seq (.region [0, 4, 5, 6, 7, 36] (some []) none
         [⟨some 35, .mv (.t 8), [], [], none, none⟩,
          ⟨some 36, .bin .neq (.t 35) (.c (.d (.int .u8 46))), [], [], none, none⟩])
      (.cond (.t 36) (.seq (.region [2, 3] (some []) none
           [⟨some 2, .mv (.c (.d (.int .i64 0))), [], [], none, none⟩,
            ⟨some 3, .mv (.c (.d (.bool false))), [], [], none, none⟩])
        (.ret))
       (.skip)))
     (.exit 1))
    (.skip)))
  (g_ref01_Parse.c5)
def g_ref01_Parse.c7 : ACode :=
  .region [0, 4, 5, 6, 7] (some []) none
    [⟨some 25, .mv (.t 7), [], [], none, none⟩,
     ⟨some 26, .bin .add (.t 25) (.c (.d (.int .i64 1))), [], [], none, none⟩,
     ⟨some 7, .mv (.t 26), [], [], none, none⟩]
def g_ref01_Parse.c8 : ACode :=
  .seq (.block 1 [0, 4, 5, 6, 7] (some []) (.seq (.region [0, 4, 5, 6, 7, 8] (some []) none
       [⟨some 27, .mv (.t 4), [], [], none, none⟩,
        ⟨some 28, .mv (.t 7), [], [], none, none⟩,
        ⟨some 29, .idx (.t 27) (.t 28), [], [], none, none⟩,
        ⟨some 8, .mv (.t 29), [], [], none, none⟩])
    (g_ref01_Parse.c6)))
  (g_ref01_Parse.c7)
def g_ref01_Parse.l0 : ACode :=
  .loop [0, 4, 5, 6, 7] (some []) (.seq (.seq (.region [0, 4, 5, 6, 7, 24] (some []) none
      [⟨some 21, .mv (.t 7), [], [], none, none⟩,
       ⟨some 22, .mv (.t 4), [], [], none, none⟩,
       ⟨some 23, .lenS (.t 22), [], [], none, none⟩,
       ⟨some 24, .bin .lss (.t 21) (.t 23), [], [], none, none⟩])
   (.cond (.t 24) (.skip)
    (.exit 0)))
  (g_ref01_Parse.c8))
def g_ref01_Parse.o5 : List AOper :=
  [⟨some 67, .pick (.t 62) (.t 66) (.c (.d (.bool false))), [], [], none, none⟩,
     ⟨some 2, .mv (.t 58), [], [], none, none⟩,
     ⟨some 3, .mv (.t 67), [], [], none, none⟩]
def g_ref01_Parse.o4 : List AOper :=
  (⟨some 63, .mv (.t 6), [], [], (some (4, 62, true)), none⟩ ::
     ⟨some 64, .call 54 [(.t 63)], [], [], (some (4, 62, true)), none⟩ ::
     ⟨some 65, .mv (.t 0), [], [], (some (4, 62, true)), none⟩ ::
     ⟨some 66, .bin .eql (.t 64) (.t 65), [], [], (some (4, 62, true)), (some ([58, 62, 66], (some [])))⟩ ::
     g_ref01_Parse.o5)
def g_ref01_Parse.c9 : ACode :=
  .ret
def g_ref01_Parse.c10 : ACode :=
  .seq (.region [2, 3] (some []) none
     (⟨some 58, .mv (.t 6), [], [], none, none⟩ ::
      ⟨some 59, .mv (.t 4), [], [], none, none⟩ ::
      ⟨some 60, .lenS (.t 59), [], [], none, none⟩ ::
      ⟨some 61, .bin .geq (.t 60) (.c (.d (.int .i64 4))), [], [], none, none⟩ ::
      ⟨some 62, .mv (.t 61), [], [], none, (some ([0, 6, 58, 62], (some [])))⟩ ::
      g_ref01_Parse.o4))
  (g_ref01_Parse.c9)
def g_ref01_Parse.c11 : ACode :=
  .seq (.seq (.region [0, 4, 6, 55] (some []) none
      [⟨some 55, .mv (.t 5), [], [], none, none⟩])
   (.cond (.t 55) (.region [0, 4, 6] (some []) none
       [⟨some 56, .mv (.t 6), [], [], none, none⟩,
        ⟨some 57, .un .neg (.t 56), [], [], none, none⟩,
        ⟨some 6, .mv (.t 57), [], [], none, none⟩])
    (.skip)))
  (g_ref01_Parse.c10)
def g_ref01_Parse.c12 : ACode :=
  .seq (.region [0, 4, 5, 6] (some []) none
     [⟨some 6, .mv (.c (.d (.int .i64 0))), [], [], none, none⟩])
  (.seq (.seq (.region [0, 4, 5, 6, 7] (some []) none
       [⟨some 7, .mv (.c (.d (.int .i64 0))), [], [], none, none⟩])
    (.block 0 [0, 4, 5, 6] (some []) (g_ref01_Parse.l0)))
   (g_ref01_Parse.c11))
def g_ref01_Parse.code : ACode :=
  .seq (.region [0] (some []) none
     [⟨some 2, .mv (.c (.d (.int .i64 0))), [], [], none, none⟩,
      ⟨some 3, .mv (.c (.d (.bool false))), [], [], none, none⟩])
  (.seq (.region [0, 4, 5] (some []) none
      [⟨some 10, .mv (.t 0), [], [], none, none⟩,
       ⟨some 4, .mv (.t 10), [], [], none, none⟩,
       ⟨some 5, .mv (.c (.d (.bool false))), [], [], none, none⟩])
   (.seq (.seq (.region [0, 4, 5, 18] (some []) none
        (⟨some 11, .mv (.t 4), [], [], none, none⟩ ::
         ⟨some 12, .lenS (.t 11), [], [], none, none⟩ ::
         ⟨some 13, .bin .gtr (.t 12) (.c (.d (.int .i64 0))), [], [], none, none⟩ ::
         ⟨some 14, .mv (.t 13), [], [], none, (some ([0, 4, 5, 14], (some [])))⟩ ::
         g_ref01_Parse.o0))
     (g_ref01_Parse.c0))
    (g_ref01_Parse.c12)))
def g_ref01_Parse : AFn := { N := 68, res := [.slot 2, .slot 3], own := [], frz := [], code := g_ref01_Parse.code }

/- paymaster/paymasterref01.Right: function 53.  -/
def g_ref01_Right.code : ACode :=
  .seq (.region [0] (some []) none
     [⟨some 2, .mv (.c (.d (.bool false))), [], [], none, none⟩])
  (.seq (.region [2] (some []) none
      [⟨some 3, .mv (.t 0), [], [], none, none⟩,
       ⟨some 4, .bin .neq (.t 3) (.c (.d (.int .i64 (-9223372036854775808)))), [], [], none, none⟩,
       ⟨some 2, .mv (.t 4), [], [], none, none⟩])
   (.ret))
def g_ref01_Right : AFn := { N := 5, res := [.slot 2], own := [], frz := [], code := g_ref01_Right.code }

/- paymaster/paymasterref01.Text: function 54.  -/
def g_ref01_Text.c0 : ACode :=
  .seq (.region [2] (some []) none
     [⟨some 9, .mv (.t 0), [], [], none, none⟩,
      ⟨some 10, .bin .quo (.t 9) (.c (.d (.int .i64 100))), [], [], none, none⟩,
      ⟨some 11, .call 71 [(.t 10)], [], [], none, none⟩,
      ⟨some 12, .bin .add (.t 11) (.c (.d (.str [46]))), [], [], none, none⟩,
      ⟨some 13, .mv (.t 0), [], [], none, none⟩,
      ⟨some 14, .bin .rem (.t 13) (.c (.d (.int .i64 100))), [], [], none, none⟩,
      ⟨some 15, .bin .quo (.t 14) (.c (.d (.int .i64 10))), [], [], none, none⟩,
      ⟨some 16, .call 71 [(.t 15)], [], [], none, none⟩,
      ⟨some 17, .bin .add (.t 12) (.t 16), [], [], none, none⟩,
      ⟨some 18, .mv (.t 0), [], [], none, none⟩,
      ⟨some 19, .bin .rem (.t 18) (.c (.d (.int .i64 10))), [], [], none, none⟩,
      ⟨some 20, .call 71 [(.t 19)], [], [], none, none⟩,
      ⟨some 21, .bin .add (.t 17) (.t 20), [], [], none, none⟩,
      ⟨some 2, .mv (.t 21), [], [], none, none⟩])
  (.ret)
def g_ref01_Text.code : ACode :=
  .seq (.region [0] (some []) none
     [⟨some 2, .mv (.c (.d (.str []))), [], [], none, none⟩])
  (.seq (.seq (.region [0, 4] (some []) none
       [⟨some 3, .mv (.t 0), [], [], none, none⟩,
        ⟨some 4, .bin .lss (.t 3) (.c (.d (.int .i64 0))), [], [], none, none⟩])
    (.cond (.t 4) (.seq (.region [2] (some []) none
         [⟨some 5, .mv (.t 0), [], [], none, none⟩,
          ⟨some 6, .un .neg (.t 5), [], [], none, none⟩,
          ⟨some 7, .call 54 [(.t 6)], [], [], none, none⟩,
          ⟨some 8, .bin .add (.c (.d (.str [45]))) (.t 7), [], [], none, none⟩,
          ⟨some 2, .mv (.t 8), [], [], none, none⟩])
      (.ret))
     (.skip)))
   (g_ref01_Text.c0))
def g_ref01_Text : AFn := { N := 22, res := [.slot 2], own := [], frz := [], code := g_ref01_Text.code }

/- paymaster/money.Neg: function 57.  -/
def g_money_Neg.c0 : ACode :=
  .seq (.region [2, 3] (some []) none
     [⟨some 7, .mv (.t 0), [], [], none, none⟩,
      ⟨some 8, .un .neg (.t 7), [], [], none, none⟩,
      ⟨some 2, .mv (.t 8), [], [], none, none⟩,
      ⟨some 3, .mv (.c (.d (.int .i64 0))), [], [], none, none⟩])
  (.ret)
def g_money_Neg.code : ACode :=
  .seq (.region [0] (some []) none
     [⟨some 2, .mv (.c (.d (.int .i64 0))), [], [], none, none⟩,
      ⟨some 3, .mv (.c (.d (.int .i64 0))), [], [], none, none⟩])
  (.seq (.seq (.region [0, 6] (some []) none
       [⟨some 4, .mv (.t 0), [], [], none, none⟩,
        ⟨some 5, .call 58 [(.t 4)], [], [], none, none⟩,
        ⟨some 6, .un .not (.t 5), [], [], none, none⟩])
    (.cond (.t 6) (.seq (.region [2, 3] (some []) none
         [⟨some 2, .mv (.c (.d (.int .i64 0))), [], [], none, none⟩,
          ⟨some 3, .mv (.c (.d (.int .i64 3))), [], [], none, none⟩])
      (.ret))
     (.skip)))
   (g_money_Neg.c0))
def g_money_Neg : AFn := { N := 9, res := [.slot 2, .slot 3], own := [], frz := [], code := g_money_Neg.code }

/- paymaster/money.Right: function 58.  -/
def g_money_Right.code : ACode :=
  .seq (.region [0] (some []) none
     [⟨some 2, .mv (.c (.d (.bool false))), [], [], none, none⟩])
  (.seq (.region [2] (some []) none
      [⟨some 3, .mv (.t 0), [], [], none, none⟩,
       ⟨some 4, .bin .geq (.t 3) (.c (.d (.int .i64 (-9223372036854775807)))), [], [], none, none⟩,
       ⟨some 2, .mv (.t 4), [], [], none, none⟩])
   (.ret))
def g_money_Right : AFn := { N := 5, res := [.slot 2], own := [], frz := [], code := g_money_Right.code }

/- paymaster/money.Sum: function 60.  -/
def g_money_Sum.c0 : ACode :=
  .region [4, 9, 10, 11] (some []) none
    [⟨some 24, .mv (.t 7), [], [], none, none⟩,
     ⟨some 4, .mv (.t 24), [], [], none, none⟩]
def g_money_Sum.c1 : ACode :=
  .seq (.seq (.region [7, 8, 9, 10, 11, 22] (some []) none
      [⟨some 21, .mv (.t 8), [], [], none, none⟩,
       ⟨some 22, .bin .neq (.t 21) (.c (.d (.int .i64 0))), [], [], none, none⟩])
   (.cond (.t 22) (.seq (.region [2, 3] (some []) none
        [⟨some 23, .mv (.t 8), [], [], none, none⟩,
         ⟨some 2, .mv (.c (.d (.int .i64 0))), [], [], none, none⟩,
         ⟨some 3, .mv (.t 23), [], [], none, none⟩])
     (.ret))
    (.skip)))
  (g_money_Sum.c0)
def g_money_Sum.c2 : ACode :=
  .region [4, 9, 10, 11] (some []) none
    [⟨some 25, .bin .add (.t 11) (.c (.d (.int .i64 1))), [], [], none, none⟩,
     ⟨some 11, .mv (.t 25), [], [], none, none⟩]
def g_money_Sum.l0 : ACode :=
  .loop [4, 9, 10, 11] (some []) (.seq (.region [4, 9, 10, 11, 12] (some []) none
     [⟨some 12, .bin .lss (.t 11) (.t 10), [], [], none, none⟩])
  (.seq (.cond (.t 12) (.skip)
    (.exit 0))
   (.seq (.block 1 [4, 9, 10, 11] (some []) (.seq (.region [4, 6, 9, 10, 11] (some []) none
         [⟨some 13, .iaddr 1 (.t 9) (.t 11), [], [], none, none⟩,
          ⟨some 14, .load none (.t 13), [], [], none, none⟩,
          ⟨some 6, .mv (.t 14), [], [], none, none⟩])
      (.seq (.region [7, 8, 9, 10, 11] (some []) none
          [⟨some 16, .mv (.t 4), [], [], none, none⟩,
           ⟨some 17, .mv (.t 6), [], [], none, none⟩,
           ⟨some 18, .call 63 [(.t 16), (.t 17)], [], [], none, none⟩,
           ⟨some 15, .mv (.t 18), [], [], none, none⟩,
           ⟨some 19, .ext (.t 15) 0, [], [], none, none⟩,
           ⟨some 20, .ext (.t 15) 1, [], [], none, none⟩,
           ⟨some 7, .mv (.t 19), [], [], none, none⟩,
           ⟨some 8, .mv (.t 20), [], [], none, none⟩])
       (g_money_Sum.c1))))
    (g_money_Sum.c2))))
def g_money_Sum.c3 : ACode :=
  .seq (.region [2, 3] (some []) none
     [⟨some 26, .mv (.t 4), [], [], none, none⟩,
      ⟨some 2, .mv (.t 26), [], [], none, none⟩,
      ⟨some 3, .mv (.c (.d (.int .i64 0))), [], [], none, none⟩])
  (.ret)
def g_money_Sum.code : ACode :=
  .seq (.region [0] (some []) none
     [⟨some 2, .mv (.c (.d (.int .i64 0))), [], [], none, none⟩,
      ⟨some 3, .mv (.c (.d (.int .i64 0))), [], [], none, none⟩])
  (.seq (.region [0, 4] (some []) none
      [⟨some 4, .mv (.c (.d (.int .i64 0))), [], [], none, none⟩])
   (.seq (.seq (.region [4, 9, 10, 11] (some []) none
        [⟨some 9, .mv (.t 0), [], [], none, none⟩,
         ⟨some 10, .len (.t 9), [], [], none, none⟩,
         ⟨some 11, .mv (.c (.d (.int .i64 0))), [], [], none, none⟩])
     (.block 0 [4] (some []) (g_money_Sum.l0)))
    (g_money_Sum.c3)))
def g_money_Sum : AFn := { N := 27, res := [.slot 2, .slot 3], own := [], frz := [], code := g_money_Sum.code }

/- paymaster/paymasterlaw01.little: function 62.  -/
def g_law01_little.c0 : ACode :=
  .region [3, 6, 7, 8] (some [16]) none
    [⟨some 17, .bin .add (.t 8) (.c (.d (.int .i64 1))), [], [], none, none⟩,
     ⟨some 8, .mv (.t 17), [], [], none, none⟩]
def g_law01_little.l0 : ACode :=
  .loop [3, 6, 7, 8] (some [16]) (.seq (.region [3, 6, 7, 8, 9] (some [16]) none
     [⟨some 9, .bin .lss (.t 8) (.t 7), [], [], none, none⟩])
  (.seq (.cond (.t 9) (.skip)
    (.exit 0))
   (.seq (.block 1 [3, 6, 7, 8] (some [16]) (.seq (.region [3, 5, 6, 7, 8] (some [16]) none
         [⟨some 10, .iaddr 1 (.t 6) (.t 8), [], [], none, none⟩,
          ⟨some 11, .load none (.t 10), [], [], none, none⟩,
          ⟨some 5, .mv (.t 11), [], [], none, none⟩])
      (.region [3, 6, 7, 8] (some [16]) none
         [⟨some 12, .mv (.t 3), [], [], none, none⟩,
          ⟨some 13, .mv (.t 5), [], [], none, none⟩,
          ⟨some 14, .bin .rem (.t 13) (.c (.d (.int .i64 9007199254740992))), [], [], none, none⟩,
          ⟨some 15, .bsl none 1 [] 1 [(0, (.t 14))], [], [], none, none⟩,
          ⟨some 16, .app (some 16) 1 8 (.t 12) (.t 15), [], [], none, none⟩,
          ⟨some 3, .mv (.t 16), [], [], none, none⟩])))
    (g_law01_little.c0))))
def g_law01_little.c1 : ACode :=
  .seq (.region [2] (some [16]) none
     [⟨some 18, .mv (.t 3), [], [], none, none⟩,
      ⟨some 2, .mv (.t 18), [], [], none, none⟩])
  (.ret)
def g_law01_little.code : ACode :=
  .seq (.region [0] (some []) none
     [⟨some 2, .mv (.c (.cap0)), [], [], none, none⟩])
  (.seq (.region [0, 3] (some [16]) none
      [⟨some 3, .mv (.c (.cap0)), [], [], none, none⟩])
   (.seq (.seq (.region [3, 6, 7, 8] (some [16]) none
        [⟨some 6, .mv (.t 0), [], [], none, none⟩,
         ⟨some 7, .len (.t 6), [], [], none, none⟩,
         ⟨some 8, .mv (.c (.d (.int .i64 0))), [], [], none, none⟩])
     (.block 0 [3] (some [16]) (g_law01_little.l0)))
    (g_law01_little.c1)))
def g_law01_little : AFn := { N := 19, res := [.slot 2], own := [], frz := [2], code := g_law01_little.code }

/- paymaster/money.Add: function 63.  -/
def g_money_Add.o15 : List AOper :=
  [⟨some 46, .pick (.t 35) (.c (.d (.bool true))) (.t 45), [], [], none, none⟩]
def g_money_Add.o14 : List AOper :=
  (⟨some 45, .pick (.t 42) (.t 44) (.c (.d (.bool false))), [], [], (some (25, 35, false)), (some ([6, 35, 45], (some [])))⟩ ::
     g_money_Add.o15)
def g_money_Add.o13 : List AOper :=
  (⟨some 43, .mv (.t 6), [], [], (some (32, 42, true)), none⟩ ::
     ⟨some 44, .bin .geq (.t 43) (.c (.d (.int .i64 0))), [], [], (some (32, 42, true)), (some ([6, 35, 42, 44], (some [])))⟩ ::
     g_money_Add.o14)
def g_money_Add.o12 : List AOper :=
  (⟨some 41, .pick (.t 38) (.t 40) (.c (.d (.bool false))), [], [], (some (25, 35, false)), none⟩ ::
     ⟨some 42, .mv (.t 41), [], [], (some (25, 35, false)), (some ([6, 35, 42], (some [])))⟩ ::
     g_money_Add.o13)
def g_money_Add.o11 : List AOper :=
  (⟨some 39, .mv (.t 1), [], [], (some (28, 38, true)), none⟩ ::
     ⟨some 40, .bin .lss (.t 39) (.c (.d (.int .i64 0))), [], [], (some (28, 38, true)), (some ([6, 35, 38, 40], (some [])))⟩ ::
     g_money_Add.o12)
def g_money_Add.o10 : List AOper :=
  (⟨some 36, .mv (.t 0), [], [], (some (25, 35, false)), none⟩ ::
     ⟨some 37, .bin .lss (.t 36) (.c (.d (.int .i64 0))), [], [], (some (25, 35, false)), none⟩ ::
     ⟨some 38, .mv (.t 37), [], [], (some (25, 35, false)), (some ([1, 6, 35, 38], (some [])))⟩ ::
     g_money_Add.o11)
def g_money_Add.o9 : List AOper :=
  (⟨some 34, .pick (.t 23) (.c (.d (.bool true))) (.t 33), [], [], none, none⟩ ::
     ⟨some 35, .mv (.t 34), [], [], none, (some ([0, 1, 6, 35], (some [])))⟩ ::
     g_money_Add.o10)
def g_money_Add.o8 : List AOper :=
  (⟨some 33, .pick (.t 30) (.t 32) (.c (.d (.bool false))), [], [], (some (13, 23, false)), (some ([0, 1, 6, 23, 33], (some [])))⟩ ::
     g_money_Add.o9)
def g_money_Add.o7 : List AOper :=
  (⟨some 31, .mv (.t 6), [], [], (some (20, 30, true)), none⟩ ::
     ⟨some 32, .bin .lss (.t 31) (.c (.d (.int .i64 0))), [], [], (some (20, 30, true)), (some ([0, 1, 6, 23, 30, 32], (some [])))⟩ ::
     g_money_Add.o8)
def g_money_Add.o6 : List AOper :=
  (⟨some 29, .pick (.t 26) (.t 28) (.c (.d (.bool false))), [], [], (some (13, 23, false)), none⟩ ::
     ⟨some 30, .mv (.t 29), [], [], (some (13, 23, false)), (some ([0, 1, 6, 23, 30], (some [])))⟩ ::
     g_money_Add.o7)
def g_money_Add.o5 : List AOper :=
  (⟨some 27, .mv (.t 1), [], [], (some (16, 26, true)), none⟩ ::
     ⟨some 28, .bin .gtr (.t 27) (.c (.d (.int .i64 0))), [], [], (some (16, 26, true)), (some ([0, 1, 6, 23, 26, 28], (some [])))⟩ ::
     g_money_Add.o6)
def g_money_Add.o4 : List AOper :=
  (⟨some 24, .mv (.t 0), [], [], (some (13, 23, false)), none⟩ ::
     ⟨some 25, .bin .gtr (.t 24) (.c (.d (.int .i64 0))), [], [], (some (13, 23, false)), none⟩ ::
     ⟨some 26, .mv (.t 25), [], [], (some (13, 23, false)), (some ([0, 1, 6, 23, 26], (some [])))⟩ ::
     g_money_Add.o5)
def g_money_Add.o3 : List AOper :=
  (⟨some 22, .pick (.t 18) (.c (.d (.bool true))) (.t 21), [], [], none, none⟩ ::
     ⟨some 23, .mv (.t 22), [], [], none, (some ([0, 1, 6, 23], (some [])))⟩ ::
     g_money_Add.o4)
def g_money_Add.o2 : List AOper :=
  (⟨some 19, .mv (.t 6), [], [], (some (8, 18, false)), none⟩ ::
     ⟨some 20, .call 58 [(.t 19)], [], [], (some (8, 18, false)), none⟩ ::
     ⟨some 21, .un .not (.t 20), [], [], (some (8, 18, false)), (some ([0, 1, 6, 18, 21], (some [])))⟩ ::
     g_money_Add.o3)
def g_money_Add.o1 : List AOper :=
  (⟨some 17, .pick (.t 13) (.c (.d (.bool true))) (.t 16), [], [], none, none⟩ ::
     ⟨some 18, .mv (.t 17), [], [], none, (some ([0, 1, 6, 18], (some [])))⟩ ::
     g_money_Add.o2)
def g_money_Add.o0 : List AOper :=
  (⟨some 14, .mv (.t 1), [], [], (some (3, 13, false)), none⟩ ::
     ⟨some 15, .call 58 [(.t 14)], [], [], (some (3, 13, false)), none⟩ ::
     ⟨some 16, .un .not (.t 15), [], [], (some (3, 13, false)), (some ([0, 1, 6, 13, 16], (some [])))⟩ ::
     g_money_Add.o1)
def g_money_Add.c0 : ACode :=
  .cond (.t 46) (.seq (.region [4, 5] (some []) none
      [⟨some 4, .mv (.c (.d (.int .i64 0))), [], [], none, none⟩,
       ⟨some 5, .mv (.c (.d (.int .i64 3))), [], [], none, none⟩])
   (.ret))
  (.skip)
def g_money_Add.c1 : ACode :=
  .seq (.region [4, 5] (some []) none
     [⟨some 47, .mv (.t 6), [], [], none, none⟩,
      ⟨some 4, .mv (.t 47), [], [], none, none⟩,
      ⟨some 5, .mv (.c (.d (.int .i64 0))), [], [], none, none⟩])
  (.ret)
def g_money_Add.c2 : ACode :=
  .seq (.seq (.region [6, 46] (some []) none
      (⟨some 10, .mv (.t 0), [], [], none, none⟩ ::
       ⟨some 11, .call 58 [(.t 10)], [], [], none, none⟩ ::
       ⟨some 12, .un .not (.t 11), [], [], none, none⟩ ::
       ⟨some 13, .mv (.t 12), [], [], none, (some ([0, 1, 6, 13], (some [])))⟩ ::
       g_money_Add.o0))
   (g_money_Add.c0))
  (g_money_Add.c1)
def g_money_Add.code : ACode :=
  .seq (.region [0, 1] (some []) none
     [⟨some 4, .mv (.c (.d (.int .i64 0))), [], [], none, none⟩,
      ⟨some 5, .mv (.c (.d (.int .i64 0))), [], [], none, none⟩])
  (.seq (.region [0, 1, 6] (some []) none
      [⟨some 7, .mv (.t 0), [], [], none, none⟩,
       ⟨some 8, .mv (.t 1), [], [], none, none⟩,
       ⟨some 9, .bin .add (.t 7) (.t 8), [], [], none, none⟩,
       ⟨some 6, .mv (.t 9), [], [], none, none⟩])
   (g_money_Add.c2))
def g_money_Add : AFn := { N := 48, res := [.slot 4, .slot 5], own := [], frz := [], code := g_money_Add.code }

/- paymaster/money.Sub: function 65.  -/
def g_money_Sub.c0 : ACode :=
  .seq (.region [4, 5] (some []) none
     [⟨some 16, .mv (.t 0), [], [], none, none⟩,
      ⟨some 17, .mv (.t 6), [], [], none, none⟩,
      ⟨some 18, .call 63 [(.t 16), (.t 17)], [], [], none, none⟩,
      ⟨some 19, .ext (.t 18) 0, [], [], none, none⟩,
      ⟨some 20, .ext (.t 18) 1, [], [], none, none⟩,
      ⟨some 4, .mv (.t 19), [], [], none, none⟩,
      ⟨some 5, .mv (.t 20), [], [], none, none⟩])
  (.ret)
def g_money_Sub.c1 : ACode :=
  .seq (.seq (.region [0, 6, 7, 14] (some []) none
      [⟨some 13, .mv (.t 7), [], [], none, none⟩,
       ⟨some 14, .bin .neq (.t 13) (.c (.d (.int .i64 0))), [], [], none, none⟩])
   (.cond (.t 14) (.seq (.region [4, 5] (some []) none
        [⟨some 15, .mv (.t 7), [], [], none, none⟩,
         ⟨some 4, .mv (.c (.d (.int .i64 0))), [], [], none, none⟩,
         ⟨some 5, .mv (.t 15), [], [], none, none⟩])
     (.ret))
    (.skip)))
  (g_money_Sub.c0)
def g_money_Sub.code : ACode :=
  .seq (.region [0, 1] (some []) none
     [⟨some 4, .mv (.c (.d (.int .i64 0))), [], [], none, none⟩,
      ⟨some 5, .mv (.c (.d (.int .i64 0))), [], [], none, none⟩])
  (.seq (.region [0, 6, 7] (some []) none
      [⟨some 9, .mv (.t 1), [], [], none, none⟩,
       ⟨some 10, .call 57 [(.t 9)], [], [], none, none⟩,
       ⟨some 8, .mv (.t 10), [], [], none, none⟩,
       ⟨some 11, .ext (.t 8) 0, [], [], none, none⟩,
       ⟨some 12, .ext (.t 8) 1, [], [], none, none⟩,
       ⟨some 6, .mv (.t 11), [], [], none, none⟩,
       ⟨some 7, .mv (.t 12), [], [], none, none⟩])
   (g_money_Sub.c1))
def g_money_Sub : AFn := { N := 21, res := [.slot 4, .slot 5], own := [], frz := [], code := g_money_Sub.code }

/- paymaster/paymasterref01.Add: function 67.  -/
def g_ref01_Add.o1 : List AOper :=
  [⟨some 13, .pick (.t 9) (.c (.d (.bool true))) (.t 12), [], [], none, none⟩]
def g_ref01_Add.o0 : List AOper :=
  (⟨some 10, .mv (.t 1), [], [], (some (3, 9, false)), none⟩ ::
     ⟨some 11, .call 53 [(.t 10)], [], [], (some (3, 9, false)), none⟩ ::
     ⟨some 12, .un .not (.t 11), [], [], (some (3, 9, false)), (some ([0, 1, 9, 12], (some [])))⟩ ::
     g_ref01_Add.o1)
def g_ref01_Add.c0 : ACode :=
  .cond (.t 13) (.seq (.region [4, 5] (some []) none
      [⟨some 4, .mv (.c (.d (.int .i64 0))), [], [], none, none⟩,
       ⟨some 5, .mv (.c (.d (.bool false))), [], [], none, none⟩])
   (.ret))
  (.skip)
def g_ref01_Add.o7 : List AOper :=
  [⟨some 31, .pick (.t 22) (.c (.d (.bool true))) (.t 30), [], [], none, none⟩]
def g_ref01_Add.o6 : List AOper :=
  (⟨some 30, .pick (.t 25) (.t 29) (.c (.d (.bool false))), [], [], (some (8, 22, false)), (some ([0, 1, 22, 30], (some [])))⟩ ::
     g_ref01_Add.o7)
def g_ref01_Add.o5 : List AOper :=
  (⟨some 26, .mv (.t 0), [], [], (some (11, 25, true)), none⟩ ::
     ⟨some 27, .mv (.t 1), [], [], (some (11, 25, true)), none⟩ ::
     ⟨some 28, .bin .sub (.c (.d (.int .i64 (-9223372036854775807)))) (.t 27), [], [], (some (11, 25, true)), none⟩ ::
     ⟨some 29, .bin .lss (.t 26) (.t 28), [], [], (some (11, 25, true)), (some ([0, 1, 22, 25, 29], (some [])))⟩ ::
     g_ref01_Add.o6)
def g_ref01_Add.o4 : List AOper :=
  (⟨some 23, .mv (.t 1), [], [], (some (8, 22, false)), none⟩ ::
     ⟨some 24, .bin .lss (.t 23) (.c (.d (.int .i64 0))), [], [], (some (8, 22, false)), none⟩ ::
     ⟨some 25, .mv (.t 24), [], [], (some (8, 22, false)), (some ([0, 1, 22, 25], (some [])))⟩ ::
     g_ref01_Add.o5)
def g_ref01_Add.o3 : List AOper :=
  (⟨some 21, .pick (.t 16) (.t 20) (.c (.d (.bool false))), [], [], none, none⟩ ::
     ⟨some 22, .mv (.t 21), [], [], none, (some ([0, 1, 22], (some [])))⟩ ::
     g_ref01_Add.o4)
def g_ref01_Add.o2 : List AOper :=
  (⟨some 17, .mv (.t 0), [], [], (some (2, 16, true)), none⟩ ::
     ⟨some 18, .mv (.t 1), [], [], (some (2, 16, true)), none⟩ ::
     ⟨some 19, .bin .sub (.c (.d (.int .i64 9223372036854775807))) (.t 18), [], [], (some (2, 16, true)), none⟩ ::
     ⟨some 20, .bin .gtr (.t 17) (.t 19), [], [], (some (2, 16, true)), (some ([0, 1, 16, 20], (some [])))⟩ ::
     g_ref01_Add.o3)
def g_ref01_Add.c1 : ACode :=
  .cond (.t 31) (.seq (.region [4, 5] (some []) none
      [⟨some 4, .mv (.c (.d (.int .i64 0))), [], [], none, none⟩,
       ⟨some 5, .mv (.c (.d (.bool false))), [], [], none, none⟩])
   (.ret))
  (.skip)
def g_ref01_Add.c2 : ACode :=
  .seq (.region [4, 5] (some []) none
     [⟨some 32, .mv (.t 0), [], [], none, none⟩,
      ⟨some 33, .mv (.t 1), [], [], none, none⟩,
      ⟨some 34, .bin .add (.t 32) (.t 33), [], [], none, none⟩,
      ⟨some 4, .mv (.t 34), [], [], none, none⟩,
      ⟨some 5, .mv (.c (.d (.bool true))), [], [], none, none⟩])
  (.ret)
def g_ref01_Add.c3 : ACode :=
  .seq (.seq (.region [0, 1, 31] (some []) none
      (⟨some 14, .mv (.t 1), [], [], none, none⟩ ::
       ⟨some 15, .bin .gtr (.t 14) (.c (.d (.int .i64 0))), [], [], none, none⟩ ::
       ⟨some 16, .mv (.t 15), [], [], none, (some ([0, 1, 16], (some [])))⟩ ::
       g_ref01_Add.o2))
   (g_ref01_Add.c1))
  (g_ref01_Add.c2)
def g_ref01_Add.code : ACode :=
  .seq (.region [0, 1] (some []) none
     [⟨some 4, .mv (.c (.d (.int .i64 0))), [], [], none, none⟩,
      ⟨some 5, .mv (.c (.d (.bool false))), [], [], none, none⟩])
  (.seq (.seq (.region [0, 1, 13] (some []) none
       (⟨some 6, .mv (.t 0), [], [], none, none⟩ ::
        ⟨some 7, .call 53 [(.t 6)], [], [], none, none⟩ ::
        ⟨some 8, .un .not (.t 7), [], [], none, none⟩ ::
        ⟨some 9, .mv (.t 8), [], [], none, (some ([0, 1, 9], (some [])))⟩ ::
        g_ref01_Add.o0))
    (g_ref01_Add.c0))
   (g_ref01_Add.c3))
def g_ref01_Add : AFn := { N := 35, res := [.slot 4, .slot 5], own := [], frz := [], code := g_ref01_Add.code }

/- paymaster/paymasterref01.Digits: function 71.  -/
def g_ref01_Digits.l0 : ACode :=
  .loop [0, 3] (some []) (.seq (.seq (.region [0, 3, 11] (some []) none
      [⟨some 10, .mv (.t 0), [], [], none, none⟩,
       ⟨some 11, .bin .gtr (.t 10) (.c (.d (.int .i64 9))), [], [], none, none⟩])
   (.cond (.t 11) (.skip)
    (.exit 0)))
  (.block 1 [0, 3] (some []) (.seq (.region [0, 3] (some []) none
       [⟨some 12, .mv (.t 0), [], [], none, none⟩,
        ⟨some 13, .bin .quo (.t 12) (.c (.d (.int .i64 10))), [], [], none, none⟩,
        ⟨some 0, .mv (.t 13), [], [], none, none⟩])
    (.region [0, 3] (some []) none
       [⟨some 14, .mv (.t 0), [], [], none, none⟩,
        ⟨some 15, .bin .rem (.t 14) (.c (.d (.int .i64 10))), [], [], none, none⟩,
        ⟨some 16, .bin .add (.c (.d (.int .i64 48))) (.t 15), [], [], none, none⟩,
        ⟨some 17, .conv .u8 (.t 16), [], [], none, none⟩,
        ⟨some 18, .bsl none 1 [] 1 [(0, (.t 17))], [], [], none, none⟩,
        ⟨some 19, .bstr (.t 18), [], [], none, none⟩,
        ⟨some 20, .mv (.t 3), [], [], none, none⟩,
        ⟨some 21, .bin .add (.t 19) (.t 20), [], [], none, none⟩,
        ⟨some 3, .mv (.t 21), [], [], none, none⟩]))))
def g_ref01_Digits.c0 : ACode :=
  .seq (.region [2] (some []) none
     [⟨some 22, .mv (.t 3), [], [], none, none⟩,
      ⟨some 2, .mv (.t 22), [], [], none, none⟩])
  (.ret)
def g_ref01_Digits.c1 : ACode :=
  .seq (.block 0 [3] (some []) (g_ref01_Digits.l0))
  (g_ref01_Digits.c0)
def g_ref01_Digits.code : ACode :=
  .seq (.region [0] (some []) none
     [⟨some 2, .mv (.c (.d (.str []))), [], [], none, none⟩])
  (.seq (.region [0, 3] (some []) none
      [⟨some 4, .mv (.t 0), [], [], none, none⟩,
       ⟨some 5, .bin .rem (.t 4) (.c (.d (.int .i64 10))), [], [], none, none⟩,
       ⟨some 6, .bin .add (.c (.d (.int .i64 48))) (.t 5), [], [], none, none⟩,
       ⟨some 7, .conv .u8 (.t 6), [], [], none, none⟩,
       ⟨some 8, .bsl none 1 [] 1 [(0, (.t 7))], [], [], none, none⟩,
       ⟨some 9, .bstr (.t 8), [], [], none, none⟩,
       ⟨some 3, .mv (.t 9), [], [], none, none⟩])
   (g_ref01_Digits.c1))
def g_ref01_Digits : AFn := { N := 23, res := [.slot 2], own := [], frz := [], code := g_ref01_Digits.code }
end Pay
