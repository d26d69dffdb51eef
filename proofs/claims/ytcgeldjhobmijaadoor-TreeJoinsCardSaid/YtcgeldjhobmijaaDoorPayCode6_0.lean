/- The program's functions as abstract code. -/
import Derived.Test.YtcgeldjhobmijaaDoorPayBa1
set_option maxRecDepth 20000
namespace Pay
def g_law08_TreeNames.o1 : List AOper :=
  [⟨some 21, .pick (.t 17) (.c (.d (.bool true))) (.t 20), [], [], none, none⟩]
def g_law08_TreeNames.o0 : List AOper :=
  (⟨some 18, .mv (.t 1), [], [], (some (3, 17, false)), none⟩ ::
     ⟨some 19, .lenS (.t 18), [], [], (some (3, 17, false)), none⟩ ::
     ⟨some 20, .bin .gtr (.t 19) (.c (.d (.int .i64 20))), [], [], (some (3, 17, false)), (some ([0, 1, 17, 20], (some [])))⟩ ::
     g_law08_TreeNames.o1)
def g_law08_TreeNames.c0 : ACode :=
  .cond (.t 21) (.seq (.region [4] (some []) none
      [⟨some 22, .call 143 [], [], [], none, none⟩,
       ⟨some 4, .mv (.t 22), [], [], none, none⟩])
   (.ret))
  (.skip)
def g_law08_TreeNames.o7 : List AOper :=
  [⟨some 58, .pick (.t 52) (.c (.d (.bool true))) (.t 57), [], [], none, none⟩]
def g_law08_TreeNames.o6 : List AOper :=
  (⟨some 53, .mv (.t 7), [], [], (some (15, 52, false)), none⟩ ::
     ⟨some 54, .iaddr 3 (.t 53) (.c (.d (.int .i64 0))), [], [], (some (15, 52, false)), none⟩ ::
     ⟨some 55, .faddr 0 (.t 54), [], [], (some (15, 52, false)), none⟩ ::
     ⟨some 56, .load none (.t 55), [], [], (some (15, 52, false)), none⟩ ::
     ⟨some 57, .bin .neq (.t 56) (.c (.d (.int .i64 1))), [], [], (some (15, 52, false)), (some ([0, 1, 25, 26, 27, 52, 57], (some [])))⟩ ::
     g_law08_TreeNames.o7)
def g_law08_TreeNames.o5 : List AOper :=
  (⟨some 51, .pick (.t 44) (.c (.d (.bool true))) (.t 50), [], [], none, none⟩ ::
     ⟨some 52, .mv (.t 51), [], [], none, (some ([0, 1, 7, 25, 26, 27, 52], (some [])))⟩ ::
     g_law08_TreeNames.o6)
def g_law08_TreeNames.o4 : List AOper :=
  (⟨some 45, .mv (.t 7), [], [], (some (7, 44, false)), none⟩ ::
     ⟨some 46, .iaddr 3 (.t 45) (.c (.d (.int .i64 0))), [], [], (some (7, 44, false)), none⟩ ::
     ⟨some 47, .faddr 1 (.t 46), [], [], (some (7, 44, false)), none⟩ ::
     ⟨some 48, .load none (.t 47), [], [], (some (7, 44, false)), none⟩ ::
     ⟨some 49, .mv (.t 6), [], [], (some (7, 44, false)), none⟩ ::
     ⟨some 50, .bin .neq (.t 48) (.t 49), [], [], (some (7, 44, false)), (some ([0, 1, 7, 25, 26, 27, 44, 50], (some [])))⟩ ::
     g_law08_TreeNames.o5)
def g_law08_TreeNames.o3 : List AOper :=
  (⟨some 43, .pick (.t 39) (.c (.d (.bool true))) (.t 42), [], [], none, none⟩ ::
     ⟨some 44, .mv (.t 43), [], [], none, (some ([0, 1, 6, 7, 25, 26, 27, 44], (some [])))⟩ ::
     g_law08_TreeNames.o4)
def g_law08_TreeNames.o2 : List AOper :=
  (⟨some 40, .mv (.t 7), [], [], (some (2, 39, false)), none⟩ ::
     ⟨some 41, .len (.t 40), [], [], (some (2, 39, false)), none⟩ ::
     ⟨some 42, .bin .neq (.t 41) (.c (.d (.int .i64 1))), [], [], (some (2, 39, false)), (some ([0, 1, 6, 7, 25, 26, 27, 39, 42], (some [])))⟩ ::
     g_law08_TreeNames.o3)
def g_law08_TreeNames.c1 : ACode :=
  .cond (.t 58) (.seq (.region [4] (some []) none
      [⟨some 59, .call 143 [], [], [], none, none⟩,
       ⟨some 4, .mv (.t 59), [], [], none, none⟩])
   (.ret))
  (.skip)
def g_law08_TreeNames.c2 : ACode :=
  .seq (.region [0, 1, 25, 26, 27, 58] (some []) none
     (⟨some 37, .mv (.t 9), [], [], none, none⟩ ::
      ⟨some 38, .bin .neq (.t 37) (.c (.d (.int .i64 0))), [], [], none, none⟩ ::
      ⟨some 39, .mv (.t 38), [], [], none, (some ([0, 1, 6, 7, 25, 26, 27, 39], (some [])))⟩ ::
      g_law08_TreeNames.o2))
  (g_law08_TreeNames.c1)
def g_law08_TreeNames.c3 : ACode :=
  .region [0, 1, 25, 26, 27] (some []) none
    [⟨some 60, .bin .add (.t 27) (.c (.d (.int .i64 1))), [], [], none, none⟩,
     ⟨some 27, .mv (.t 60), [], [], none, none⟩]
def g_law08_TreeNames.l0 : ACode :=
  .loop [0, 1, 25, 26, 27] (some []) (.seq (.region [0, 1, 25, 26, 27, 28] (some []) none
     [⟨some 28, .bin .lss (.t 27) (.t 26), [], [], none, none⟩])
  (.seq (.cond (.t 28) (.skip)
    (.exit 0))
   (.seq (.block 1 [0, 1, 25, 26, 27] (some []) (.seq (.region [0, 1, 6, 25, 26, 27] (some []) none
         [⟨some 29, .iaddr 1 (.t 25) (.t 27), [], [], none, none⟩,
          ⟨some 30, .load none (.t 29), [], [], none, none⟩,
          ⟨some 6, .mv (.t 30), [], [], none, none⟩])
      (.seq (.region [0, 1, 6, 7, 9, 25, 26, 27] (some []) none
          [⟨some 32, .mv (.t 6), [], [], none, none⟩,
           ⟨some 33, .call 74 [(.t 32)], [], [], none, none⟩,
           ⟨some 31, .mv (.t 33), [], [], none, none⟩,
           ⟨some 34, .ext (.t 31) 0, [], [], none, none⟩,
           ⟨some 35, .ext (.t 31) 1, [], [], none, none⟩,
           ⟨some 36, .ext (.t 31) 2, [], [], none, none⟩,
           ⟨some 7, .mv (.t 34), [], [], none, none⟩,
           ⟨some 8, .mv (.t 35), [], [], none, none⟩,
           ⟨some 9, .mv (.t 36), [], [], none, none⟩])
       (g_law08_TreeNames.c2))))
    (g_law08_TreeNames.c3))))
def g_law08_TreeNames.c4 : ACode :=
  .block 0 [0, 1] (some []) (g_law08_TreeNames.l0)
def g_law08_TreeNames.o15 : List AOper :=
  [⟨some 89, .pick (.t 74) (.t 88) (.c (.d (.bool false))), [], [], none, none⟩,
     ⟨some 13, .mv (.t 89), [], [], none, none⟩]
def g_law08_TreeNames.o14 : List AOper :=
  (⟨some 88, .pick (.t 85) (.c (.d (.bool true))) (.t 87), [], [], (some (3, 74, true)), (some ([0, 1, 10, 12, 74, 88], (some [10])))⟩ ::
     g_law08_TreeNames.o15)
def g_law08_TreeNames.o13 : List AOper :=
  (⟨some 86, .mv (.t 0), [], [], (some (14, 85, false)), none⟩ ::
     ⟨some 87, .bin .eql (.t 86) (.c (.d (.str [108, 101, 116]))), [], [], (some (14, 85, false)), (some ([0, 1, 10, 12, 74, 85, 87], (some [10])))⟩ ::
     g_law08_TreeNames.o14)
def g_law08_TreeNames.o12 : List AOper :=
  (⟨some 84, .pick (.t 81) (.c (.d (.bool true))) (.t 83), [], [], (some (3, 74, true)), none⟩ ::
     ⟨some 85, .mv (.t 84), [], [], (some (3, 74, true)), (some ([0, 1, 10, 12, 74, 85], (some [10])))⟩ ::
     g_law08_TreeNames.o13)
def g_law08_TreeNames.o11 : List AOper :=
  (⟨some 82, .mv (.t 0), [], [], (some (10, 81, false)), none⟩ ::
     ⟨some 83, .bin .eql (.t 82) (.c (.d (.str [112, 111, 115, 116]))), [], [], (some (10, 81, false)), (some ([0, 1, 10, 12, 74, 81, 83], (some [10])))⟩ ::
     g_law08_TreeNames.o12)
def g_law08_TreeNames.o10 : List AOper :=
  (⟨some 80, .pick (.t 77) (.c (.d (.bool true))) (.t 79), [], [], (some (3, 74, true)), none⟩ ::
     ⟨some 81, .mv (.t 80), [], [], (some (3, 74, true)), (some ([0, 1, 10, 12, 74, 81], (some [10])))⟩ ::
     g_law08_TreeNames.o11)
def g_law08_TreeNames.o9 : List AOper :=
  (⟨some 78, .mv (.t 0), [], [], (some (6, 77, false)), none⟩ ::
     ⟨some 79, .bin .eql (.t 78) (.c (.d (.str [112, 114, 101, 116, 97, 120]))), [], [], (some (6, 77, false)), (some ([0, 1, 10, 12, 74, 77, 79], (some [10])))⟩ ::
     g_law08_TreeNames.o10)
def g_law08_TreeNames.o8 : List AOper :=
  (⟨some 75, .mv (.t 0), [], [], (some (3, 74, true)), none⟩ ::
     ⟨some 76, .bin .eql (.t 75) (.c (.d (.str [101, 97, 114, 110]))), [], [], (some (3, 74, true)), none⟩ ::
     ⟨some 77, .mv (.t 76), [], [], (some (3, 74, true)), (some ([0, 1, 10, 12, 74, 77], (some [10])))⟩ ::
     g_law08_TreeNames.o9)
def g_law08_TreeNames.o19 : List AOper :=
  [⟨some 102, .pick (.t 100) (.t 101) (.c (.d (.bool false))), [], [], none, none⟩,
     ⟨some 4, .mv (.t 102), [], [], none, none⟩]
def g_law08_TreeNames.o18 : List AOper :=
  (⟨some 101, .call 143 [], [], [], (some (8, 100, true)), (some ([100, 101], (some [])))⟩ ::
     g_law08_TreeNames.o19)
def g_law08_TreeNames.o17 : List AOper :=
  (⟨some 99, .pick (.t 96) (.t 98) (.c (.d (.bool false))), [], [], none, none⟩ ::
     ⟨some 100, .mv (.t 99), [], [], none, (some ([100], (some [])))⟩ ::
     g_law08_TreeNames.o18)
def g_law08_TreeNames.o16 : List AOper :=
  (⟨some 97, .mv (.t 12), [], [], (some (4, 96, true)), none⟩ ::
     ⟨some 98, .bin .eql (.t 97) (.c (.d (.int .i64 2))), [], [], (some (4, 96, true)), (some ([96, 98], (some [])))⟩ ::
     g_law08_TreeNames.o17)
def g_law08_TreeNames.c5 : ACode :=
  .ret
def g_law08_TreeNames.o25 : List AOper :=
  [⟨some 123, .pick (.t 121) (.t 122) (.c (.d (.bool false))), [], [], none, none⟩,
     ⟨some 4, .mv (.t 123), [], [], none, none⟩]
def g_law08_TreeNames.o24 : List AOper :=
  (⟨some 122, .call 143 [], [], [], (some (18, 121, true)), (some ([121, 122], (some [])))⟩ ::
     g_law08_TreeNames.o25)
def g_law08_TreeNames.o23 : List AOper :=
  (⟨some 120, .pick (.t 117) (.t 119) (.c (.d (.bool false))), [], [], none, none⟩ ::
     ⟨some 121, .mv (.t 120), [], [], none, (some ([121], (some [])))⟩ ::
     g_law08_TreeNames.o24)
def g_law08_TreeNames.o22 : List AOper :=
  (⟨some 118, .mv (.t 12), [], [], (some (14, 117, true)), none⟩ ::
     ⟨some 119, .bin .eql (.t 118) (.c (.d (.int .i64 0))), [], [], (some (14, 117, true)), (some ([117, 119], (some [])))⟩ ::
     g_law08_TreeNames.o23)
def g_law08_TreeNames.o21 : List AOper :=
  (⟨some 116, .pick (.t 107) (.t 115) (.c (.d (.bool false))), [], [], none, none⟩ ::
     ⟨some 117, .mv (.t 116), [], [], none, (some ([12, 117], (some [])))⟩ ::
     g_law08_TreeNames.o22)
def g_law08_TreeNames.o20 : List AOper :=
  (⟨some 108, .faddr 0 (.t 10), [], [], (some (4, 107, true)), none⟩ ::
     ⟨some 109, .load none (.t 108), [], [], (some (4, 107, true)), none⟩ ::
     ⟨some 110, .iaddr 3 (.t 109) (.c (.d (.int .i64 0))), [], [], (some (4, 107, true)), none⟩ ::
     ⟨some 111, .load (some 3) (.t 110), [], [], (some (4, 107, true)), none⟩ ::
     ⟨some 112, .mv (.t 0), [], [], (some (4, 107, true)), none⟩ ::
     ⟨some 113, .mv (.t 1), [], [], (some (4, 107, true)), none⟩ ::
     ⟨some 114, .build [.d (.str []), .d (.str []), .d (.int .i64 0)] [(0, 1, (.t 112)), (1, 1, (.t 113))], [], [], (some (4, 107, true)), none⟩ ::
     ⟨some 115, .eqs false [2, 2, 0] (.t 111) (.t 114), [], [], (some (4, 107, true)), (some ([12, 107, 115], (some [])))⟩ ::
     g_law08_TreeNames.o21)
def g_law08_TreeNames.c6 : ACode :=
  .ret
def g_law08_TreeNames.c7 : ACode :=
  .seq (.region [4] (some []) none
     (⟨some 103, .faddr 0 (.t 10), [], [], none, none⟩ ::
      ⟨some 104, .load none (.t 103), [], [], none, none⟩ ::
      ⟨some 105, .len (.t 104), [], [], none, none⟩ ::
      ⟨some 106, .bin .eql (.t 105) (.c (.d (.int .i64 1))), [], [], none, none⟩ ::
      ⟨some 107, .mv (.t 106), [], [], none, (some ([0, 1, 10, 12, 107], (some [10])))⟩ ::
      g_law08_TreeNames.o20))
  (g_law08_TreeNames.c6)
def g_law08_TreeNames.c8 : ACode :=
  .seq (.seq (.region [0, 1, 10, 12, 91] (some [10]) none
      [⟨some 90, .mv (.t 13), [], [], none, none⟩,
       ⟨some 91, .un .not (.t 90), [], [], none, none⟩])
   (.cond (.t 91) (.seq (.region [4] (some []) none
        (⟨some 92, .faddr 0 (.t 10), [], [], none, none⟩ ::
         ⟨some 93, .load none (.t 92), [], [], none, none⟩ ::
         ⟨some 94, .len (.t 93), [], [], none, none⟩ ::
         ⟨some 95, .bin .eql (.t 94) (.c (.d (.int .i64 0))), [], [], none, none⟩ ::
         ⟨some 96, .mv (.t 95), [], [], none, (some ([12, 96], (some [])))⟩ ::
         g_law08_TreeNames.o16))
     (g_law08_TreeNames.c5))
    (.skip)))
  (g_law08_TreeNames.c7)
def g_law08_TreeNames.c9 : ACode :=
  .seq (.region [0, 1, 10, 12, 13] (some [10]) none
     (⟨some 71, .mv (.t 1), [], [], none, none⟩ ::
      ⟨some 72, .call 152 [(.t 71)], [], [], none, none⟩ ::
      ⟨some 73, .un .not (.t 72), [], [], none, none⟩ ::
      ⟨some 74, .mv (.t 73), [], [], none, (some ([0, 1, 10, 12, 74], (some [10])))⟩ ::
      g_law08_TreeNames.o8))
  (g_law08_TreeNames.c8)
def g_law08_TreeNames.c10 : ACode :=
  .seq (.region [0, 1, 10, 12] (some [10]) none
     [⟨some 62, .mv (.t 0), [], [], none, none⟩,
      ⟨some 63, .bin .add (.t 62) (.c (.d (.str [32]))), [], [], none, none⟩,
      ⟨some 64, .mv (.t 1), [], [], none, none⟩,
      ⟨some 65, .bin .add (.t 63) (.t 64), [], [], none, none⟩,
      ⟨some 66, .bin .add (.t 65) (.c (.d (.str [32, 61, 32, 49, 59]))), [], [], none, none⟩,
      ⟨some 67, .call 144 [(.t 66)], [], [], none, none⟩,
      ⟨some 61, .mv (.t 67), [], [], none, none⟩,
      ⟨some 68, .ext (.t 61) 0, [], [], none, none⟩,
      ⟨some 69, .ext (.t 61) 1, [], [], none, none⟩,
      ⟨some 70, .ext (.t 61) 2, [], [], none, none⟩,
      ⟨some 10, .alloc 10 [.cap0, .cap0], [], [], none, none⟩,
      ⟨none, .store 2 (.t 10) (.t 68), [], [], none, none⟩,
      ⟨some 11, .mv (.t 69), [], [], none, none⟩,
      ⟨some 12, .mv (.t 70), [], [], none, none⟩])
  (g_law08_TreeNames.c9)
def g_law08_TreeNames.c11 : ACode :=
  .seq (.seq (.region [0, 1, 25, 26, 27] (some []) none
      [⟨some 23, .mv (.t 0), [], [], none, none⟩,
       ⟨some 24, .mv (.t 1), [], [], none, none⟩,
       ⟨some 25, .bsl none 1 [] 2 [(0, (.t 23)), (1, (.t 24))], [], [], none, none⟩,
       ⟨some 26, .len (.t 25), [], [], none, none⟩,
       ⟨some 27, .mv (.c (.d (.int .i64 0))), [], [], none, none⟩])
   (g_law08_TreeNames.c4))
  (g_law08_TreeNames.c10)
def g_law08_TreeNames.code : ACode :=
  .seq (.region [0, 1] (some []) none
     [⟨some 4, .mv (.c (.d (.bool false))), [], [], none, none⟩])
  (.seq (.seq (.region [0, 1, 21] (some []) none
       (⟨some 14, .mv (.t 0), [], [], none, none⟩ ::
        ⟨some 15, .lenS (.t 14), [], [], none, none⟩ ::
        ⟨some 16, .bin .gtr (.t 15) (.c (.d (.int .i64 20))), [], [], none, none⟩ ::
        ⟨some 17, .mv (.t 16), [], [], none, (some ([0, 1, 17], (some [])))⟩ ::
        g_law08_TreeNames.o0))
    (g_law08_TreeNames.c0))
   (g_law08_TreeNames.c11))
def g_law08_TreeNames : AFn := { N := 124, res := [.slot 4], own := [], frz := [], code := g_law08_TreeNames.code }

end Pay
