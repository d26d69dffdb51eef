/- The program's functions as abstract code. -/
import Derived.Test.YtcgeldjhobmijaaDoorPayBa1
set_option maxRecDepth 20000
namespace Pay
def g_law08_TreeLeft.o1 : List AOper :=
  [⟨some 21, .pick (.t 17) (.c (.d (.bool true))) (.t 20), [], [], none, none⟩]
def g_law08_TreeLeft.o0 : List AOper :=
  (⟨some 18, .mv (.t 0), [], [], (some (3, 17, false)), none⟩ ::
     ⟨some 19, .len (.t 18), [], [], (some (3, 17, false)), none⟩ ::
     ⟨some 20, .bin .gtr (.t 19) (.c (.d (.int .i64 60))), [], [], (some (3, 17, false)), (some ([0, 17, 20], (some [])))⟩ ::
     g_law08_TreeLeft.o1)
def g_law08_TreeLeft.c0 : ACode :=
  .cond (.t 21) (.seq (.region [2] (some []) none
      [⟨some 22, .call 143 [], [], [], none, none⟩,
       ⟨some 2, .mv (.t 22), [], [], none, none⟩])
   (.ret))
  (.skip)
def g_law08_TreeLeft.c1 : ACode :=
  .region [0, 3, 23, 24, 25] (some []) none
    [⟨some 58, .mv (.t 3), [], [], none, none⟩,
     ⟨some 59, .mv (.t 6), [], [], none, none⟩,
     ⟨some 60, .bin .rem (.t 59) (.c (.d (.int .i64 10))), [], [], none, none⟩,
     ⟨some 61, .bin .add (.c (.d (.int .i64 48))) (.t 60), [], [], none, none⟩,
     ⟨some 62, .conv .u8 (.t 61), [], [], none, none⟩,
     ⟨some 63, .bsl none 1 [] 1 [(0, (.t 62))], [], [], none, none⟩,
     ⟨some 64, .bstr (.t 63), [], [], none, none⟩,
     ⟨some 65, .bin .add (.t 58) (.t 64), [], [], none, none⟩,
     ⟨some 3, .mv (.t 65), [], [], none, none⟩]
def g_law08_TreeLeft.c2 : ACode :=
  .seq (.seq (.region [0, 3, 6, 23, 24, 25, 48] (some []) none
      [⟨some 47, .mv (.t 6), [], [], none, none⟩,
       ⟨some 48, .bin .gtr (.t 47) (.c (.d (.int .i64 9))), [], [], none, none⟩])
   (.cond (.t 48) (.region [0, 3, 6, 23, 24, 25] (some []) none
       [⟨some 49, .mv (.t 3), [], [], none, none⟩,
        ⟨some 50, .mv (.t 6), [], [], none, none⟩,
        ⟨some 51, .bin .quo (.t 50) (.c (.d (.int .i64 10))), [], [], none, none⟩,
        ⟨some 52, .bin .rem (.t 51) (.c (.d (.int .i64 10))), [], [], none, none⟩,
        ⟨some 53, .bin .add (.c (.d (.int .i64 48))) (.t 52), [], [], none, none⟩,
        ⟨some 54, .conv .u8 (.t 53), [], [], none, none⟩,
        ⟨some 55, .bsl none 1 [] 1 [(0, (.t 54))], [], [], none, none⟩,
        ⟨some 56, .bstr (.t 55), [], [], none, none⟩,
        ⟨some 57, .bin .add (.t 49) (.t 56), [], [], none, none⟩,
        ⟨some 3, .mv (.t 57), [], [], none, none⟩])
    (.skip)))
  (g_law08_TreeLeft.c1)
def g_law08_TreeLeft.c3 : ACode :=
  .seq (.seq (.region [0, 3, 6, 23, 24, 25, 38] (some []) none
      [⟨some 37, .mv (.t 6), [], [], none, none⟩,
       ⟨some 38, .bin .gtr (.t 37) (.c (.d (.int .i64 99))), [], [], none, none⟩])
   (.cond (.t 38) (.region [0, 3, 6, 23, 24, 25] (some []) none
       [⟨some 39, .mv (.t 3), [], [], none, none⟩,
        ⟨some 40, .mv (.t 6), [], [], none, none⟩,
        ⟨some 41, .bin .quo (.t 40) (.c (.d (.int .i64 100))), [], [], none, none⟩,
        ⟨some 42, .bin .add (.c (.d (.int .i64 48))) (.t 41), [], [], none, none⟩,
        ⟨some 43, .conv .u8 (.t 42), [], [], none, none⟩,
        ⟨some 44, .bsl none 1 [] 1 [(0, (.t 43))], [], [], none, none⟩,
        ⟨some 45, .bstr (.t 44), [], [], none, none⟩,
        ⟨some 46, .bin .add (.t 39) (.t 45), [], [], none, none⟩,
        ⟨some 3, .mv (.t 46), [], [], none, none⟩])
    (.skip)))
  (g_law08_TreeLeft.c2)
def g_law08_TreeLeft.c4 : ACode :=
  .seq (.region [0, 3, 6, 23, 24, 25] (some []) none
     [⟨some 34, .mv (.t 5), [], [], none, none⟩,
      ⟨some 35, .bin .rem (.t 34) (.c (.d (.int .u16 1000))), [], [], none, none⟩,
      ⟨some 36, .conv .i64 (.t 35), [], [], none, none⟩,
      ⟨some 6, .mv (.t 36), [], [], none, none⟩])
  (g_law08_TreeLeft.c3)
def g_law08_TreeLeft.c5 : ACode :=
  .seq (.seq (.region [0, 3, 5, 23, 24, 25, 31] (some []) none
      [⟨some 30, .mv (.t 4), [], [], none, none⟩,
       ⟨some 31, .bin .gtr (.t 30) (.c (.d (.int .i64 0))), [], [], none, none⟩])
   (.cond (.t 31) (.region [0, 3, 5, 23, 24, 25] (some []) none
       [⟨some 32, .mv (.t 3), [], [], none, none⟩,
        ⟨some 33, .bin .add (.t 32) (.c (.d (.str [32, 43, 32]))), [], [], none, none⟩,
        ⟨some 3, .mv (.t 33), [], [], none, none⟩])
    (.skip)))
  (g_law08_TreeLeft.c4)
def g_law08_TreeLeft.c6 : ACode :=
  .region [0, 3, 23, 24, 25] (some []) none
    [⟨some 66, .bin .add (.t 25) (.c (.d (.int .i64 1))), [], [], none, none⟩,
     ⟨some 25, .mv (.t 66), [], [], none, none⟩]
def g_law08_TreeLeft.l0 : ACode :=
  .loop [0, 3, 23, 24, 25] (some []) (.seq (.region [0, 3, 23, 24, 25, 26] (some []) none
     [⟨some 26, .bin .lss (.t 25) (.t 24), [], [], none, none⟩])
  (.seq (.cond (.t 26) (.skip)
    (.exit 0))
   (.seq (.block 1 [0, 3, 23, 24, 25] (some []) (.seq (.region [0, 3, 4, 5, 23, 24, 25] (some []) none
         [⟨some 27, .mv (.t 25), [], [], none, none⟩,
          ⟨some 28, .iaddr 1 (.t 23) (.t 25), [], [], none, none⟩,
          ⟨some 29, .load none (.t 28), [], [], none, none⟩,
          ⟨some 4, .mv (.t 27), [], [], none, none⟩,
          ⟨some 5, .mv (.t 29), [], [], none, none⟩])
      (g_law08_TreeLeft.c5)))
    (g_law08_TreeLeft.c6))))
def g_law08_TreeLeft.o3 : List AOper :=
  [⟨some 85, .pick (.t 76) (.c (.d (.bool true))) (.t 84), [], [], none, none⟩]
def g_law08_TreeLeft.o2 : List AOper :=
  (⟨some 77, .faddr 1 (.t 7), [], [], (some (2, 76, false)), none⟩ ::
     ⟨some 78, .load none (.t 77), [], [], (some (2, 76, false)), none⟩ ::
     ⟨some 79, .len (.t 78), [], [], (some (2, 76, false)), none⟩ ::
     ⟨some 80, .mv (.t 0), [], [], (some (2, 76, false)), none⟩ ::
     ⟨some 81, .len (.t 80), [], [], (some (2, 76, false)), none⟩ ::
     ⟨some 82, .bin .mul (.c (.d (.int .i64 2))) (.t 81), [], [], (some (2, 76, false)), none⟩ ::
     ⟨some 83, .bin .sub (.t 82) (.c (.d (.int .i64 1))), [], [], (some (2, 76, false)), none⟩ ::
     ⟨some 84, .bin .neq (.t 79) (.t 83), [], [], (some (2, 76, false)), (some ([0, 7, 76, 84], (some [7])))⟩ ::
     g_law08_TreeLeft.o3)
def g_law08_TreeLeft.c7 : ACode :=
  .cond (.t 85) (.seq (.region [2] (some []) none
      [⟨some 2, .mv (.c (.d (.bool false))), [], [], none, none⟩])
   (.ret))
  (.skip)
def g_law08_TreeLeft.o5 : List AOper :=
  [⟨some 112, .pick (.t 105) (.c (.d (.bool true))) (.t 111), [], [], none, none⟩]
def g_law08_TreeLeft.o4 : List AOper :=
  (⟨some 106, .faddr 2 (.t 13), [], [], (some (3, 105, false)), none⟩ ::
     ⟨some 107, .load none (.t 106), [], [], (some (3, 105, false)), none⟩ ::
     ⟨some 108, .mv (.t 11), [], [], (some (3, 105, false)), none⟩ ::
     ⟨some 109, .bin .rem (.t 108) (.c (.d (.int .u16 1000))), [], [], (some (3, 105, false)), none⟩ ::
     ⟨some 110, .conv .i64 (.t 109), [], [], (some (3, 105, false)), none⟩ ::
     ⟨some 111, .bin .neq (.t 107) (.t 110), [], [], (some (3, 105, false)), (some ([7, 10, 86, 87, 88, 105, 111], (some [7])))⟩ ::
     g_law08_TreeLeft.o5)
def g_law08_TreeLeft.c8 : ACode :=
  .cond (.t 112) (.seq (.region [2] (some []) none
      [⟨some 2, .mv (.c (.d (.bool false))), [], [], none, none⟩])
   (.ret))
  (.skip)
def g_law08_TreeLeft.c9 : ACode :=
  .seq (.region [7, 10, 86, 87, 88, 112] (some [7]) none
     (⟨some 102, .faddr 0 (.t 13), [], [], none, none⟩ ::
      ⟨some 103, .load none (.t 102), [], [], none, none⟩ ::
      ⟨some 104, .bin .neq (.t 103) (.c (.d (.str [119, 104, 111, 108, 101]))), [], [], none, none⟩ ::
      ⟨some 105, .mv (.t 104), [], [], none, (some ([7, 10, 11, 13, 86, 87, 88, 105], (some [7, 13])))⟩ ::
      g_law08_TreeLeft.o4))
  (g_law08_TreeLeft.c8)
def g_law08_TreeLeft.o11 : List AOper :=
  [⟨some 150, .pick (.t 115) (.t 149) (.c (.d (.bool false))), [], [], none, none⟩]
def g_law08_TreeLeft.o10 : List AOper :=
  (⟨some 149, .pick (.t 137) (.c (.d (.bool true))) (.t 148), [], [], (some (2, 115, true)), (some ([7, 86, 87, 88, 115, 149], (some [7])))⟩ ::
     g_law08_TreeLeft.o11)
def g_law08_TreeLeft.o9 : List AOper :=
  (⟨some 138, .faddr 1 (.t 7), [], [], (some (24, 137, false)), none⟩ ::
     ⟨some 139, .load none (.t 138), [], [], (some (24, 137, false)), none⟩ ::
     ⟨some 140, .mv (.t 10), [], [], (some (24, 137, false)), none⟩ ::
     ⟨some 141, .bin .mul (.c (.d (.int .i64 2))) (.t 140), [], [], (some (24, 137, false)), none⟩ ::
     ⟨some 142, .iaddr 6 (.t 139) (.t 141), [], [], (some (24, 137, false)), none⟩ ::
     ⟨some 143, .faddr 4 (.t 142), [], [], (some (24, 137, false)), none⟩ ::
     ⟨some 144, .load none (.t 143), [], [], (some (24, 137, false)), none⟩ ::
     ⟨some 145, .mv (.t 10), [], [], (some (24, 137, false)), none⟩ ::
     ⟨some 146, .bin .mul (.c (.d (.int .i64 2))) (.t 145), [], [], (some (24, 137, false)), none⟩ ::
     ⟨some 147, .bin .sub (.t 146) (.c (.d (.int .i64 1))), [], [], (some (24, 137, false)), none⟩ ::
     ⟨some 148, .bin .neq (.t 144) (.t 147), [], [], (some (24, 137, false)), (some ([7, 86, 87, 88, 115, 137, 148], (some [7])))⟩ ::
     g_law08_TreeLeft.o10)
def g_law08_TreeLeft.o8 : List AOper :=
  (⟨some 136, .pick (.t 124) (.c (.d (.bool true))) (.t 135), [], [], (some (2, 115, true)), none⟩ ::
     ⟨some 137, .mv (.t 136), [], [], (some (2, 115, true)), (some ([7, 10, 86, 87, 88, 115, 137], (some [7])))⟩ ::
     g_law08_TreeLeft.o9)
def g_law08_TreeLeft.o7 : List AOper :=
  (⟨some 125, .faddr 1 (.t 7), [], [], (some (11, 124, false)), none⟩ ::
     ⟨some 126, .load none (.t 125), [], [], (some (11, 124, false)), none⟩ ::
     ⟨some 127, .mv (.t 10), [], [], (some (11, 124, false)), none⟩ ::
     ⟨some 128, .bin .mul (.c (.d (.int .i64 2))) (.t 127), [], [], (some (11, 124, false)), none⟩ ::
     ⟨some 129, .iaddr 6 (.t 126) (.t 128), [], [], (some (11, 124, false)), none⟩ ::
     ⟨some 130, .faddr 3 (.t 129), [], [], (some (11, 124, false)), none⟩ ::
     ⟨some 131, .load none (.t 130), [], [], (some (11, 124, false)), none⟩ ::
     ⟨some 132, .mv (.t 10), [], [], (some (11, 124, false)), none⟩ ::
     ⟨some 133, .bin .mul (.c (.d (.int .i64 2))) (.t 132), [], [], (some (11, 124, false)), none⟩ ::
     ⟨some 134, .bin .sub (.t 133) (.c (.d (.int .i64 2))), [], [], (some (11, 124, false)), none⟩ ::
     ⟨some 135, .bin .neq (.t 131) (.t 134), [], [], (some (11, 124, false)), (some ([7, 10, 86, 87, 88, 115, 124, 135], (some [7])))⟩ ::
     g_law08_TreeLeft.o8)
def g_law08_TreeLeft.o6 : List AOper :=
  (⟨some 116, .faddr 1 (.t 7), [], [], (some (2, 115, true)), none⟩ ::
     ⟨some 117, .load none (.t 116), [], [], (some (2, 115, true)), none⟩ ::
     ⟨some 118, .mv (.t 10), [], [], (some (2, 115, true)), none⟩ ::
     ⟨some 119, .bin .mul (.c (.d (.int .i64 2))) (.t 118), [], [], (some (2, 115, true)), none⟩ ::
     ⟨some 120, .iaddr 6 (.t 117) (.t 119), [], [], (some (2, 115, true)), none⟩ ::
     ⟨some 121, .faddr 0 (.t 120), [], [], (some (2, 115, true)), none⟩ ::
     ⟨some 122, .load none (.t 121), [], [], (some (2, 115, true)), none⟩ ::
     ⟨some 123, .bin .neq (.t 122) (.c (.d (.str [43]))), [], [], (some (2, 115, true)), none⟩ ::
     ⟨some 124, .mv (.t 123), [], [], (some (2, 115, true)), (some ([7, 10, 86, 87, 88, 115, 124], (some [7])))⟩ ::
     g_law08_TreeLeft.o7)
def g_law08_TreeLeft.c10 : ACode :=
  .cond (.t 150) (.seq (.region [2] (some []) none
      [⟨some 2, .mv (.c (.d (.bool false))), [], [], none, none⟩])
   (.ret))
  (.skip)
def g_law08_TreeLeft.c11 : ACode :=
  .seq (.region [7, 86, 87, 88, 150] (some [7]) none
     (⟨some 113, .mv (.t 10), [], [], none, none⟩ ::
      ⟨some 114, .bin .gtr (.t 113) (.c (.d (.int .i64 0))), [], [], none, none⟩ ::
      ⟨some 115, .mv (.t 114), [], [], none, (some ([7, 10, 86, 87, 88, 115], (some [7])))⟩ ::
      g_law08_TreeLeft.o6))
  (g_law08_TreeLeft.c10)
def g_law08_TreeLeft.c12 : ACode :=
  .seq (.seq (.region [7, 10, 11, 13, 86, 87, 88] (some [7, 13]) none
      [⟨some 97, .faddr 1 (.t 7), [], [], none, none⟩,
       ⟨some 98, .load none (.t 97), [], [], none, none⟩,
       ⟨some 99, .mv (.t 12), [], [], none, none⟩,
       ⟨some 100, .iaddr 6 (.t 98) (.t 99), [], [], none, none⟩,
       ⟨some 101, .load (some 6) (.t 100), [], [], none, none⟩,
       ⟨some 13, .alloc 13 [.d (.str []), .d (.str []), .d (.int .i64 0), .d (.int .i64 0), .d (.int .i64 0), .d (.int .i64 0)], [], [], none, none⟩,
       ⟨none, .store 6 (.t 13) (.t 101), [], [], none, none⟩])
   (g_law08_TreeLeft.c9))
  (g_law08_TreeLeft.c11)
def g_law08_TreeLeft.c13 : ACode :=
  .seq (.region [7, 10, 11, 12, 86, 87, 88] (some [7]) none
     [⟨some 93, .mv (.t 10), [], [], none, none⟩,
      ⟨some 94, .bin .mul (.c (.d (.int .i64 2))) (.t 93), [], [], none, none⟩,
      ⟨some 95, .bin .sub (.t 94) (.c (.d (.int .i64 1))), [], [], none, none⟩,
      ⟨some 96, .mm true [(.t 95), (.c (.d (.int .i64 0)))], [], [], none, none⟩,
      ⟨some 12, .mv (.t 96), [], [], none, none⟩])
  (g_law08_TreeLeft.c12)
def g_law08_TreeLeft.c14 : ACode :=
  .region [7, 86, 87, 88] (some [7]) none
    [⟨some 151, .bin .add (.t 88) (.c (.d (.int .i64 1))), [], [], none, none⟩,
     ⟨some 88, .mv (.t 151), [], [], none, none⟩]
def g_law08_TreeLeft.l1 : ACode :=
  .loop [7, 86, 87, 88] (some [7]) (.seq (.region [7, 86, 87, 88, 89] (some [7]) none
     [⟨some 89, .bin .lss (.t 88) (.t 87), [], [], none, none⟩])
  (.seq (.cond (.t 89) (.skip)
    (.exit 2))
   (.seq (.block 3 [7, 86, 87, 88] (some [7]) (.seq (.region [7, 10, 11, 86, 87, 88] (some [7]) none
         [⟨some 90, .mv (.t 88), [], [], none, none⟩,
          ⟨some 91, .iaddr 1 (.t 86) (.t 88), [], [], none, none⟩,
          ⟨some 92, .load none (.t 91), [], [], none, none⟩,
          ⟨some 10, .mv (.t 90), [], [], none, none⟩,
          ⟨some 11, .mv (.t 92), [], [], none, none⟩])
      (g_law08_TreeLeft.c13)))
    (g_law08_TreeLeft.c14))))
def g_law08_TreeLeft.c15 : ACode :=
  .seq (.region [2] (some []) none
     [⟨some 152, .call 143 [], [], [], none, none⟩,
      ⟨some 2, .mv (.t 152), [], [], none, none⟩])
  (.ret)
def g_law08_TreeLeft.c16 : ACode :=
  .seq (.seq (.region [7, 86, 87, 88] (some [7]) none
      [⟨some 86, .mv (.t 0), [], [], none, none⟩,
       ⟨some 87, .len (.t 86), [], [], none, none⟩,
       ⟨some 88, .mv (.c (.d (.int .i64 0))), [], [], none, none⟩])
   (.block 2 [] (some []) (g_law08_TreeLeft.l1)))
  (g_law08_TreeLeft.c15)
def g_law08_TreeLeft.c17 : ACode :=
  .seq (.seq (.region [0, 7, 85] (some [7]) none
      (⟨some 74, .mv (.t 9), [], [], none, none⟩ ::
       ⟨some 75, .bin .neq (.t 74) (.c (.d (.int .i64 0))), [], [], none, none⟩ ::
       ⟨some 76, .mv (.t 75), [], [], none, (some ([0, 7, 76], (some [7])))⟩ ::
       g_law08_TreeLeft.o2))
   (g_law08_TreeLeft.c7))
  (g_law08_TreeLeft.c16)
def g_law08_TreeLeft.c18 : ACode :=
  .seq (.region [0, 7, 9] (some [7]) none
     [⟨some 68, .mv (.t 3), [], [], none, none⟩,
      ⟨some 69, .bin .add (.t 68) (.c (.d (.str [59]))), [], [], none, none⟩,
      ⟨some 70, .call 144 [(.t 69)], [], [], none, none⟩,
      ⟨some 67, .mv (.t 70), [], [], none, none⟩,
      ⟨some 71, .ext (.t 67) 0, [], [], none, none⟩,
      ⟨some 72, .ext (.t 67) 1, [], [], none, none⟩,
      ⟨some 73, .ext (.t 67) 2, [], [], none, none⟩,
      ⟨some 7, .alloc 7 [.cap0, .cap0], [], [], none, none⟩,
      ⟨none, .store 2 (.t 7) (.t 71), [], [], none, none⟩,
      ⟨some 8, .mv (.t 72), [], [], none, none⟩,
      ⟨some 9, .mv (.t 73), [], [], none, none⟩])
  (g_law08_TreeLeft.c17)
def g_law08_TreeLeft.c19 : ACode :=
  .seq (.region [0, 3] (some []) none
     [⟨some 3, .mv (.c (.d (.str [108, 101, 116, 32, 97, 32, 61, 32]))), [], [], none, none⟩])
  (.seq (.seq (.region [0, 3, 23, 24, 25] (some []) none
       [⟨some 23, .mv (.t 0), [], [], none, none⟩,
        ⟨some 24, .len (.t 23), [], [], none, none⟩,
        ⟨some 25, .mv (.c (.d (.int .i64 0))), [], [], none, none⟩])
    (.block 0 [0, 3] (some []) (g_law08_TreeLeft.l0)))
   (g_law08_TreeLeft.c18))
def g_law08_TreeLeft.code : ACode :=
  .seq (.region [0] (some []) none
     [⟨some 2, .mv (.c (.d (.bool false))), [], [], none, none⟩])
  (.seq (.seq (.region [0, 21] (some []) none
       (⟨some 14, .mv (.t 0), [], [], none, none⟩ ::
        ⟨some 15, .len (.t 14), [], [], none, none⟩ ::
        ⟨some 16, .bin .eql (.t 15) (.c (.d (.int .i64 0))), [], [], none, none⟩ ::
        ⟨some 17, .mv (.t 16), [], [], none, (some ([0, 17], (some [])))⟩ ::
        g_law08_TreeLeft.o0))
    (g_law08_TreeLeft.c0))
   (g_law08_TreeLeft.c19))
def g_law08_TreeLeft : AFn := { N := 153, res := [.slot 2], own := [], frz := [], code := g_law08_TreeLeft.code }

end Pay
