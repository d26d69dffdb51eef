/- The program's functions, as code of the abstract machine: for every function listed here; written by a program of ours. -/
import Derived.Test.YtbhjjheefdilbaaPayQ
set_option maxRecDepth 20000
namespace Pay
/- paymaster/paymasterlaw17.BookBack: function 25. drawn region 17: first 10, left 4; drawn region 18: first 10, left 0; drawn region 24: first 9, left 0; drawn region 30: first 7, left 0; drawn region 33: first 42, left 0 -/
def g_law17_BookBack.o3 : List AOper :=
  [⟨some 52, .pick (.t 48) (.c (.d (.bool true))) (.t 51), [], [], none, none⟩]
def g_law17_BookBack.o2 : List AOper :=
  (⟨some 49, .mv (.t 4), [], [], (some (6, 48, false)), none⟩ ::
     ⟨some 50, .len (.t 49), [], [], (some (6, 48, false)), none⟩ ::
     ⟨some 51, .bin .gtr (.t 50) (.c (.d (.int .i64 40))), [], [], (some (6, 48, false)), (some ([2, 3, 4, 5, 6, 48, 51], (some [5, 6])))⟩ ::
     g_law17_BookBack.o3)
def g_law17_BookBack.o1 : List AOper :=
  (⟨some 47, .pick (.t 44) (.c (.d (.bool true))) (.t 46), [], [], none, none⟩ ::
     ⟨some 48, .mv (.t 47), [], [], none, (some ([2, 3, 4, 5, 6, 48], (some [5, 6])))⟩ ::
     g_law17_BookBack.o2)
def g_law17_BookBack.o0 : List AOper :=
  (⟨some 45, .mv (.t 14), [], [], (some (2, 44, false)), none⟩ ::
     ⟨some 46, .un .not (.t 45), [], [], (some (2, 44, false)), (some ([2, 3, 4, 5, 6, 44, 46], (some [5, 6])))⟩ ::
     g_law17_BookBack.o1)
def g_law17_BookBack.c0 : ACode :=
  .cond (.t 52) (.seq (.region [10] (some []) none
      [⟨some 53, .call 4 [], [], [], none, none⟩,
       ⟨some 10, .mv (.t 53), [], [], none, none⟩])
   (.ret))
  (.skip)
def g_law17_BookBack.c1 : ACode :=
  .seq (.region [2, 3, 4, 5, 6, 15, 58, 59, 60, 67] (some [5, 6]) none
     [⟨some 64, .faddr 4 (.t 17), [], [], none, none⟩,
      ⟨some 65, .load none (.t 64), [], [], none, none⟩,
      ⟨some 66, .mv (.t 15), [], [], none, none⟩,
      ⟨some 67, .bin .gtr (.t 65) (.t 66), [], [], none, none⟩])
  (.cond (.t 67) (.seq (.region [10] (some []) none
       [⟨some 68, .call 4 [], [], [], none, none⟩,
        ⟨some 10, .mv (.t 68), [], [], none, none⟩])
    (.ret))
   (.skip))
def g_law17_BookBack.c2 : ACode :=
  .region [2, 3, 4, 5, 6, 15, 58, 59, 60] (some [5, 6]) none
    [⟨some 69, .bin .add (.t 60) (.c (.d (.int .i64 1))), [], [], none, none⟩,
     ⟨some 60, .mv (.t 69), [], [], none, none⟩]
def g_law17_BookBack.l0 : ACode :=
  .loop [2, 3, 4, 5, 6, 15, 58, 59, 60] (some [5, 6]) (.seq (.region [2, 3, 4, 5, 6, 15, 58, 59, 60, 61] (some [5, 6]) none
     [⟨some 61, .bin .lss (.t 60) (.t 59), [], [], none, none⟩])
  (.seq (.cond (.t 61) (.skip)
    (.exit 0))
   (.seq (.block 1 [2, 3, 4, 5, 6, 15, 58, 59, 60] (some [5, 6]) (.seq (.region [2, 3, 4, 5, 6, 15, 17, 58, 59, 60] (some [5, 6, 17]) none
         [⟨some 62, .iaddr 22 (.t 58) (.t 60), [], [], none, none⟩,
          ⟨some 63, .load (some 22) (.t 62), [], [], none, none⟩,
          ⟨some 17, .alloc 17 [.d (.int .i64 0), .d (.int .i64 0), .d (.int .i64 0), .d (.int .i64 0), .d (.int .i64 0), .cap0, .d (.int .i64 0), .d (.int .i64 0), .d (.int .i64 0), .d (.int .i64 0), .d (.int .i64 0), .d (.int .i64 0), .d (.int .i64 0), .d (.int .i64 0), .d (.int .i64 0), .d (.int .i64 0), .d (.int .i64 0), .d (.int .i64 0), .cap0, .cap0, .cap0, .cap0], [], [], none, none⟩,
          ⟨none, .store 22 (.t 17) (.t 63), [], [], none, none⟩])
      (g_law17_BookBack.c1)))
    (g_law17_BookBack.c2))))
def g_law17_BookBack.c3 : ACode :=
  .block 0 [2, 3, 4, 5, 6, 15] (some [5, 6]) (g_law17_BookBack.l0)
def g_law17_BookBack.o5 : List AOper :=
  [⟨some 85, .pick (.t 83) (.t 84) (.c (.d (.bool false))), [], [], none, none⟩,
     ⟨some 10, .mv (.t 85), [], [], none, none⟩]
def g_law17_BookBack.o4 : List AOper :=
  (⟨some 84, .call 4 [], [], [], (some (5, 83, true)), (some ([83, 84], (some [])))⟩ ::
     g_law17_BookBack.o5)
def g_law17_BookBack.c4 : ACode :=
  .ret
def g_law17_BookBack.a6 : List AOper :=
  [⟨some 98, .load (some 1) (.t 5), [], [], none, none⟩,
     ⟨some 99, .mv (.t 2), [], [], none, none⟩,
     ⟨some 100, .mv (.t 3), [], [], none, none⟩,
     ⟨some 101, .bin .quo (.t 100) (.c (.d (.int .i64 12))), [], [2], none, none⟩,
     ⟨some 102, .call 6 [(.t 98), (.t 99), (.t 101), (.c (.d (.int .i64 6)))], [], [0, 1, 3], none, none⟩,
     ⟨some 103, .load (some 1) (.t 20), [], [], none, none⟩,
     ⟨some 104, .mv (.t 2), [], [], none, none⟩,
     ⟨some 105, .mv (.t 3), [], [], none, none⟩,
     ⟨some 106, .bin .quo (.t 105) (.c (.d (.int .i64 12))), [], [7], none, none⟩,
     ⟨some 107, .call 6 [(.t 103), (.t 104), (.t 106), (.c (.d (.int .i64 6)))], [], [5, 6, 8, 4], none, none⟩,
     ⟨some 24, .alloc 24 [.d (.int .i64 0), .d (.int .i64 0), .d (.int .i64 0), .cap0, .cap0], [], [], none, none⟩,
     ⟨some 25, .alloc 25 [.d (.int .i64 0), .d (.int .i64 0), .d (.int .i64 0), .cap0, .cap0], [], [], none, none⟩,
     ⟨none, .store 5 (.t 24) (.t 102), [], [10, 4, 9, 0, 1, 2, 3, 4, 10, 11], none, none⟩,
     ⟨none, .store 5 (.t 25) (.t 107), [], [11, 9, 12, 0, 1, 2, 3, 4, 5, 6, 7, 8, 9, 10, 11, 12], none, none⟩]
def g_law17_BookBack.t16 : Tr := .one 13 .done
def g_law17_BookBack.t17 : Tr := .one 12 g_law17_BookBack.t16
def g_law17_BookBack.t18 : Tr := .one 11 g_law17_BookBack.t17
def g_law17_BookBack.t19 : Tr := .one 10 g_law17_BookBack.t17
def g_law17_BookBack.t20 : Tr := .one 11 g_law17_BookBack.t19
def g_law17_BookBack.t21 : Tr := .two 10 g_law17_BookBack.t18 g_law17_BookBack.t20
def g_law17_BookBack.i15 : List Nat := 9 :: []
def g_law17_BookBack.i14 : List Nat := 8 :: g_law17_BookBack.i15
def g_law17_BookBack.i13 : List Nat := 7 :: g_law17_BookBack.i14
def g_law17_BookBack.i12 : List Nat := 6 :: g_law17_BookBack.i13
def g_law17_BookBack.i11 : List Nat := 5 :: g_law17_BookBack.i12
def g_law17_BookBack.i10 : List Nat := 4 :: g_law17_BookBack.i11
def g_law17_BookBack.i9 : List Nat := 3 :: g_law17_BookBack.i10
def g_law17_BookBack.i8 : List Nat := 2 :: g_law17_BookBack.i9
def g_law17_BookBack.i7 : List Nat := 1 :: g_law17_BookBack.i8
def g_law17_BookBack.o27 : List AOper :=
  [⟨some 136, .pick (.t 129) (.c (.d (.bool true))) (.t 135), [], [], none, none⟩]
def g_law17_BookBack.o26 : List AOper :=
  (⟨some 130, .faddr 0 (.t 20), [], [], (some (13, 129, false)), none⟩ ::
     ⟨some 131, .load none (.t 130), [], [], (some (13, 129, false)), none⟩ ::
     ⟨some 132, .len (.t 131), [], [], (some (13, 129, false)), none⟩ ::
     ⟨some 133, .mv (.t 15), [], [], (some (13, 129, false)), none⟩ ::
     ⟨some 134, .bin .add (.t 133) (.c (.d (.int .i64 2))), [], [], (some (13, 129, false)), none⟩ ::
     ⟨some 135, .bin .neq (.t 132) (.t 134), [], [], (some (13, 129, false)), (some ([2, 3, 5, 15, 20, 24, 25, 26, 27, 129, 135], (some [5, 20, 24, 25])))⟩ ::
     g_law17_BookBack.o27)
def g_law17_BookBack.o25 : List AOper :=
  (⟨some 128, .pick (.t 122) (.c (.d (.bool true))) (.t 127), [], [], none, none⟩ ::
     ⟨some 129, .mv (.t 128), [], [], none, (some ([2, 3, 5, 15, 20, 24, 25, 26, 27, 129], (some [5, 20, 24, 25])))⟩ ::
     g_law17_BookBack.o26)
def g_law17_BookBack.o24 : List AOper :=
  (⟨some 123, .mv (.t 26), [], [], (some (6, 122, false)), none⟩ ::
     ⟨some 124, .len (.t 123), [], [], (some (6, 122, false)), none⟩ ::
     ⟨some 125, .mv (.t 27), [], [], (some (6, 122, false)), none⟩ ::
     ⟨some 126, .len (.t 125), [], [], (some (6, 122, false)), none⟩ ::
     ⟨some 127, .bin .neq (.t 124) (.t 126), [], [], (some (6, 122, false)), (some ([2, 3, 5, 15, 20, 24, 25, 26, 27, 122, 127], (some [5, 20, 24, 25])))⟩ ::
     g_law17_BookBack.o25)
def g_law17_BookBack.o23 : List AOper :=
  (⟨some 121, .pick (.t 118) (.c (.d (.bool true))) (.t 120), [], [], none, none⟩ ::
     ⟨some 122, .mv (.t 121), [], [], none, (some ([2, 3, 5, 15, 20, 24, 25, 26, 27, 122], (some [5, 20, 24, 25])))⟩ ::
     g_law17_BookBack.o24)
def g_law17_BookBack.o22 : List AOper :=
  (⟨some 119, .mv (.t 23), [], [], (some (2, 118, false)), none⟩ ::
     ⟨some 120, .bin .neq (.t 119) (.c (.d (.int .i64 0))), [], [], (some (2, 118, false)), (some ([2, 3, 5, 15, 20, 24, 25, 26, 27, 118, 120], (some [5, 20, 24, 25])))⟩ ::
     g_law17_BookBack.o23)
def g_law17_BookBack.c5 : ACode :=
  .cond (.t 136) (.seq (.region [10] (some []) none
      [⟨some 10, .mv (.c (.d (.bool false))), [], [], none, none⟩])
   (.ret))
  (.skip)
def g_law17_BookBack.c6 : ACode :=
  .region [2, 3, 5, 15, 20, 24, 25, 26, 27, 138, 139] (some [5, 20, 24, 25]) none
    [⟨some 151, .bin .add (.t 139) (.c (.d (.int .i64 1))), [], [], none, none⟩,
     ⟨some 139, .mv (.t 151), [], [], none, none⟩]
def g_law17_BookBack.l1 : ACode :=
  .loop [2, 3, 5, 15, 20, 24, 25, 26, 27, 138, 139] (some [5, 20, 24, 25]) (.seq (.region [2, 3, 5, 15, 20, 24, 25, 26, 27, 138, 139, 140] (some [5, 20, 24, 25]) none
     [⟨some 140, .bin .lss (.t 139) (.t 138), [], [], none, none⟩])
  (.seq (.cond (.t 140) (.skip)
    (.exit 2))
   (.seq (.block 3 [2, 3, 5, 15, 20, 24, 25, 26, 27, 138, 139] (some [5, 20, 24, 25]) (.seq (.region [2, 3, 5, 15, 20, 24, 25, 26, 27, 28, 138, 139] (some [5, 20, 24, 25]) none
         [⟨some 141, .mv (.t 139), [], [], none, none⟩,
          ⟨some 28, .mv (.t 141), [], [], none, none⟩])
      (.seq (.region [2, 3, 5, 15, 20, 24, 25, 26, 27, 138, 139, 150] (some [5, 20, 24, 25]) (some ([0, 1, 2, 3, 4, 5, 6, 7, 8], .done))
          [⟨some 142, .mv (.t 26), [], [], none, none⟩,
           ⟨some 143, .mv (.t 28), [], [], none, none⟩,
           ⟨some 144, .iaddr 4 (.t 142) (.t 143), [], [0, 1], none, none⟩,
           ⟨some 145, .load (some 4) (.t 144), [], [2], none, none⟩,
           ⟨some 146, .mv (.t 27), [], [], none, none⟩,
           ⟨some 147, .mv (.t 28), [], [], none, none⟩,
           ⟨some 148, .iaddr 4 (.t 146) (.t 147), [], [4, 5], none, none⟩,
           ⟨some 149, .load (some 4) (.t 148), [], [6], none, none⟩,
           ⟨some 150, .eqs true [0, 0, 0, 0] (.t 145) (.t 149), [], [3, 7], none, none⟩])
       (.cond (.t 150) (.seq (.region [10] (some []) none
            [⟨some 10, .mv (.c (.d (.bool false))), [], [], none, none⟩])
         (.ret))
        (.skip)))))
    (g_law17_BookBack.c6))))
def g_law17_BookBack.c7 : ACode :=
  .region [2, 3, 5, 15, 20, 24, 25, 152, 153] (some [5, 20, 24, 25]) none
    [⟨some 163, .bin .add (.t 153) (.c (.d (.int .i64 1))), [], [], none, none⟩,
     ⟨some 153, .mv (.t 163), [], [], none, none⟩]
def g_law17_BookBack.l2 : ACode :=
  .loop [2, 3, 5, 15, 20, 24, 25, 152, 153] (some [5, 20, 24, 25]) (.seq (.region [2, 3, 5, 15, 20, 24, 25, 152, 153, 154] (some [5, 20, 24, 25]) none
     [⟨some 154, .bin .lss (.t 153) (.t 152), [], [], none, none⟩])
  (.seq (.cond (.t 154) (.skip)
    (.exit 4))
   (.seq (.block 5 [2, 3, 5, 15, 20, 24, 25, 152, 153] (some [5, 20, 24, 25]) (.seq (.region [2, 3, 5, 15, 20, 24, 25, 29, 152, 153] (some [5, 20, 24, 25]) none
         [⟨some 155, .mv (.t 153), [], [], none, none⟩,
          ⟨some 29, .mv (.t 155), [], [], none, none⟩])
      (.seq (.region [2, 3, 5, 15, 20, 24, 25, 152, 153, 162] (some [5, 20, 24, 25]) (some ([0, 1, 2, 3, 4, 5, 6], .done))
          [⟨some 156, .load (some 1) (.t 5), [], [], none, none⟩,
           ⟨some 157, .mv (.t 29), [], [], none, none⟩,
           ⟨some 158, .call 9 [(.t 156), (.t 157)], [], [0, 1], none, none⟩,
           ⟨some 159, .load (some 1) (.t 20), [], [], none, none⟩,
           ⟨some 160, .mv (.t 29), [], [], none, none⟩,
           ⟨some 161, .call 9 [(.t 159), (.t 160)], [], [3, 4, 2], none, none⟩,
           ⟨some 162, .beq true (.t 158) (.t 161), [], [2, 5], none, none⟩])
       (.cond (.t 162) (.seq (.region [10] (some []) none
            [⟨some 10, .mv (.c (.d (.bool false))), [], [], none, none⟩])
         (.ret))
        (.skip)))))
    (g_law17_BookBack.c7))))
def g_law17_BookBack.a28 : List AOper :=
  [⟨some 164, .load (some 5) (.t 24), [], [], none, none⟩,
     ⟨some 165, .load (some 5) (.t 25), [], [], none, none⟩,
     ⟨some 166, .call 27 [(.t 164), (.t 165)], [], [0, 1], none, none⟩,
     ⟨some 167, .mv (.t 166), [], [2, 2], none, none⟩,
     ⟨some 168, .load (some 1) (.t 5), [], [3], (some (3, 167, true)), none⟩,
     ⟨some 169, .mv (.t 2), [], [3], (some (3, 167, true)), none⟩,
     ⟨some 170, .mv (.t 3), [], [3], (some (3, 167, true)), none⟩,
     ⟨some 171, .call 28 [(.t 168), (.t 169), (.t 170)], [], [4, 5, 6, 3, 3], (some (3, 167, true)), none⟩,
     ⟨some 172, .load (some 1) (.t 20), [], [3], (some (3, 167, true)), none⟩,
     ⟨some 173, .mv (.t 2), [], [3], (some (3, 167, true)), none⟩,
     ⟨some 174, .mv (.t 3), [], [3], (some (3, 167, true)), none⟩,
     ⟨some 175, .call 28 [(.t 172), (.t 173), (.t 174)], [], [8, 9, 10, 7, 3], (some (3, 167, true)), none⟩,
     ⟨some 176, .eqs false [0, 0, 0] (.t 171) (.t 175), [], [7, 11, 3], (some (3, 167, true)), none⟩,
     ⟨some 177, .pick (.t 167) (.t 176) (.c (.d (.bool false))), [], [3, 12], none, none⟩,
     ⟨some 178, .mv (.t 177), [], [13, 11], none, none⟩,
     ⟨some 179, .load (some 1) (.t 5), [], [14], (some (14, 178, true)), none⟩,
     ⟨some 180, .mv (.t 2), [], [14], (some (14, 178, true)), none⟩,
     ⟨some 181, .mv (.t 3), [], [14], (some (14, 178, true)), none⟩,
     ⟨some 182, .call 8 [(.t 179), (.t 180), (.t 181)], [], [15, 16, 17, 14, 14], (some (14, 178, true)), none⟩,
     ⟨some 183, .load (some 1) (.t 20), [], [14], (some (14, 178, true)), none⟩,
     ⟨some 184, .mv (.t 2), [], [14], (some (14, 178, true)), none⟩,
     ⟨some 185, .mv (.t 3), [], [14], (some (14, 178, true)), none⟩,
     ⟨some 186, .call 8 [(.t 183), (.t 184), (.t 185)], [], [19, 20, 21, 18, 14], (some (14, 178, true)), none⟩,
     ⟨some 187, .bin .eql (.t 182) (.t 186), [], [18, 22, 14], (some (14, 178, true)), none⟩,
     ⟨some 188, .pick (.t 178) (.t 187) (.c (.d (.bool false))), [], [14, 23], none, none⟩,
     ⟨some 189, .mv (.t 188), [], [24, 22], none, none⟩,
     ⟨some 190, .load (some 1) (.t 20), [], [25], (some (25, 189, true)), none⟩,
     ⟨some 191, .mv (.t 15), [], [25], (some (25, 189, true)), none⟩,
     ⟨some 192, .call 9 [(.t 190), (.t 191)], [], [26, 27, 25, 25], (some (25, 189, true)), none⟩,
     ⟨some 193, .un .not (.t 192), [], [28, 25], (some (25, 189, true)), none⟩,
     ⟨some 194, .pick (.t 189) (.t 193) (.c (.d (.bool false))), [], [25, 29], none, none⟩,
     ⟨some 195, .mv (.t 194), [], [30, 28], none, none⟩,
     ⟨some 196, .load (some 1) (.t 20), [], [31], (some (31, 195, true)), none⟩,
     ⟨some 197, .mv (.t 15), [], [31], (some (31, 195, true)), none⟩,
     ⟨some 198, .bin .add (.t 197) (.c (.d (.int .i64 1))), [], [33, 31], (some (31, 195, true)), none⟩,
     ⟨some 199, .call 9 [(.t 196), (.t 198)], [], [32, 34, 31, 31], (some (31, 195, true)), none⟩,
     ⟨some 200, .un .not (.t 199), [], [35, 31], (some (31, 195, true)), none⟩,
     ⟨some 201, .pick (.t 195) (.t 200) (.c (.d (.bool false))), [], [31, 36], none, none⟩,
     ⟨some 202, .mv (.t 201), [], [37, 35], none, none⟩,
     ⟨some 203, .call 4 [], [], [38, 38], (some (38, 202, true)), none⟩,
     ⟨some 204, .pick (.t 202) (.t 203) (.c (.d (.bool false))), [], [38, 39], none, none⟩,
     ⟨some 10, .mv (.t 204), [], [40, 39, 0, 1, 2, 3, 4, 5, 6, 7, 8, 9, 10, 11, 12, 13, 14, 15, 16, 17, 18, 19, 20, 21, 22, 23, 24, 25, 26, 27, 28, 29, 30, 31, 32, 33, 34, 35, 36, 37, 38, 39, 40], none, none⟩]
def g_law17_BookBack.i69 : List Nat := 41 :: []
def g_law17_BookBack.i68 : List Nat := 40 :: g_law17_BookBack.i69
def g_law17_BookBack.i67 : List Nat := 39 :: g_law17_BookBack.i68
def g_law17_BookBack.i66 : List Nat := 38 :: g_law17_BookBack.i67
def g_law17_BookBack.i65 : List Nat := 37 :: g_law17_BookBack.i66
def g_law17_BookBack.i64 : List Nat := 36 :: g_law17_BookBack.i65
def g_law17_BookBack.i63 : List Nat := 35 :: g_law17_BookBack.i64
def g_law17_BookBack.i62 : List Nat := 34 :: g_law17_BookBack.i63
def g_law17_BookBack.i61 : List Nat := 33 :: g_law17_BookBack.i62
def g_law17_BookBack.i60 : List Nat := 32 :: g_law17_BookBack.i61
def g_law17_BookBack.i59 : List Nat := 31 :: g_law17_BookBack.i60
def g_law17_BookBack.i58 : List Nat := 30 :: g_law17_BookBack.i59
def g_law17_BookBack.i57 : List Nat := 29 :: g_law17_BookBack.i58
def g_law17_BookBack.i56 : List Nat := 28 :: g_law17_BookBack.i57
def g_law17_BookBack.i55 : List Nat := 27 :: g_law17_BookBack.i56
def g_law17_BookBack.i54 : List Nat := 26 :: g_law17_BookBack.i55
def g_law17_BookBack.i53 : List Nat := 25 :: g_law17_BookBack.i54
def g_law17_BookBack.i52 : List Nat := 24 :: g_law17_BookBack.i53
def g_law17_BookBack.i51 : List Nat := 23 :: g_law17_BookBack.i52
def g_law17_BookBack.i50 : List Nat := 22 :: g_law17_BookBack.i51
def g_law17_BookBack.i49 : List Nat := 21 :: g_law17_BookBack.i50
def g_law17_BookBack.i48 : List Nat := 20 :: g_law17_BookBack.i49
def g_law17_BookBack.i47 : List Nat := 19 :: g_law17_BookBack.i48
def g_law17_BookBack.i46 : List Nat := 18 :: g_law17_BookBack.i47
def g_law17_BookBack.i45 : List Nat := 17 :: g_law17_BookBack.i46
def g_law17_BookBack.i44 : List Nat := 16 :: g_law17_BookBack.i45
def g_law17_BookBack.i43 : List Nat := 15 :: g_law17_BookBack.i44
def g_law17_BookBack.i42 : List Nat := 14 :: g_law17_BookBack.i43
def g_law17_BookBack.i41 : List Nat := 13 :: g_law17_BookBack.i42
def g_law17_BookBack.i40 : List Nat := 12 :: g_law17_BookBack.i41
def g_law17_BookBack.i39 : List Nat := 11 :: g_law17_BookBack.i40
def g_law17_BookBack.i38 : List Nat := 10 :: g_law17_BookBack.i39
def g_law17_BookBack.i37 : List Nat := 9 :: g_law17_BookBack.i38
def g_law17_BookBack.i36 : List Nat := 8 :: g_law17_BookBack.i37
def g_law17_BookBack.i35 : List Nat := 7 :: g_law17_BookBack.i36
def g_law17_BookBack.i34 : List Nat := 6 :: g_law17_BookBack.i35
def g_law17_BookBack.i33 : List Nat := 5 :: g_law17_BookBack.i34
def g_law17_BookBack.i32 : List Nat := 4 :: g_law17_BookBack.i33
def g_law17_BookBack.i31 : List Nat := 3 :: g_law17_BookBack.i32
def g_law17_BookBack.i30 : List Nat := 2 :: g_law17_BookBack.i31
def g_law17_BookBack.i29 : List Nat := 1 :: g_law17_BookBack.i30
def g_law17_BookBack.c8 : ACode :=
  .ret
def g_law17_BookBack.c9 : ACode :=
  .seq (.region [10] (some []) (some (0 :: g_law17_BookBack.i29, .done)) g_law17_BookBack.a28)
  (g_law17_BookBack.c8)
def g_law17_BookBack.c10 : ACode :=
  .seq (.seq (.region [2, 3, 5, 15, 20, 24, 25, 152, 153] (some [5, 20, 24, 25]) none
      [⟨some 152, .mv (.t 15), [], [], none, none⟩,
       ⟨some 153, .mv (.c (.d (.int .i64 0))), [], [], none, none⟩])
   (.block 4 [2, 3, 5, 15, 20, 24, 25] (some [5, 20, 24, 25]) (g_law17_BookBack.l2)))
  (g_law17_BookBack.c9)
def g_law17_BookBack.c11 : ACode :=
  .seq (.seq (.region [2, 3, 5, 15, 20, 24, 25, 26, 27, 138, 139] (some [5, 20, 24, 25]) none
      [⟨some 137, .mv (.t 26), [], [], none, none⟩,
       ⟨some 138, .len (.t 137), [], [], none, none⟩,
       ⟨some 139, .mv (.c (.d (.int .i64 0))), [], [], none, none⟩])
   (.block 2 [2, 3, 5, 15, 20, 24, 25] (some [5, 20, 24, 25]) (g_law17_BookBack.l1)))
  (g_law17_BookBack.c10)
def g_law17_BookBack.c12 : ACode :=
  .seq (.seq (.region [2, 3, 5, 15, 20, 24, 25, 26, 27, 136] (some [5, 20, 24, 25]) none
      (⟨some 116, .mv (.t 21), [], [], none, none⟩ ::
       ⟨some 117, .bin .neq (.t 116) (.c (.d (.int .i64 0))), [], [], none, none⟩ ::
       ⟨some 118, .mv (.t 117), [], [], none, (some ([2, 3, 5, 15, 20, 23, 24, 25, 26, 27, 118], (some [5, 20, 24, 25])))⟩ ::
       g_law17_BookBack.o22))
   (g_law17_BookBack.c5))
  (g_law17_BookBack.c11)
def g_law17_BookBack.c13 : ACode :=
  .seq (.region [2, 3, 5, 15, 20, 21, 23, 24, 25, 26, 27] (some [5, 20, 24, 25]) (some ([0, 1, 2, 3, 4, 5, 6, 7, 8, 9], .done))
     [⟨some 108, .load (some 1) (.t 5), [], [], none, none⟩,
      ⟨some 109, .mv (.t 2), [], [], none, none⟩,
      ⟨some 110, .mv (.t 4), [], [], none, none⟩,
      ⟨some 111, .call 26 [(.t 108), (.t 109), (.t 110)], [], [0, 1, 2], none, none⟩,
      ⟨some 112, .load (some 1) (.t 20), [], [], none, none⟩,
      ⟨some 113, .mv (.t 2), [], [], none, none⟩,
      ⟨some 114, .mv (.t 4), [], [], none, none⟩,
      ⟨some 115, .call 26 [(.t 112), (.t 113), (.t 114)], [], [4, 5, 6, 3], none, none⟩,
      ⟨some 26, .mv (.t 111), [], [3, 7, 0, 1, 2, 3], none, none⟩,
      ⟨some 27, .mv (.t 115), [], [7, 8, 0, 1, 2, 3, 4, 5, 6, 7, 8], none, none⟩])
  (g_law17_BookBack.c12)
def g_law17_BookBack.c14 : ACode :=
  .seq (.region [2, 3, 4, 5, 15, 20, 21, 23, 24, 25] (some [5, 20, 24, 25]) (some (0 :: g_law17_BookBack.i7, g_law17_BookBack.t21)) g_law17_BookBack.a6)
  (g_law17_BookBack.c13)
def g_law17_BookBack.c15 : ACode :=
  .seq (.region [2, 3, 4, 5, 15, 20, 21, 23] (some [5, 20]) none
     [⟨some 93, .load (some 1) (.t 20), [], [], none, none⟩,
      ⟨some 94, .load (some 22) (.t 6), [], [], none, none⟩,
      ⟨some 95, .call 5 [(.t 93), (.t 94)], [], [], none, none⟩,
      ⟨some 92, .mv (.t 95), [], [], none, none⟩,
      ⟨some 96, .ext (.t 92) 0, [], [], none, none⟩,
      ⟨some 97, .ext (.t 92) 1, [], [], none, none⟩,
      ⟨some 22, .alloc 22 [.cap0], [], [], none, none⟩,
      ⟨none, .store 1 (.t 22) (.t 96), [], [], none, none⟩,
      ⟨some 23, .mv (.t 97), [], [], none, none⟩])
  (g_law17_BookBack.c14)
def g_law17_BookBack.c16 : ACode :=
  .seq (.region [2, 3, 4, 5, 6, 15, 20, 21] (some [5, 6, 20]) none
     [⟨some 87, .load (some 1) (.t 18), [], [], none, none⟩,
      ⟨some 88, .mv (.t 15), [], [], none, none⟩,
      ⟨some 89, .call 7 [(.t 87), (.t 88)], [], [], none, none⟩,
      ⟨some 86, .mv (.t 89), [], [], none, none⟩,
      ⟨some 90, .ext (.t 86) 0, [], [], none, none⟩,
      ⟨some 91, .ext (.t 86) 1, [], [], none, none⟩,
      ⟨some 20, .alloc 20 [.cap0], [], [], none, none⟩,
      ⟨none, .store 1 (.t 20) (.t 90), [], [], none, none⟩,
      ⟨some 21, .mv (.t 91), [], [], none, none⟩])
  (g_law17_BookBack.c15)
def g_law17_BookBack.c17 : ACode :=
  .seq (.seq (.region [2, 3, 4, 5, 6, 15, 18, 77] (some [5, 6, 18]) none
      [⟨some 76, .mv (.t 19), [], [], none, none⟩,
       ⟨some 77, .bin .neq (.t 76) (.c (.d (.int .i64 0))), [], [], none, none⟩])
   (.cond (.t 77) (.seq (.region [10] (some []) none
        (⟨some 78, .faddr 0 (.t 18), [], [], none, none⟩ ::
         ⟨some 79, .load none (.t 78), [], [], none, none⟩ ::
         ⟨some 80, .len (.t 79), [], [], none, none⟩ ::
         ⟨some 81, .mv (.t 15), [], [], none, none⟩ ::
         ⟨some 82, .bin .eql (.t 80) (.t 81), [], [], none, none⟩ ::
         ⟨some 83, .mv (.t 82), [], [], none, (some ([83], (some [])))⟩ ::
         g_law17_BookBack.o4))
     (g_law17_BookBack.c4))
    (.skip)))
  (g_law17_BookBack.c16)
def g_law17_BookBack.c18 : ACode :=
  .seq (.region [2, 3, 4, 5, 6, 15, 18, 19] (some [5, 6, 18]) none
     [⟨some 71, .load (some 1) (.t 5), [], [], none, none⟩,
      ⟨some 72, .load (some 22) (.t 6), [], [], none, none⟩,
      ⟨some 73, .call 5 [(.t 71), (.t 72)], [], [], none, none⟩,
      ⟨some 70, .mv (.t 73), [], [], none, none⟩,
      ⟨some 74, .ext (.t 70) 0, [], [], none, none⟩,
      ⟨some 75, .ext (.t 70) 1, [], [], none, none⟩,
      ⟨some 18, .alloc 18 [.cap0], [], [], none, none⟩,
      ⟨none, .store 1 (.t 18) (.t 74), [], [], none, none⟩,
      ⟨some 19, .mv (.t 75), [], [], none, none⟩])
  (g_law17_BookBack.c17)
def g_law17_BookBack.c19 : ACode :=
  .seq (.seq (.region [2, 3, 4, 5, 6, 15, 58, 59, 60] (some [5, 6]) none
      [⟨some 57, .faddr 0 (.t 5), [], [], none, none⟩,
       ⟨some 58, .load none (.t 57), [], [], none, none⟩,
       ⟨some 59, .len (.t 58), [], [], none, none⟩,
       ⟨some 60, .mv (.c (.d (.int .i64 0))), [], [], none, none⟩])
   (g_law17_BookBack.c3))
  (g_law17_BookBack.c18)
def g_law17_BookBack.c20 : ACode :=
  .seq (.region [2, 3, 4, 5, 6, 15] (some [5, 6]) none
     [⟨some 54, .faddr 0 (.t 5), [], [], none, none⟩,
      ⟨some 55, .load none (.t 54), [], [], none, none⟩,
      ⟨some 56, .len (.t 55), [], [], none, none⟩,
      ⟨some 15, .mv (.t 56), [], [], none, none⟩])
  (g_law17_BookBack.c19)
def g_law17_BookBack.c21 : ACode :=
  .seq (.seq (.region [2, 3, 4, 5, 6, 52] (some [5, 6]) none
      (⟨some 42, .mv (.t 12), [], [], none, none⟩ ::
       ⟨some 43, .un .not (.t 42), [], [], none, none⟩ ::
       ⟨some 44, .mv (.t 43), [], [], none, (some ([2, 3, 4, 5, 6, 14, 44], (some [5, 6])))⟩ ::
       g_law17_BookBack.o0))
   (g_law17_BookBack.c0))
  (g_law17_BookBack.c20)
def g_law17_BookBack.c22 : ACode :=
  .seq (.region [2, 3, 4, 5, 6, 12, 14] (some [5, 6]) none
     [⟨some 36, .load (some 22) (.t 6), [], [], none, none⟩,
      ⟨some 37, .bsl none 22 [] 1 [(0, (.t 36))], [], [], none, none⟩,
      ⟨some 38, .build [.cap0] [(0, 1, (.t 37))], [], [], none, none⟩,
      ⟨some 39, .call 3 [(.t 38)], [], [], none, none⟩,
      ⟨some 35, .mv (.t 39), [], [], none, none⟩,
      ⟨some 40, .ext (.t 35) 0, [], [], none, none⟩,
      ⟨some 41, .ext (.t 35) 1, [], [], none, none⟩,
      ⟨some 13, .mv (.t 40), [], [], none, none⟩,
      ⟨some 14, .mv (.t 41), [], [], none, none⟩])
  (g_law17_BookBack.c21)
def g_law17_BookBack.code : ACode :=
  .seq (.region [2, 3, 4, 5, 6] (some [5, 6]) none
     [⟨some 5, .box 5 1 (.t 0), [], [], none, none⟩,
      ⟨some 6, .box 6 22 (.t 1), [], [], none, none⟩,
      ⟨some 10, .mv (.c (.d (.bool false))), [], [], none, none⟩])
  (.seq (.region [2, 3, 4, 5, 6, 12] (some [5, 6]) none
      [⟨some 31, .load (some 1) (.t 5), [], [], none, none⟩,
       ⟨some 32, .call 3 [(.t 31)], [], [], none, none⟩,
       ⟨some 30, .mv (.t 32), [], [], none, none⟩,
       ⟨some 33, .ext (.t 30) 0, [], [], none, none⟩,
       ⟨some 34, .ext (.t 30) 1, [], [], none, none⟩,
       ⟨some 11, .mv (.t 33), [], [], none, none⟩,
       ⟨some 12, .mv (.t 34), [], [], none, none⟩])
   (g_law17_BookBack.c22))
def g_law17_BookBack : AFn := { N := 205, res := [.slot 10], own := [], frz := [], code := g_law17_BookBack.code }

/- paymaster/paymasterlaw17.BookMore: function 29. drawn region 12: first 10, left 4; drawn region 13: first 10, left 0; drawn region 19: first 9, left 0; drawn region 22: first 29, left 0 -/
def g_law17_BookMore.o5 : List AOper :=
  [⟨some 52, .pick (.t 47) (.c (.d (.bool true))) (.t 51), [], [], none, none⟩]
def g_law17_BookMore.o4 : List AOper :=
  (⟨some 48, .faddr 2 (.t 6), [], [], (some (11, 47, false)), none⟩ ::
     ⟨some 49, .load none (.t 48), [], [], (some (11, 47, false)), none⟩ ::
     ⟨some 50, .mv (.t 2), [], [], (some (11, 47, false)), none⟩ ::
     ⟨some 51, .bin .eql (.t 49) (.t 50), [], [], (some (11, 47, false)), (some ([2, 3, 4, 5, 6, 47, 51], (some [5, 6])))⟩ ::
     g_law17_BookMore.o5)
def g_law17_BookMore.o3 : List AOper :=
  (⟨some 46, .pick (.t 42) (.c (.d (.bool true))) (.t 45), [], [], none, none⟩ ::
     ⟨some 47, .mv (.t 46), [], [], none, (some ([2, 3, 4, 5, 6, 47], (some [5, 6])))⟩ ::
     g_law17_BookMore.o4)
def g_law17_BookMore.o2 : List AOper :=
  (⟨some 43, .mv (.t 4), [], [], (some (6, 42, false)), none⟩ ::
     ⟨some 44, .len (.t 43), [], [], (some (6, 42, false)), none⟩ ::
     ⟨some 45, .bin .gtr (.t 44) (.c (.d (.int .i64 40))), [], [], (some (6, 42, false)), (some ([2, 3, 4, 5, 6, 42, 45], (some [5, 6])))⟩ ::
     g_law17_BookMore.o3)
def g_law17_BookMore.o1 : List AOper :=
  (⟨some 41, .pick (.t 38) (.c (.d (.bool true))) (.t 40), [], [], none, none⟩ ::
     ⟨some 42, .mv (.t 41), [], [], none, (some ([2, 3, 4, 5, 6, 42], (some [5, 6])))⟩ ::
     g_law17_BookMore.o2)
def g_law17_BookMore.o0 : List AOper :=
  (⟨some 39, .mv (.t 14), [], [], (some (2, 38, false)), none⟩ ::
     ⟨some 40, .un .not (.t 39), [], [], (some (2, 38, false)), (some ([2, 3, 4, 5, 6, 38, 40], (some [5, 6])))⟩ ::
     g_law17_BookMore.o1)
def g_law17_BookMore.c0 : ACode :=
  .cond (.t 52) (.seq (.region [10] (some []) none
      [⟨some 53, .call 4 [], [], [], none, none⟩,
       ⟨some 10, .mv (.t 53), [], [], none, none⟩])
   (.ret))
  (.skip)
def g_law17_BookMore.c1 : ACode :=
  .seq (.region [2, 3, 4, 5, 6, 55, 56, 57, 66] (some [5, 6]) none
     [⟨some 61, .faddr 4 (.t 16), [], [], none, none⟩,
      ⟨some 62, .load none (.t 61), [], [], none, none⟩,
      ⟨some 63, .faddr 0 (.t 5), [], [], none, none⟩,
      ⟨some 64, .load none (.t 63), [], [], none, none⟩,
      ⟨some 65, .len (.t 64), [], [], none, none⟩,
      ⟨some 66, .bin .gtr (.t 62) (.t 65), [], [], none, none⟩])
  (.cond (.t 66) (.seq (.region [10] (some []) none
       [⟨some 67, .call 4 [], [], [], none, none⟩,
        ⟨some 10, .mv (.t 67), [], [], none, none⟩])
    (.ret))
   (.skip))
def g_law17_BookMore.c2 : ACode :=
  .region [2, 3, 4, 5, 6, 55, 56, 57] (some [5, 6]) none
    [⟨some 68, .bin .add (.t 57) (.c (.d (.int .i64 1))), [], [], none, none⟩,
     ⟨some 57, .mv (.t 68), [], [], none, none⟩]
def g_law17_BookMore.l0 : ACode :=
  .loop [2, 3, 4, 5, 6, 55, 56, 57] (some [5, 6]) (.seq (.region [2, 3, 4, 5, 6, 55, 56, 57, 58] (some [5, 6]) none
     [⟨some 58, .bin .lss (.t 57) (.t 56), [], [], none, none⟩])
  (.seq (.cond (.t 58) (.skip)
    (.exit 0))
   (.seq (.block 1 [2, 3, 4, 5, 6, 55, 56, 57] (some [5, 6]) (.seq (.region [2, 3, 4, 5, 6, 16, 55, 56, 57] (some [5, 6, 16]) none
         [⟨some 59, .iaddr 22 (.t 55) (.t 57), [], [], none, none⟩,
          ⟨some 60, .load (some 22) (.t 59), [], [], none, none⟩,
          ⟨some 16, .alloc 16 [.d (.int .i64 0), .d (.int .i64 0), .d (.int .i64 0), .d (.int .i64 0), .d (.int .i64 0), .cap0, .d (.int .i64 0), .d (.int .i64 0), .d (.int .i64 0), .d (.int .i64 0), .d (.int .i64 0), .d (.int .i64 0), .d (.int .i64 0), .d (.int .i64 0), .d (.int .i64 0), .d (.int .i64 0), .d (.int .i64 0), .d (.int .i64 0), .cap0, .cap0, .cap0, .cap0], [], [], none, none⟩,
          ⟨none, .store 22 (.t 16) (.t 60), [], [], none, none⟩])
      (g_law17_BookMore.c1)))
    (g_law17_BookMore.c2))))
def g_law17_BookMore.c3 : ACode :=
  .block 0 [2, 3, 4, 5, 6] (some [5, 6]) (g_law17_BookMore.l0)
def g_law17_BookMore.a6 : List AOper :=
  [⟨some 75, .load (some 1) (.t 5), [], [], none, none⟩,
     ⟨some 76, .mv (.t 2), [], [], none, none⟩,
     ⟨some 77, .mv (.t 3), [], [], none, none⟩,
     ⟨some 78, .bin .quo (.t 77) (.c (.d (.int .i64 12))), [], [2], none, none⟩,
     ⟨some 79, .call 6 [(.t 75), (.t 76), (.t 78), (.c (.d (.int .i64 6)))], [], [0, 1, 3], none, none⟩,
     ⟨some 80, .load (some 1) (.t 17), [], [], none, none⟩,
     ⟨some 81, .mv (.t 2), [], [], none, none⟩,
     ⟨some 82, .mv (.t 3), [], [], none, none⟩,
     ⟨some 83, .bin .quo (.t 82) (.c (.d (.int .i64 12))), [], [7], none, none⟩,
     ⟨some 84, .call 6 [(.t 80), (.t 81), (.t 83), (.c (.d (.int .i64 6)))], [], [5, 6, 8, 4], none, none⟩,
     ⟨some 19, .alloc 19 [.d (.int .i64 0), .d (.int .i64 0), .d (.int .i64 0), .cap0, .cap0], [], [], none, none⟩,
     ⟨some 20, .alloc 20 [.d (.int .i64 0), .d (.int .i64 0), .d (.int .i64 0), .cap0, .cap0], [], [], none, none⟩,
     ⟨none, .store 5 (.t 19) (.t 79), [], [10, 4, 9, 0, 1, 2, 3, 4, 10, 11], none, none⟩,
     ⟨none, .store 5 (.t 20) (.t 84), [], [11, 9, 12, 0, 1, 2, 3, 4, 5, 6, 7, 8, 9, 10, 11, 12], none, none⟩]
def g_law17_BookMore.t16 : Tr := .one 13 .done
def g_law17_BookMore.t17 : Tr := .one 12 g_law17_BookMore.t16
def g_law17_BookMore.t18 : Tr := .one 11 g_law17_BookMore.t17
def g_law17_BookMore.t19 : Tr := .one 10 g_law17_BookMore.t17
def g_law17_BookMore.t20 : Tr := .one 11 g_law17_BookMore.t19
def g_law17_BookMore.t21 : Tr := .two 10 g_law17_BookMore.t18 g_law17_BookMore.t20
def g_law17_BookMore.i15 : List Nat := 9 :: []
def g_law17_BookMore.i14 : List Nat := 8 :: g_law17_BookMore.i15
def g_law17_BookMore.i13 : List Nat := 7 :: g_law17_BookMore.i14
def g_law17_BookMore.i12 : List Nat := 6 :: g_law17_BookMore.i13
def g_law17_BookMore.i11 : List Nat := 5 :: g_law17_BookMore.i12
def g_law17_BookMore.i10 : List Nat := 4 :: g_law17_BookMore.i11
def g_law17_BookMore.i9 : List Nat := 3 :: g_law17_BookMore.i10
def g_law17_BookMore.i8 : List Nat := 2 :: g_law17_BookMore.i9
def g_law17_BookMore.i7 : List Nat := 1 :: g_law17_BookMore.i8
def g_law17_BookMore.o23 : List AOper :=
  [⟨some 104, .pick (.t 98) (.c (.d (.bool true))) (.t 103), [], [], none, none⟩]
def g_law17_BookMore.o22 : List AOper :=
  (⟨some 99, .mv (.t 21), [], [], (some (5, 98, false)), none⟩ ::
     ⟨some 100, .len (.t 99), [], [], (some (5, 98, false)), none⟩ ::
     ⟨some 101, .mv (.t 4), [], [], (some (5, 98, false)), none⟩ ::
     ⟨some 102, .len (.t 101), [], [], (some (5, 98, false)), none⟩ ::
     ⟨some 103, .bin .neq (.t 100) (.t 102), [], [], (some (5, 98, false)), (some ([2, 3, 5, 17, 19, 20, 21, 22, 98, 103], (some [5, 17, 19, 20])))⟩ ::
     g_law17_BookMore.o23)
def g_law17_BookMore.c4 : ACode :=
  .cond (.t 104) (.seq (.region [10] (some []) none
      [⟨some 10, .mv (.c (.d (.bool false))), [], [], none, none⟩])
   (.ret))
  (.skip)
def g_law17_BookMore.c5 : ACode :=
  .region [2, 3, 5, 17, 19, 20, 21, 22, 106, 107] (some [5, 17, 19, 20]) none
    [⟨some 119, .bin .add (.t 107) (.c (.d (.int .i64 1))), [], [], none, none⟩,
     ⟨some 107, .mv (.t 119), [], [], none, none⟩]
def g_law17_BookMore.l1 : ACode :=
  .loop [2, 3, 5, 17, 19, 20, 21, 22, 106, 107] (some [5, 17, 19, 20]) (.seq (.region [2, 3, 5, 17, 19, 20, 21, 22, 106, 107, 108] (some [5, 17, 19, 20]) none
     [⟨some 108, .bin .lss (.t 107) (.t 106), [], [], none, none⟩])
  (.seq (.cond (.t 108) (.skip)
    (.exit 2))
   (.seq (.block 3 [2, 3, 5, 17, 19, 20, 21, 22, 106, 107] (some [5, 17, 19, 20]) (.seq (.region [2, 3, 5, 17, 19, 20, 21, 22, 23, 106, 107] (some [5, 17, 19, 20]) none
         [⟨some 109, .mv (.t 107), [], [], none, none⟩,
          ⟨some 23, .mv (.t 109), [], [], none, none⟩])
      (.seq (.region [2, 3, 5, 17, 19, 20, 21, 22, 106, 107, 118] (some [5, 17, 19, 20]) (some ([0, 1, 2, 3, 4, 5, 6, 7, 8], .done))
          [⟨some 110, .mv (.t 21), [], [], none, none⟩,
           ⟨some 111, .mv (.t 23), [], [], none, none⟩,
           ⟨some 112, .iaddr 4 (.t 110) (.t 111), [], [0, 1], none, none⟩,
           ⟨some 113, .load (some 4) (.t 112), [], [2], none, none⟩,
           ⟨some 114, .mv (.t 22), [], [], none, none⟩,
           ⟨some 115, .mv (.t 23), [], [], none, none⟩,
           ⟨some 116, .iaddr 4 (.t 114) (.t 115), [], [4, 5], none, none⟩,
           ⟨some 117, .load (some 4) (.t 116), [], [6], none, none⟩,
           ⟨some 118, .eqs true [0, 0, 0, 0] (.t 113) (.t 117), [], [3, 7], none, none⟩])
       (.cond (.t 118) (.seq (.region [10] (some []) none
            [⟨some 10, .mv (.c (.d (.bool false))), [], [], none, none⟩])
         (.ret))
        (.skip)))))
    (g_law17_BookMore.c5))))
def g_law17_BookMore.a24 : List AOper :=
  [⟨some 120, .load (some 5) (.t 19), [], [], none, none⟩,
     ⟨some 121, .load (some 5) (.t 20), [], [], none, none⟩,
     ⟨some 122, .call 27 [(.t 120), (.t 121)], [], [0, 1], none, none⟩,
     ⟨some 123, .mv (.t 122), [], [2, 2], none, none⟩,
     ⟨some 124, .load (some 1) (.t 5), [], [3], (some (3, 123, true)), none⟩,
     ⟨some 125, .mv (.t 2), [], [3], (some (3, 123, true)), none⟩,
     ⟨some 126, .mv (.t 3), [], [3], (some (3, 123, true)), none⟩,
     ⟨some 127, .call 28 [(.t 124), (.t 125), (.t 126)], [], [4, 5, 6, 3, 3], (some (3, 123, true)), none⟩,
     ⟨some 128, .load (some 1) (.t 17), [], [3], (some (3, 123, true)), none⟩,
     ⟨some 129, .mv (.t 2), [], [3], (some (3, 123, true)), none⟩,
     ⟨some 130, .mv (.t 3), [], [3], (some (3, 123, true)), none⟩,
     ⟨some 131, .call 28 [(.t 128), (.t 129), (.t 130)], [], [8, 9, 10, 7, 3], (some (3, 123, true)), none⟩,
     ⟨some 132, .eqs false [0, 0, 0] (.t 127) (.t 131), [], [7, 11, 3], (some (3, 123, true)), none⟩,
     ⟨some 133, .pick (.t 123) (.t 132) (.c (.d (.bool false))), [], [3, 12], none, none⟩,
     ⟨some 134, .mv (.t 133), [], [13, 11], none, none⟩,
     ⟨some 135, .load (some 1) (.t 5), [], [14], (some (14, 134, true)), none⟩,
     ⟨some 136, .mv (.t 2), [], [14], (some (14, 134, true)), none⟩,
     ⟨some 137, .mv (.t 3), [], [14], (some (14, 134, true)), none⟩,
     ⟨some 138, .call 8 [(.t 135), (.t 136), (.t 137)], [], [15, 16, 17, 14, 14], (some (14, 134, true)), none⟩,
     ⟨some 139, .load (some 1) (.t 17), [], [14], (some (14, 134, true)), none⟩,
     ⟨some 140, .mv (.t 2), [], [14], (some (14, 134, true)), none⟩,
     ⟨some 141, .mv (.t 3), [], [14], (some (14, 134, true)), none⟩,
     ⟨some 142, .call 8 [(.t 139), (.t 140), (.t 141)], [], [19, 20, 21, 18, 14], (some (14, 134, true)), none⟩,
     ⟨some 143, .bin .eql (.t 138) (.t 142), [], [18, 22, 14], (some (14, 134, true)), none⟩,
     ⟨some 144, .pick (.t 134) (.t 143) (.c (.d (.bool false))), [], [14, 23], none, none⟩,
     ⟨some 145, .mv (.t 144), [], [24, 22], none, none⟩,
     ⟨some 146, .call 4 [], [], [25, 25], (some (25, 145, true)), none⟩,
     ⟨some 147, .pick (.t 145) (.t 146) (.c (.d (.bool false))), [], [25, 26], none, none⟩,
     ⟨some 10, .mv (.t 147), [], [27, 26, 0, 1, 2, 3, 4, 5, 6, 7, 8, 9, 10, 11, 12, 13, 14, 15, 16, 17, 18, 19, 20, 21, 22, 23, 24, 25, 26, 27], none, none⟩]
def g_law17_BookMore.i52 : List Nat := 28 :: []
def g_law17_BookMore.i51 : List Nat := 27 :: g_law17_BookMore.i52
def g_law17_BookMore.i50 : List Nat := 26 :: g_law17_BookMore.i51
def g_law17_BookMore.i49 : List Nat := 25 :: g_law17_BookMore.i50
def g_law17_BookMore.i48 : List Nat := 24 :: g_law17_BookMore.i49
def g_law17_BookMore.i47 : List Nat := 23 :: g_law17_BookMore.i48
def g_law17_BookMore.i46 : List Nat := 22 :: g_law17_BookMore.i47
def g_law17_BookMore.i45 : List Nat := 21 :: g_law17_BookMore.i46
def g_law17_BookMore.i44 : List Nat := 20 :: g_law17_BookMore.i45
def g_law17_BookMore.i43 : List Nat := 19 :: g_law17_BookMore.i44
def g_law17_BookMore.i42 : List Nat := 18 :: g_law17_BookMore.i43
def g_law17_BookMore.i41 : List Nat := 17 :: g_law17_BookMore.i42
def g_law17_BookMore.i40 : List Nat := 16 :: g_law17_BookMore.i41
def g_law17_BookMore.i39 : List Nat := 15 :: g_law17_BookMore.i40
def g_law17_BookMore.i38 : List Nat := 14 :: g_law17_BookMore.i39
def g_law17_BookMore.i37 : List Nat := 13 :: g_law17_BookMore.i38
def g_law17_BookMore.i36 : List Nat := 12 :: g_law17_BookMore.i37
def g_law17_BookMore.i35 : List Nat := 11 :: g_law17_BookMore.i36
def g_law17_BookMore.i34 : List Nat := 10 :: g_law17_BookMore.i35
def g_law17_BookMore.i33 : List Nat := 9 :: g_law17_BookMore.i34
def g_law17_BookMore.i32 : List Nat := 8 :: g_law17_BookMore.i33
def g_law17_BookMore.i31 : List Nat := 7 :: g_law17_BookMore.i32
def g_law17_BookMore.i30 : List Nat := 6 :: g_law17_BookMore.i31
def g_law17_BookMore.i29 : List Nat := 5 :: g_law17_BookMore.i30
def g_law17_BookMore.i28 : List Nat := 4 :: g_law17_BookMore.i29
def g_law17_BookMore.i27 : List Nat := 3 :: g_law17_BookMore.i28
def g_law17_BookMore.i26 : List Nat := 2 :: g_law17_BookMore.i27
def g_law17_BookMore.i25 : List Nat := 1 :: g_law17_BookMore.i26
def g_law17_BookMore.c6 : ACode :=
  .ret
def g_law17_BookMore.c7 : ACode :=
  .seq (.region [10] (some []) (some (0 :: g_law17_BookMore.i25, .done)) g_law17_BookMore.a24)
  (g_law17_BookMore.c6)
def g_law17_BookMore.c8 : ACode :=
  .seq (.seq (.region [2, 3, 5, 17, 19, 20, 21, 22, 106, 107] (some [5, 17, 19, 20]) none
      [⟨some 105, .mv (.t 21), [], [], none, none⟩,
       ⟨some 106, .len (.t 105), [], [], none, none⟩,
       ⟨some 107, .mv (.c (.d (.int .i64 0))), [], [], none, none⟩])
   (.block 2 [2, 3, 5, 17, 19, 20] (some [5, 17, 19, 20]) (g_law17_BookMore.l1)))
  (g_law17_BookMore.c7)
def g_law17_BookMore.c9 : ACode :=
  .seq (.seq (.region [2, 3, 5, 17, 19, 20, 21, 22, 104] (some [5, 17, 19, 20]) none
      (⟨some 93, .mv (.t 21), [], [], none, none⟩ ::
       ⟨some 94, .len (.t 93), [], [], none, none⟩ ::
       ⟨some 95, .mv (.t 22), [], [], none, none⟩ ::
       ⟨some 96, .len (.t 95), [], [], none, none⟩ ::
       ⟨some 97, .bin .neq (.t 94) (.t 96), [], [], none, none⟩ ::
       ⟨some 98, .mv (.t 97), [], [], none, (some ([2, 3, 4, 5, 17, 19, 20, 21, 22, 98], (some [5, 17, 19, 20])))⟩ ::
       g_law17_BookMore.o22))
   (g_law17_BookMore.c4))
  (g_law17_BookMore.c8)
def g_law17_BookMore.c10 : ACode :=
  .seq (.region [2, 3, 4, 5, 17, 19, 20, 21, 22] (some [5, 17, 19, 20]) (some ([0, 1, 2, 3, 4, 5, 6, 7, 8, 9], .done))
     [⟨some 85, .load (some 1) (.t 5), [], [], none, none⟩,
      ⟨some 86, .mv (.t 2), [], [], none, none⟩,
      ⟨some 87, .mv (.t 4), [], [], none, none⟩,
      ⟨some 88, .call 26 [(.t 85), (.t 86), (.t 87)], [], [0, 1, 2], none, none⟩,
      ⟨some 89, .load (some 1) (.t 17), [], [], none, none⟩,
      ⟨some 90, .mv (.t 2), [], [], none, none⟩,
      ⟨some 91, .mv (.t 4), [], [], none, none⟩,
      ⟨some 92, .call 26 [(.t 89), (.t 90), (.t 91)], [], [4, 5, 6, 3], none, none⟩,
      ⟨some 21, .mv (.t 88), [], [3, 7, 0, 1, 2, 3], none, none⟩,
      ⟨some 22, .mv (.t 92), [], [7, 8, 0, 1, 2, 3, 4, 5, 6, 7, 8], none, none⟩])
  (g_law17_BookMore.c9)
def g_law17_BookMore.c11 : ACode :=
  .seq (.region [2, 3, 4, 5, 17, 19, 20] (some [5, 17, 19, 20]) (some (0 :: g_law17_BookMore.i7, g_law17_BookMore.t21)) g_law17_BookMore.a6)
  (g_law17_BookMore.c10)
def g_law17_BookMore.c12 : ACode :=
  .seq (.region [2, 3, 4, 5, 17] (some [5, 17]) none
     [⟨some 70, .load (some 1) (.t 5), [], [], none, none⟩,
      ⟨some 71, .load (some 22) (.t 6), [], [], none, none⟩,
      ⟨some 72, .call 5 [(.t 70), (.t 71)], [], [], none, none⟩,
      ⟨some 69, .mv (.t 72), [], [], none, none⟩,
      ⟨some 73, .ext (.t 69) 0, [], [], none, none⟩,
      ⟨some 74, .ext (.t 69) 1, [], [], none, none⟩,
      ⟨some 17, .alloc 17 [.cap0], [], [], none, none⟩,
      ⟨none, .store 1 (.t 17) (.t 73), [], [], none, none⟩,
      ⟨some 18, .mv (.t 74), [], [], none, none⟩])
  (g_law17_BookMore.c11)
def g_law17_BookMore.c13 : ACode :=
  .seq (.seq (.region [2, 3, 4, 5, 6, 55, 56, 57] (some [5, 6]) none
      [⟨some 54, .faddr 0 (.t 5), [], [], none, none⟩,
       ⟨some 55, .load none (.t 54), [], [], none, none⟩,
       ⟨some 56, .len (.t 55), [], [], none, none⟩,
       ⟨some 57, .mv (.c (.d (.int .i64 0))), [], [], none, none⟩])
   (g_law17_BookMore.c3))
  (g_law17_BookMore.c12)
def g_law17_BookMore.c14 : ACode :=
  .seq (.seq (.region [2, 3, 4, 5, 6, 52] (some [5, 6]) none
      (⟨some 36, .mv (.t 12), [], [], none, none⟩ ::
       ⟨some 37, .un .not (.t 36), [], [], none, none⟩ ::
       ⟨some 38, .mv (.t 37), [], [], none, (some ([2, 3, 4, 5, 6, 14, 38], (some [5, 6])))⟩ ::
       g_law17_BookMore.o0))
   (g_law17_BookMore.c0))
  (g_law17_BookMore.c13)
def g_law17_BookMore.c15 : ACode :=
  .seq (.region [2, 3, 4, 5, 6, 12, 14] (some [5, 6]) none
     [⟨some 30, .load (some 22) (.t 6), [], [], none, none⟩,
      ⟨some 31, .bsl none 22 [] 1 [(0, (.t 30))], [], [], none, none⟩,
      ⟨some 32, .build [.cap0] [(0, 1, (.t 31))], [], [], none, none⟩,
      ⟨some 33, .call 3 [(.t 32)], [], [], none, none⟩,
      ⟨some 29, .mv (.t 33), [], [], none, none⟩,
      ⟨some 34, .ext (.t 29) 0, [], [], none, none⟩,
      ⟨some 35, .ext (.t 29) 1, [], [], none, none⟩,
      ⟨some 13, .mv (.t 34), [], [], none, none⟩,
      ⟨some 14, .mv (.t 35), [], [], none, none⟩])
  (g_law17_BookMore.c14)
def g_law17_BookMore.code : ACode :=
  .seq (.region [2, 3, 4, 5, 6] (some [5, 6]) none
     [⟨some 5, .box 5 1 (.t 0), [], [], none, none⟩,
      ⟨some 6, .box 6 22 (.t 1), [], [], none, none⟩,
      ⟨some 10, .mv (.c (.d (.bool false))), [], [], none, none⟩])
  (.seq (.region [2, 3, 4, 5, 6, 12] (some [5, 6]) none
      [⟨some 25, .load (some 1) (.t 5), [], [], none, none⟩,
       ⟨some 26, .call 3 [(.t 25)], [], [], none, none⟩,
       ⟨some 24, .mv (.t 26), [], [], none, none⟩,
       ⟨some 27, .ext (.t 24) 0, [], [], none, none⟩,
       ⟨some 28, .ext (.t 24) 1, [], [], none, none⟩,
       ⟨some 11, .mv (.t 27), [], [], none, none⟩,
       ⟨some 12, .mv (.t 28), [], [], none, none⟩])
   (g_law17_BookMore.c15))
def g_law17_BookMore : AFn := { N := 148, res := [.slot 10], own := [], frz := [], code := g_law17_BookMore.code }

/- paymaster/paymasterlaw17.refs: function 3.  -/
def g_law17_refs.o7 : List AOper :=
  [⟨some 49, .pick (.t 43) (.c (.d (.bool true))) (.t 48), [], [], none, none⟩]
def g_law17_refs.o6 : List AOper :=
  (⟨some 44, .faddr 5 (.t 6), [], [], (some (25, 43, false)), none⟩ ::
     ⟨some 45, .faddr 15 (.t 44), [], [], (some (25, 43, false)), none⟩ ::
     ⟨some 46, .load none (.t 45), [], [], (some (25, 43, false)), none⟩ ::
     ⟨some 47, .len (.t 46), [], [], (some (25, 43, false)), none⟩ ::
     ⟨some 48, .bin .gtr (.t 47) (.c (.d (.int .i64 40))), [], [], (some (25, 43, false)), (some ([4, 6, 12, 13, 14, 43, 48], (some [6, 54])))⟩ ::
     g_law17_refs.o7)
def g_law17_refs.o5 : List AOper :=
  (⟨some 42, .pick (.t 36) (.c (.d (.bool true))) (.t 41), [], [], none, none⟩ ::
     ⟨some 43, .mv (.t 42), [], [], none, (some ([4, 6, 12, 13, 14, 43], (some [6, 54])))⟩ ::
     g_law17_refs.o6)
def g_law17_refs.o4 : List AOper :=
  (⟨some 37, .faddr 5 (.t 6), [], [], (some (18, 36, false)), none⟩ ::
     ⟨some 38, .faddr 14 (.t 37), [], [], (some (18, 36, false)), none⟩ ::
     ⟨some 39, .load none (.t 38), [], [], (some (18, 36, false)), none⟩ ::
     ⟨some 40, .len (.t 39), [], [], (some (18, 36, false)), none⟩ ::
     ⟨some 41, .bin .gtr (.t 40) (.c (.d (.int .i64 40))), [], [], (some (18, 36, false)), (some ([4, 6, 12, 13, 14, 36, 41], (some [6, 54])))⟩ ::
     g_law17_refs.o5)
def g_law17_refs.o3 : List AOper :=
  (⟨some 35, .pick (.t 29) (.c (.d (.bool true))) (.t 34), [], [], none, none⟩ ::
     ⟨some 36, .mv (.t 35), [], [], none, (some ([4, 6, 12, 13, 14, 36], (some [6, 54])))⟩ ::
     g_law17_refs.o4)
def g_law17_refs.o2 : List AOper :=
  (⟨some 30, .faddr 5 (.t 6), [], [], (some (11, 29, false)), none⟩ ::
     ⟨some 31, .faddr 13 (.t 30), [], [], (some (11, 29, false)), none⟩ ::
     ⟨some 32, .load none (.t 31), [], [], (some (11, 29, false)), none⟩ ::
     ⟨some 33, .len (.t 32), [], [], (some (11, 29, false)), none⟩ ::
     ⟨some 34, .bin .gtr (.t 33) (.c (.d (.int .i64 40))), [], [], (some (11, 29, false)), (some ([4, 6, 12, 13, 14, 29, 34], (some [6, 54])))⟩ ::
     g_law17_refs.o3)
def g_law17_refs.o1 : List AOper :=
  (⟨some 28, .pick (.t 22) (.c (.d (.bool true))) (.t 27), [], [], none, none⟩ ::
     ⟨some 29, .mv (.t 28), [], [], none, (some ([4, 6, 12, 13, 14, 29], (some [6, 54])))⟩ ::
     g_law17_refs.o2)
def g_law17_refs.o0 : List AOper :=
  (⟨some 23, .faddr 5 (.t 6), [], [], (some (4, 22, false)), none⟩ ::
     ⟨some 24, .faddr 0 (.t 23), [], [], (some (4, 22, false)), none⟩ ::
     ⟨some 25, .load none (.t 24), [], [], (some (4, 22, false)), none⟩ ::
     ⟨some 26, .len (.t 25), [], [], (some (4, 22, false)), none⟩ ::
     ⟨some 27, .bin .gtr (.t 26) (.c (.d (.int .i64 70))), [], [], (some (4, 22, false)), (some ([4, 6, 12, 13, 14, 22, 27], (some [6, 54])))⟩ ::
     g_law17_refs.o1)
def g_law17_refs.c0 : ACode :=
  .cond (.t 49) (.seq (.region [2, 3] (some [54]) none
      [⟨some 2, .mv (.c (.cap0)), [], [], none, none⟩,
       ⟨some 3, .mv (.c (.d (.bool false))), [], [], none, none⟩])
   (.ret))
  (.skip)
def g_law17_refs.c1 : ACode :=
  .region [4, 12, 13, 14] (some [54]) none
    [⟨some 50, .mv (.t 4), [], [], none, none⟩,
     ⟨some 51, .load (some 22) (.t 6), [], [], none, none⟩,
     ⟨some 52, .call 12 [(.t 51)], [], [], none, none⟩,
     ⟨some 53, .bsl none 22 [] 1 [(0, (.t 52))], [], [], none, none⟩,
     ⟨some 54, .app (some 54) 22 256 (.t 50) (.t 53), [], [], none, none⟩,
     ⟨some 4, .mv (.t 54), [], [], none, none⟩]
def g_law17_refs.c2 : ACode :=
  .seq (.seq (.region [4, 6, 12, 13, 14, 49] (some [6, 54]) none
      (⟨some 18, .faddr 21 (.t 6), [], [], none, none⟩ ::
       ⟨some 19, .load none (.t 18), [], [], none, none⟩ ::
       ⟨some 20, .len (.t 19), [], [], none, none⟩ ::
       ⟨some 21, .bin .gtr (.t 20) (.c (.d (.int .i64 40))), [], [], none, none⟩ ::
       ⟨some 22, .mv (.t 21), [], [], none, (some ([4, 6, 12, 13, 14, 22], (some [6, 54])))⟩ ::
       g_law17_refs.o0))
   (g_law17_refs.c0))
  (g_law17_refs.c1)
def g_law17_refs.c3 : ACode :=
  .region [4, 12, 13, 14] (some [54]) none
    [⟨some 55, .bin .add (.t 14) (.c (.d (.int .i64 1))), [], [], none, none⟩,
     ⟨some 14, .mv (.t 55), [], [], none, none⟩]
def g_law17_refs.l0 : ACode :=
  .loop [4, 12, 13, 14] (some [54]) (.seq (.region [4, 12, 13, 14, 15] (some [54]) none
     [⟨some 15, .bin .lss (.t 14) (.t 13), [], [], none, none⟩])
  (.seq (.cond (.t 15) (.skip)
    (.exit 0))
   (.seq (.block 1 [4, 12, 13, 14] (some [54]) (.seq (.region [4, 6, 12, 13, 14] (some [6, 54]) none
         [⟨some 16, .iaddr 22 (.t 12) (.t 14), [], [], none, none⟩,
          ⟨some 17, .load (some 22) (.t 16), [], [], none, none⟩,
          ⟨some 6, .alloc 6 [.d (.int .i64 0), .d (.int .i64 0), .d (.int .i64 0), .d (.int .i64 0), .d (.int .i64 0), .cap0, .d (.int .i64 0), .d (.int .i64 0), .d (.int .i64 0), .d (.int .i64 0), .d (.int .i64 0), .d (.int .i64 0), .d (.int .i64 0), .d (.int .i64 0), .d (.int .i64 0), .d (.int .i64 0), .d (.int .i64 0), .d (.int .i64 0), .cap0, .cap0, .cap0, .cap0], [], [], none, none⟩,
          ⟨none, .store 22 (.t 6) (.t 17), [], [], none, none⟩])
      (g_law17_refs.c2)))
    (g_law17_refs.c3))))
def g_law17_refs.c4 : ACode :=
  .block 0 [4] (some [54]) (g_law17_refs.l0)
def g_law17_refs.c5 : ACode :=
  .seq (.region [2, 3] (some [54]) none
     [⟨some 56, .mv (.t 4), [], [], none, none⟩,
      ⟨some 2, .mv (.t 56), [], [], none, none⟩,
      ⟨some 3, .mv (.c (.d (.bool true))), [], [], none, none⟩])
  (.ret)
def g_law17_refs.c6 : ACode :=
  .seq (.region [1, 4] (some [1, 54]) none
     [⟨some 4, .mv (.c (.cap0)), [], [], none, none⟩])
  (.seq (.seq (.region [4, 12, 13, 14] (some [54]) none
       [⟨some 11, .faddr 0 (.t 1), [], [], none, none⟩,
        ⟨some 12, .load none (.t 11), [], [], none, none⟩,
        ⟨some 13, .len (.t 12), [], [], none, none⟩,
        ⟨some 14, .mv (.c (.d (.int .i64 0))), [], [], none, none⟩])
    (g_law17_refs.c4))
   (g_law17_refs.c5))
def g_law17_refs.code : ACode :=
  .seq (.region [1] (some [1]) none
     [⟨some 1, .box 1 1 (.t 0), [], [], none, none⟩,
      ⟨some 2, .mv (.c (.cap0)), [], [], none, none⟩,
      ⟨some 3, .mv (.c (.d (.bool false))), [], [], none, none⟩])
  (.seq (.seq (.region [1, 10] (some [1]) none
       [⟨some 7, .faddr 0 (.t 1), [], [], none, none⟩,
        ⟨some 8, .load none (.t 7), [], [], none, none⟩,
        ⟨some 9, .len (.t 8), [], [], none, none⟩,
        ⟨some 10, .bin .gtr (.t 9) (.c (.d (.int .i64 40))), [], [], none, none⟩])
    (.cond (.t 10) (.seq (.region [2, 3] (some [54]) none
         [⟨some 2, .mv (.c (.cap0)), [], [], none, none⟩,
          ⟨some 3, .mv (.c (.d (.bool false))), [], [], none, none⟩])
      (.ret))
     (.skip)))
   (g_law17_refs.c6))
def g_law17_refs : AFn := { N := 57, res := [.slot 2, .slot 3], own := [], frz := [2], code := g_law17_refs.code }

/- paymaster/paymasterlaw17.awake: function 4.  -/
def g_law17_awake.o15 : List AOper :=
  [⟨some 67, .pick (.t 63) (.t 66) (.c (.d (.bool false))), [], [], none, none⟩,
     ⟨some 0, .mv (.t 67), [], [], none, none⟩]
def g_law17_awake.o14 : List AOper :=
  (⟨some 64, .load (some 1) (.t 4), [], [], (some (35, 63, true)), none⟩ ::
     ⟨some 65, .call 9 [(.t 64), (.c (.d (.int .i64 1)))], [], [], (some (35, 63, true)), none⟩ ::
     ⟨some 66, .un .not (.t 65), [], [], (some (35, 63, true)), (some ([63, 66], (some [])))⟩ ::
     g_law17_awake.o15)
def g_law17_awake.o13 : List AOper :=
  (⟨some 62, .pick (.t 59) (.t 61) (.c (.d (.bool false))), [], [], none, none⟩ ::
     ⟨some 63, .mv (.t 62), [], [], none, (some ([4, 63], (some [4])))⟩ ::
     g_law17_awake.o14)
def g_law17_awake.o12 : List AOper :=
  (⟨some 60, .load (some 1) (.t 1), [], [], (some (31, 59, true)), none⟩ ::
     ⟨some 61, .call 9 [(.t 60), (.c (.d (.int .i64 0)))], [], [], (some (31, 59, true)), (some ([4, 59, 61], (some [4])))⟩ ::
     g_law17_awake.o13)
def g_law17_awake.o11 : List AOper :=
  (⟨some 58, .pick (.t 55) (.t 57) (.c (.d (.bool false))), [], [], none, none⟩ ::
     ⟨some 59, .mv (.t 58), [], [], none, (some ([1, 4, 59], (some [1, 4])))⟩ ::
     g_law17_awake.o12)
def g_law17_awake.o10 : List AOper :=
  (⟨some 56, .mv (.t 7), [], [], (some (27, 55, true)), none⟩ ::
     ⟨some 57, .bin .eql (.t 56) (.c (.d (.int .i64 6))), [], [], (some (27, 55, true)), (some ([1, 4, 55, 57], (some [1, 4])))⟩ ::
     g_law17_awake.o11)
def g_law17_awake.o9 : List AOper :=
  (⟨some 54, .pick (.t 50) (.t 53) (.c (.d (.bool false))), [], [], none, none⟩ ::
     ⟨some 55, .mv (.t 54), [], [], none, (some ([1, 4, 7, 55], (some [1, 4])))⟩ ::
     g_law17_awake.o10)
def g_law17_awake.o8 : List AOper :=
  (⟨some 51, .load (some 1) (.t 4), [], [], (some (22, 50, true)), none⟩ ::
     ⟨some 52, .call 8 [(.t 51), (.c (.d (.int .i64 1))), (.c (.d (.int .i64 24276)))], [], [], (some (22, 50, true)), none⟩ ::
     ⟨some 53, .bin .eql (.t 52) (.c (.d (.int .i64 (-1)))), [], [], (some (22, 50, true)), (some ([1, 4, 7, 50, 53], (some [1, 4])))⟩ ::
     g_law17_awake.o9)
def g_law17_awake.o7 : List AOper :=
  (⟨some 49, .pick (.t 45) (.t 48) (.c (.d (.bool false))), [], [], none, none⟩ ::
     ⟨some 50, .mv (.t 49), [], [], none, (some ([1, 4, 7, 50], (some [1, 4])))⟩ ::
     g_law17_awake.o8)
def g_law17_awake.o6 : List AOper :=
  (⟨some 46, .load (some 1) (.t 1), [], [], (some (17, 45, true)), none⟩ ::
     ⟨some 47, .call 8 [(.t 46), (.c (.d (.int .i64 1))), (.c (.d (.int .i64 24276)))], [], [], (some (17, 45, true)), none⟩ ::
     ⟨some 48, .bin .eql (.t 47) (.c (.d (.int .i64 0))), [], [], (some (17, 45, true)), (some ([1, 4, 7, 45, 48], (some [1, 4])))⟩ ::
     g_law17_awake.o7)
def g_law17_awake.o5 : List AOper :=
  (⟨some 44, .pick (.t 41) (.t 43) (.c (.d (.bool false))), [], [], none, none⟩ ::
     ⟨some 45, .mv (.t 44), [], [], none, (some ([1, 4, 7, 45], (some [1, 4])))⟩ ::
     g_law17_awake.o6)
def g_law17_awake.o4 : List AOper :=
  (⟨some 42, .mv (.t 5), [], [], (some (13, 41, true)), none⟩ ::
     ⟨some 43, .bin .eql (.t 42) (.c (.d (.int .i64 0))), [], [], (some (13, 41, true)), (some ([1, 4, 7, 41, 43], (some [1, 4])))⟩ ::
     g_law17_awake.o5)
def g_law17_awake.o3 : List AOper :=
  (⟨some 40, .pick (.t 35) (.t 39) (.c (.d (.bool false))), [], [], none, none⟩ ::
     ⟨some 41, .mv (.t 40), [], [], none, (some ([1, 4, 5, 7, 41], (some [1, 4])))⟩ ::
     g_law17_awake.o4)
def g_law17_awake.o2 : List AOper :=
  (⟨some 36, .faddr 3 (.t 3), [], [], (some (7, 35, true)), none⟩ ::
     ⟨some 37, .load none (.t 36), [], [], (some (7, 35, true)), none⟩ ::
     ⟨some 38, .len (.t 37), [], [], (some (7, 35, true)), none⟩ ::
     ⟨some 39, .bin .eql (.t 38) (.c (.d (.int .i64 1))), [], [], (some (7, 35, true)), (some ([1, 4, 5, 7, 35, 39], (some [1, 4])))⟩ ::
     g_law17_awake.o3)
def g_law17_awake.o1 : List AOper :=
  (⟨some 34, .pick (.t 30) (.t 33) (.c (.d (.bool false))), [], [], none, none⟩ ::
     ⟨some 35, .mv (.t 34), [], [], none, (some ([1, 3, 4, 5, 7, 35], (some [1, 3, 4])))⟩ ::
     g_law17_awake.o2)
def g_law17_awake.o0 : List AOper :=
  (⟨some 31, .faddr 0 (.t 3), [], [], (some (2, 30, true)), none⟩ ::
     ⟨some 32, .load none (.t 31), [], [], (some (2, 30, true)), none⟩ ::
     ⟨some 33, .bin .eql (.t 32) (.c (.d (.int .i64 7))), [], [], (some (2, 30, true)), (some ([1, 3, 4, 5, 7, 30, 33], (some [1, 3, 4])))⟩ ::
     g_law17_awake.o1)
def g_law17_awake.c0 : ACode :=
  .ret
def g_law17_awake.c1 : ACode :=
  .seq (.region [0] (some []) none
     (⟨some 28, .mv (.t 2), [], [], none, none⟩ ::
      ⟨some 29, .bin .eql (.t 28) (.c (.d (.int .i64 0))), [], [], none, none⟩ ::
      ⟨some 30, .mv (.t 29), [], [], none, (some ([1, 3, 4, 5, 7, 30], (some [1, 3, 4])))⟩ ::
      g_law17_awake.o0))
  (g_law17_awake.c0)
def g_law17_awake.c2 : ACode :=
  .seq (.region [1, 2, 3, 4, 5, 7] (some [1, 3, 4]) none
     [⟨some 23, .load (some 1) (.t 1), [], [], none, none⟩,
      ⟨some 24, .build [.d (.int .i64 0), .d (.int .i64 0), .d (.int .i64 0), .d (.int .i64 0), .d (.int .i64 0), .cap0, .d (.int .i64 0), .d (.int .i64 0), .d (.int .i64 0), .d (.int .i64 0), .d (.int .i64 0), .d (.int .i64 0), .d (.int .i64 0), .d (.int .i64 0), .d (.int .i64 0), .d (.int .i64 0), .d (.int .i64 0), .d (.int .i64 0), .cap0, .cap0, .cap0, .cap0] [(1, 1, (.c (.d (.int .i64 24276)))), (2, 1, (.c (.d (.int .i64 1))))], [], [], none, none⟩,
      ⟨some 25, .call 5 [(.t 23), (.t 24)], [], [], none, none⟩,
      ⟨some 22, .mv (.t 25), [], [], none, none⟩,
      ⟨some 26, .ext (.t 22) 0, [], [], none, none⟩,
      ⟨some 27, .ext (.t 22) 1, [], [], none, none⟩,
      ⟨some 6, .alloc 6 [.cap0], [], [], none, none⟩,
      ⟨none, .store 1 (.t 6) (.t 26), [], [], none, none⟩,
      ⟨some 7, .mv (.t 27), [], [], none, none⟩])
  (g_law17_awake.c1)
def g_law17_awake.c3 : ACode :=
  .seq (.region [1, 2, 3, 4, 5] (some [1, 3, 4]) none
     [⟨some 18, .load (some 1) (.t 1), [], [], none, none⟩,
      ⟨some 19, .call 7 [(.t 18), (.c (.d (.int .i64 0)))], [], [], none, none⟩,
      ⟨some 17, .mv (.t 19), [], [], none, none⟩,
      ⟨some 20, .ext (.t 17) 0, [], [], none, none⟩,
      ⟨some 21, .ext (.t 17) 1, [], [], none, none⟩,
      ⟨some 4, .alloc 4 [.cap0], [], [], none, none⟩,
      ⟨none, .store 1 (.t 4) (.t 20), [], [], none, none⟩,
      ⟨some 5, .mv (.t 21), [], [], none, none⟩])
  (g_law17_awake.c2)
def g_law17_awake.c4 : ACode :=
  .seq (.region [1, 2, 3] (some [1, 3]) none
     [⟨some 15, .load (some 1) (.t 1), [], [], none, none⟩,
      ⟨some 16, .call 6 [(.t 15), (.c (.d (.int .i64 1))), (.c (.d (.int .i64 2023))), (.c (.d (.int .i64 1)))], [], [], none, none⟩,
      ⟨some 3, .alloc 3 [.d (.int .i64 0), .d (.int .i64 0), .d (.int .i64 0), .cap0, .cap0], [], [], none, none⟩,
      ⟨none, .store 5 (.t 3) (.t 16), [], [], none, none⟩])
  (g_law17_awake.c3)
def g_law17_awake.code : ACode :=
  .seq (.region [] (some []) none
     [⟨some 0, .mv (.c (.d (.bool false))), [], [], none, none⟩])
  (.seq (.region [1, 2] (some [1]) none
      [⟨some 9, .build [.cap0] [], [], [], none, none⟩,
       ⟨some 10, .build [.cap0, .d (.int .i64 0), .d (.int .i64 0), .d (.int .i64 0), .d (.int .i64 0), .d (.int .i64 0), .d (.int .i64 0), .d (.int .i64 0), .d (.int .i64 0), .d (.int .i64 0), .d (.int .i64 0), .d (.int .i64 0), .d (.int .i64 0), .cap0, .cap0, .cap0] [(7, 1, (.c (.d (.int .i64 7))))], [], [], none, none⟩,
       ⟨some 11, .build [.d (.int .i64 0), .d (.int .i64 0), .d (.int .i64 0), .d (.int .i64 0), .d (.int .i64 0), .cap0, .d (.int .i64 0), .d (.int .i64 0), .d (.int .i64 0), .d (.int .i64 0), .d (.int .i64 0), .d (.int .i64 0), .d (.int .i64 0), .d (.int .i64 0), .d (.int .i64 0), .d (.int .i64 0), .d (.int .i64 0), .d (.int .i64 0), .cap0, .cap0, .cap0, .cap0] [(1, 1, (.c (.d (.int .i64 24276)))), (2, 1, (.c (.d (.int .i64 1)))), (5, 16, (.t 10))], [], [], none, none⟩,
       ⟨some 12, .call 5 [(.t 9), (.t 11)], [], [], none, none⟩,
       ⟨some 8, .mv (.t 12), [], [], none, none⟩,
       ⟨some 13, .ext (.t 8) 0, [], [], none, none⟩,
       ⟨some 14, .ext (.t 8) 1, [], [], none, none⟩,
       ⟨some 1, .alloc 1 [.cap0], [], [], none, none⟩,
       ⟨none, .store 1 (.t 1) (.t 13), [], [], none, none⟩,
       ⟨some 2, .mv (.t 14), [], [], none, none⟩])
   (g_law17_awake.c4))
def g_law17_awake : AFn := { N := 68, res := [.slot 0], own := [], frz := [], code := g_law17_awake.code }

/- paymaster/book.Add: function 5. drawn region 5: first 4, left 5 -/
def g_book_Add.c0 : ACode :=
  .seq (.region [4, 5] (some [4]) (some ([0, 1, 3, 4], .one 2 (.one 5 (.one 6 (.one 7 (.one 8 (.done)))))))
     [⟨some 20, .faddr 0 (.t 2), [], [], none, none⟩,
      ⟨some 21, .load none (.t 20), [], [0], none, none⟩,
      ⟨some 22, .call 14 [(.t 21)], [], [1], none, none⟩,
      ⟨some 23, .load (some 22) (.t 3), [], [], none, none⟩,
      ⟨some 24, .bsl none 22 [] 1 [(0, (.t 23))], [], [3], none, none⟩,
      ⟨some 25, .app none 22 256 (.t 22) (.t 24), [], [2, 4, 2], none, none⟩,
      ⟨some 26, .build [.cap0] [(0, 1, (.t 25))], [], [5], none, none⟩,
      ⟨none, .store 1 (.t 4) (.t 26), [], [6, 5, 0, 1, 2, 3, 4, 5, 6], none, none⟩,
      ⟨some 5, .mv (.c (.d (.int .i64 0))), [], [7, 0, 1, 2, 3, 4, 5, 6, 7], none, none⟩])
  (.ret)
def g_book_Add.c1 : ACode :=
  .seq (.block 0 [2, 3, 4] (some [2, 3, 4]) (.seq (.region [2, 3, 4, 6] (some [2, 3, 4]) none
       [⟨some 7, .faddr 4 (.t 3), [], [], none, none⟩,
        ⟨some 8, .load none (.t 7), [], [], none, none⟩,
        ⟨some 9, .bin .neq (.t 8) (.c (.d (.int .i64 0))), [], [], none, none⟩,
        ⟨some 6, .mv (.t 9), [], [], none, none⟩])
    (.cond (.t 6) (.seq (.region [4, 5] (some [4]) none
         [⟨some 10, .load (some 1) (.t 2), [], [], none, none⟩,
          ⟨none, .store 1 (.t 4) (.t 10), [], [], none, none⟩,
          ⟨some 5, .mv (.c (.d (.int .i64 1))), [], [], none, none⟩])
      (.ret))
     (.seq (.region [2, 3, 4, 11] (some [2, 3, 4]) none
         [⟨some 12, .load (some 1) (.t 2), [], [], none, none⟩,
          ⟨some 13, .faddr 2 (.t 3), [], [], none, none⟩,
          ⟨some 14, .load none (.t 13), [], [], none, none⟩,
          ⟨some 15, .faddr 1 (.t 3), [], [], none, none⟩,
          ⟨some 16, .load none (.t 15), [], [], none, none⟩,
          ⟨some 17, .call 8 [(.t 12), (.t 14), (.t 16)], [], [], none, none⟩,
          ⟨some 18, .bin .geq (.t 17) (.c (.d (.int .i64 0))), [], [], none, none⟩,
          ⟨some 11, .mv (.t 18), [], [], none, none⟩])
      (.cond (.t 11) (.seq (.region [4, 5] (some [4]) none
           [⟨some 19, .load (some 1) (.t 2), [], [], none, none⟩,
            ⟨none, .store 1 (.t 4) (.t 19), [], [], none, none⟩,
            ⟨some 5, .mv (.c (.d (.int .i64 6))), [], [], none, none⟩])
        (.ret))
       (.skip))))))
  (g_book_Add.c0)
def g_book_Add.code : ACode :=
  .seq (.region [2, 3, 4] (some [2, 3, 4]) none
     [⟨some 2, .box 2 1 (.t 0), [], [], none, none⟩,
      ⟨some 3, .box 3 22 (.t 1), [], [], none, none⟩,
      ⟨some 4, .alloc 4 [.cap0], [], [], none, none⟩,
      ⟨some 5, .mv (.c (.d (.int .i64 0))), [], [], none, none⟩])
  (g_book_Add.c1)
def g_book_Add : AFn := { N := 27, res := [.cell 4 (some 1), .slot 5], own := [], frz := [4], code := g_book_Add.code }

/- paymaster/book.Reverse: function 7. drawn region 9: first 4, left 5 -/
def g_book_Reverse.o1 : List AOper :=
  [⟨some 16, .pick (.t 10) (.c (.d (.bool true))) (.t 15), [], [], none, none⟩,
     ⟨some 7, .mv (.t 16), [], [], none, none⟩]
def g_book_Reverse.o0 : List AOper :=
  (⟨some 11, .mv (.t 1), [], [], (some (2, 10, false)), none⟩ ::
     ⟨some 12, .faddr 0 (.t 2), [], [], (some (2, 10, false)), none⟩ ::
     ⟨some 13, .load none (.t 12), [], [], (some (2, 10, false)), none⟩ ::
     ⟨some 14, .len (.t 13), [], [], (some (2, 10, false)), none⟩ ::
     ⟨some 15, .bin .geq (.t 11) (.t 14), [], [], (some (2, 10, false)), (some ([1, 2, 4, 10, 15], (some [2, 4])))⟩ ::
     g_book_Reverse.o1)
def g_book_Reverse.c0 : ACode :=
  .cond (.t 7) (.seq (.region [4, 5] (some [4]) none
      [⟨some 17, .load (some 1) (.t 2), [], [], none, none⟩,
       ⟨none, .store 1 (.t 4) (.t 17), [], [], none, none⟩,
       ⟨some 5, .mv (.c (.d (.int .i64 5))), [], [], none, none⟩])
   (.ret))
  (.seq (.region [1, 2, 4, 18] (some [2, 4]) none
      [⟨some 19, .faddr 0 (.t 2), [], [], none, none⟩,
       ⟨some 20, .load none (.t 19), [], [], none, none⟩,
       ⟨some 21, .mv (.t 1), [], [], none, none⟩,
       ⟨some 22, .iaddr 22 (.t 20) (.t 21), [], [], none, none⟩,
       ⟨some 23, .faddr 4 (.t 22), [], [], none, none⟩,
       ⟨some 24, .load none (.t 23), [], [], none, none⟩,
       ⟨some 25, .bin .neq (.t 24) (.c (.d (.int .i64 0))), [], [], none, none⟩,
       ⟨some 18, .mv (.t 25), [], [], none, none⟩])
   (.cond (.t 18) (.seq (.region [4, 5] (some [4]) none
        [⟨some 26, .load (some 1) (.t 2), [], [], none, none⟩,
         ⟨none, .store 1 (.t 4) (.t 26), [], [], none, none⟩,
         ⟨some 5, .mv (.c (.d (.int .i64 1))), [], [], none, none⟩])
     (.ret))
    (.seq (.region [1, 2, 4, 27] (some [2, 4]) none
        [⟨some 28, .load (some 1) (.t 2), [], [], none, none⟩,
         ⟨some 29, .mv (.t 1), [], [], none, none⟩,
         ⟨some 30, .call 9 [(.t 28), (.t 29)], [], [], none, none⟩,
         ⟨some 31, .un .not (.t 30), [], [], none, none⟩,
         ⟨some 27, .mv (.t 31), [], [], none, none⟩])
     (.cond (.t 27) (.seq (.region [4, 5] (some [4]) none
          [⟨some 32, .load (some 1) (.t 2), [], [], none, none⟩,
           ⟨none, .store 1 (.t 4) (.t 32), [], [], none, none⟩,
           ⟨some 5, .mv (.c (.d (.int .i64 6))), [], [], none, none⟩])
       (.ret))
      (.skip)))))
def g_book_Reverse.c1 : ACode :=
  .seq (.region [4, 5] (some [4]) (some ([0, 1, 3, 4], .one 2 (.one 5 (.one 6 (.one 7 (.one 8 (.done)))))))
     [⟨some 41, .faddr 0 (.t 2), [], [], none, none⟩,
      ⟨some 42, .load none (.t 41), [], [0], none, none⟩,
      ⟨some 43, .call 14 [(.t 42)], [], [1], none, none⟩,
      ⟨some 44, .load (some 22) (.t 6), [], [], none, none⟩,
      ⟨some 45, .bsl none 22 [] 1 [(0, (.t 44))], [], [3], none, none⟩,
      ⟨some 46, .app none 22 256 (.t 43) (.t 45), [], [2, 4, 2], none, none⟩,
      ⟨some 47, .build [.cap0] [(0, 1, (.t 46))], [], [5], none, none⟩,
      ⟨none, .store 1 (.t 4) (.t 47), [], [6, 5, 0, 1, 2, 3, 4, 5, 6], none, none⟩,
      ⟨some 5, .mv (.c (.d (.int .i64 0))), [], [7, 0, 1, 2, 3, 4, 5, 6, 7], none, none⟩])
  (.ret)
def g_book_Reverse.c2 : ACode :=
  .seq (.region [2, 4, 6] (some [2, 4, 6]) none
     [⟨some 38, .mv (.t 1), [], [], none, none⟩,
      ⟨some 39, .bin .add (.t 38) (.c (.d (.int .i64 1))), [], [], none, none⟩,
      ⟨some 40, .faddr 4 (.t 6), [], [], none, none⟩,
      ⟨none, .store 1 (.t 40) (.t 39), [], [], none, none⟩])
  (g_book_Reverse.c1)
def g_book_Reverse.c3 : ACode :=
  .seq (.region [1, 2, 4, 6] (some [2, 4, 6]) none
     [⟨some 33, .faddr 0 (.t 2), [], [], none, none⟩,
      ⟨some 34, .load none (.t 33), [], [], none, none⟩,
      ⟨some 35, .mv (.t 1), [], [], none, none⟩,
      ⟨some 36, .iaddr 22 (.t 34) (.t 35), [], [], none, none⟩,
      ⟨some 37, .load (some 22) (.t 36), [], [], none, none⟩,
      ⟨some 6, .alloc 6 [.d (.int .i64 0), .d (.int .i64 0), .d (.int .i64 0), .d (.int .i64 0), .d (.int .i64 0), .cap0, .d (.int .i64 0), .d (.int .i64 0), .d (.int .i64 0), .d (.int .i64 0), .d (.int .i64 0), .d (.int .i64 0), .d (.int .i64 0), .d (.int .i64 0), .d (.int .i64 0), .d (.int .i64 0), .d (.int .i64 0), .d (.int .i64 0), .cap0, .cap0, .cap0, .cap0], [], [], none, none⟩,
      ⟨none, .store 22 (.t 6) (.t 37), [], [], none, none⟩])
  (g_book_Reverse.c2)
def g_book_Reverse.code : ACode :=
  .seq (.region [1, 2, 4] (some [2, 4]) none
     [⟨some 2, .box 2 1 (.t 0), [], [], none, none⟩,
      ⟨some 4, .alloc 4 [.cap0], [], [], none, none⟩,
      ⟨some 5, .mv (.c (.d (.int .i64 0))), [], [], none, none⟩])
  (.seq (.block 0 [1, 2, 4] (some [2, 4]) (.seq (.region [1, 2, 4, 7] (some [2, 4]) none
        (⟨some 8, .mv (.t 1), [], [], none, none⟩ ::
         ⟨some 9, .bin .lss (.t 8) (.c (.d (.int .i64 0))), [], [], none, none⟩ ::
         ⟨some 10, .mv (.t 9), [], [], none, (some ([1, 2, 4, 10], (some [2, 4])))⟩ ::
         g_book_Reverse.o0))
     (g_book_Reverse.c0)))
   (g_book_Reverse.c3))
def g_book_Reverse : AFn := { N := 48, res := [.cell 4 (some 1), .slot 5], own := [], frz := [4], code := g_book_Reverse.code }

/- paymaster/book.Live: function 9.  -/
def g_book_Live.o5 : List AOper :=
  [⟨some 29, .pick (.t 23) (.t 28) (.c (.d (.bool false))), [], [], none, none⟩,
     ⟨some 4, .mv (.t 29), [], [], none, none⟩]
def g_book_Live.o4 : List AOper :=
  (⟨some 24, .faddr 0 (.t 2), [], [], (some (18, 23, true)), none⟩ ::
     ⟨some 25, .load none (.t 24), [], [], (some (18, 23, true)), none⟩ ::
     ⟨some 26, .fnv 30 [(.t 3)], [], [], (some (18, 23, true)), none⟩ ::
     ⟨some 27, .call 15 [(.t 25), (.t 26)], [], [], (some (18, 23, true)), none⟩ ::
     ⟨some 28, .un .not (.t 27), [], [], (some (18, 23, true)), (some ([23, 28], (some [])))⟩ ::
     g_book_Live.o5)
def g_book_Live.o3 : List AOper :=
  (⟨some 22, .pick (.t 14) (.t 21) (.c (.d (.bool false))), [], [], none, none⟩ ::
     ⟨some 23, .mv (.t 22), [], [], none, (some ([2, 3, 23], (some [2, 3])))⟩ ::
     g_book_Live.o4)
def g_book_Live.o2 : List AOper :=
  (⟨some 15, .faddr 0 (.t 2), [], [], (some (9, 14, true)), none⟩ ::
     ⟨some 16, .load none (.t 15), [], [], (some (9, 14, true)), none⟩ ::
     ⟨some 17, .load none (.t 3), [], [], (some (9, 14, true)), none⟩ ::
     ⟨some 18, .iaddr 22 (.t 16) (.t 17), [], [], (some (9, 14, true)), none⟩ ::
     ⟨some 19, .faddr 4 (.t 18), [], [], (some (9, 14, true)), none⟩ ::
     ⟨some 20, .load none (.t 19), [], [], (some (9, 14, true)), none⟩ ::
     ⟨some 21, .bin .eql (.t 20) (.c (.d (.int .i64 0))), [], [], (some (9, 14, true)), (some ([2, 3, 14, 21], (some [2, 3])))⟩ ::
     g_book_Live.o3)
def g_book_Live.o1 : List AOper :=
  (⟨some 13, .pick (.t 7) (.t 12) (.c (.d (.bool false))), [], [], none, none⟩ ::
     ⟨some 14, .mv (.t 13), [], [], none, (some ([2, 3, 14], (some [2, 3])))⟩ ::
     g_book_Live.o2)
def g_book_Live.o0 : List AOper :=
  (⟨some 8, .load none (.t 3), [], [], (some (2, 7, true)), none⟩ ::
     ⟨some 9, .faddr 0 (.t 2), [], [], (some (2, 7, true)), none⟩ ::
     ⟨some 10, .load none (.t 9), [], [], (some (2, 7, true)), none⟩ ::
     ⟨some 11, .len (.t 10), [], [], (some (2, 7, true)), none⟩ ::
     ⟨some 12, .bin .lss (.t 8) (.t 11), [], [], (some (2, 7, true)), (some ([2, 3, 7, 12], (some [2, 3])))⟩ ::
     g_book_Live.o1)
def g_book_Live.c0 : ACode :=
  .ret
def g_book_Live.code : ACode :=
  .seq (.region [2, 3] (some [2, 3]) none
     [⟨some 2, .box 2 1 (.t 0), [], [], none, none⟩,
      ⟨some 3, .box 3 1 (.t 1), [], [], none, none⟩,
      ⟨some 4, .mv (.c (.d (.bool false))), [], [], none, none⟩])
  (.seq (.region [4] (some []) none
      (⟨some 5, .load none (.t 3), [], [], none, none⟩ ::
       ⟨some 6, .bin .geq (.t 5) (.c (.d (.int .i64 0))), [], [], none, none⟩ ::
       ⟨some 7, .mv (.t 6), [], [], none, (some ([2, 3, 7], (some [2, 3])))⟩ ::
       g_book_Live.o0))
   (g_book_Live.c0))
def g_book_Live : AFn := { N := 30, res := [.slot 4], own := [], frz := [], code := g_book_Live.code }

/- paymaster/book.Find: function 8.  -/
def g_book_Find.o3 : List AOper :=
  [⟨some 31, .pick (.t 27) (.t 30) (.c (.d (.bool false))), [], [], none, none⟩]
def g_book_Find.o2 : List AOper :=
  (⟨some 28, .load (some 1) (.t 3), [], [], (some (10, 27, true)), none⟩ ::
     ⟨some 29, .mv (.t 7), [], [], (some (10, 27, true)), none⟩ ::
     ⟨some 30, .call 9 [(.t 28), (.t 29)], [], [], (some (10, 27, true)), (some ([1, 2, 3, 7, 10, 11, 12, 27, 30], (some [3])))⟩ ::
     g_book_Find.o3)
def g_book_Find.o1 : List AOper :=
  (⟨some 26, .pick (.t 21) (.t 25) (.c (.d (.bool false))), [], [], none, none⟩ ::
     ⟨some 27, .mv (.t 26), [], [], none, (some ([1, 2, 3, 7, 10, 11, 12, 27], (some [3])))⟩ ::
     g_book_Find.o2)
def g_book_Find.o0 : List AOper :=
  (⟨some 22, .faddr 1 (.t 8), [], [], (some (4, 21, true)), none⟩ ::
     ⟨some 23, .load none (.t 22), [], [], (some (4, 21, true)), none⟩ ::
     ⟨some 24, .mv (.t 2), [], [], (some (4, 21, true)), none⟩ ::
     ⟨some 25, .bin .eql (.t 23) (.t 24), [], [], (some (4, 21, true)), (some ([1, 2, 3, 7, 10, 11, 12, 21, 25], (some [3])))⟩ ::
     g_book_Find.o1)
def g_book_Find.c0 : ACode :=
  .cond (.t 31) (.seq (.region [6] (some []) none
      [⟨some 32, .mv (.t 7), [], [], none, none⟩,
       ⟨some 6, .mv (.t 32), [], [], none, none⟩])
   (.ret))
  (.skip)
def g_book_Find.c1 : ACode :=
  .seq (.region [1, 2, 3, 7, 10, 11, 12, 31] (some [3]) none
     (⟨some 17, .faddr 2 (.t 8), [], [], none, none⟩ ::
      ⟨some 18, .load none (.t 17), [], [], none, none⟩ ::
      ⟨some 19, .mv (.t 1), [], [], none, none⟩ ::
      ⟨some 20, .bin .eql (.t 18) (.t 19), [], [], none, none⟩ ::
      ⟨some 21, .mv (.t 20), [], [], none, (some ([1, 2, 3, 7, 8, 10, 11, 12, 21], (some [3, 8])))⟩ ::
      g_book_Find.o0))
  (g_book_Find.c0)
def g_book_Find.c2 : ACode :=
  .region [1, 2, 3, 10, 11, 12] (some [3]) none
    [⟨some 33, .bin .add (.t 12) (.c (.d (.int .i64 1))), [], [], none, none⟩,
     ⟨some 12, .mv (.t 33), [], [], none, none⟩]
def g_book_Find.l0 : ACode :=
  .loop [1, 2, 3, 10, 11, 12] (some [3]) (.seq (.region [1, 2, 3, 10, 11, 12, 13] (some [3]) none
     [⟨some 13, .bin .lss (.t 12) (.t 11), [], [], none, none⟩])
  (.seq (.cond (.t 13) (.skip)
    (.exit 0))
   (.seq (.block 1 [1, 2, 3, 10, 11, 12] (some [3]) (.seq (.region [1, 2, 3, 7, 8, 10, 11, 12] (some [3, 8]) none
         [⟨some 14, .mv (.t 12), [], [], none, none⟩,
          ⟨some 15, .iaddr 22 (.t 10) (.t 12), [], [], none, none⟩,
          ⟨some 16, .load (some 22) (.t 15), [], [], none, none⟩,
          ⟨some 8, .alloc 8 [.d (.int .i64 0), .d (.int .i64 0), .d (.int .i64 0), .d (.int .i64 0), .d (.int .i64 0), .cap0, .d (.int .i64 0), .d (.int .i64 0), .d (.int .i64 0), .d (.int .i64 0), .d (.int .i64 0), .d (.int .i64 0), .d (.int .i64 0), .d (.int .i64 0), .d (.int .i64 0), .d (.int .i64 0), .d (.int .i64 0), .d (.int .i64 0), .cap0, .cap0, .cap0, .cap0], [], [], none, none⟩,
          ⟨some 7, .mv (.t 14), [], [], none, none⟩,
          ⟨none, .store 22 (.t 8) (.t 16), [], [], none, none⟩])
      (g_book_Find.c1)))
    (g_book_Find.c2))))
def g_book_Find.c3 : ACode :=
  .block 0 [] (some []) (g_book_Find.l0)
def g_book_Find.c4 : ACode :=
  .seq (.region [6] (some []) none
     [⟨some 6, .mv (.c (.d (.int .i64 (-1)))), [], [], none, none⟩])
  (.ret)
def g_book_Find.code : ACode :=
  .seq (.region [1, 2, 3] (some [3]) none
     [⟨some 3, .box 3 1 (.t 0), [], [], none, none⟩,
      ⟨some 6, .mv (.c (.d (.int .i64 0))), [], [], none, none⟩])
  (.seq (.seq (.region [1, 2, 3, 10, 11, 12] (some [3]) none
       [⟨some 9, .faddr 0 (.t 3), [], [], none, none⟩,
        ⟨some 10, .load none (.t 9), [], [], none, none⟩,
        ⟨some 11, .len (.t 10), [], [], none, none⟩,
        ⟨some 12, .mv (.c (.d (.int .i64 0))), [], [], none, none⟩])
    (g_book_Find.c3))
   (g_book_Find.c4))
def g_book_Find : AFn := { N := 34, res := [.slot 6], own := [], frz := [], code := g_book_Find.code }

/- paymaster/paymasterlaw17.Ref: function 12.  -/
def g_law17_Ref.o0 : List AOper :=
  [⟨some 44, .faddr 15 (.t 3), [], [], none, none⟩,
     ⟨some 45, .load none (.t 44), [], [], none, none⟩,
     ⟨some 46, .build [.cap0, .d (.int .i64 0), .d (.int .i64 0), .d (.int .i64 0), .d (.int .i64 0), .d (.int .i64 0), .d (.int .i64 0), .d (.int .i64 0), .d (.int .i64 0), .d (.int .i64 0), .d (.int .i64 0), .d (.int .i64 0), .d (.int .i64 0), .cap0, .cap0, .cap0] [(1, 3, (.t 25)), (4, 3, (.t 27)), (7, 1, (.t 29)), (8, 1, (.t 31)), (9, 1, (.t 33)), (10, 1, (.t 35)), (11, 1, (.t 37)), (12, 1, (.t 39)), (13, 1, (.t 41)), (14, 1, (.t 43)), (15, 1, (.t 45))], [], [], none, none⟩,
     ⟨some 47, .faddr 5 (.t 4), [], [], none, none⟩,
     ⟨none, .store 16 (.t 47) (.t 46), [], [], none, none⟩]
def g_law17_Ref.c0 : ACode :=
  .region [1, 2, 4, 5, 49, 50, 51] (some [1, 2, 4, 58, 74]) none
    [⟨some 55, .mv (.t 5), [], [], none, none⟩,
     ⟨some 56, .load (some 3) (.t 7), [], [], none, none⟩,
     ⟨some 57, .bsl none 3 [] 1 [(0, (.t 56))], [], [], none, none⟩,
     ⟨some 58, .app (some 58) 3 40 (.t 55) (.t 57), [], [], none, none⟩,
     ⟨some 5, .mv (.t 58), [], [], none, none⟩]
def g_law17_Ref.c1 : ACode :=
  .region [1, 2, 4, 5, 49, 50, 51] (some [1, 2, 4, 58, 74]) none
    [⟨some 59, .bin .add (.t 51) (.c (.d (.int .i64 1))), [], [], none, none⟩,
     ⟨some 51, .mv (.t 59), [], [], none, none⟩]
def g_law17_Ref.l0 : ACode :=
  .loop [1, 2, 4, 5, 49, 50, 51] (some [1, 2, 4, 58, 74]) (.seq (.region [1, 2, 4, 5, 49, 50, 51, 52] (some [1, 2, 4, 58, 74]) none
     [⟨some 52, .bin .lss (.t 51) (.t 50), [], [], none, none⟩])
  (.seq (.cond (.t 52) (.skip)
    (.exit 0))
   (.seq (.block 1 [1, 2, 4, 5, 49, 50, 51] (some [1, 2, 4, 58, 74]) (.seq (.region [1, 2, 4, 5, 7, 49, 50, 51] (some [1, 2, 4, 7, 58, 74]) none
         [⟨some 53, .iaddr 3 (.t 49) (.t 51), [], [], none, none⟩,
          ⟨some 54, .load (some 3) (.t 53), [], [], none, none⟩,
          ⟨some 7, .alloc 7 [.d (.str []), .d (.str []), .d (.int .i64 0)], [], [], none, none⟩,
          ⟨none, .store 3 (.t 7) (.t 54), [], [], none, none⟩])
      (g_law17_Ref.c0)))
    (g_law17_Ref.c1))))
def g_law17_Ref.c2 : ACode :=
  .block 0 [1, 2, 4, 5] (some [1, 2, 4, 58, 74]) (g_law17_Ref.l0)
def g_law17_Ref.c3 : ACode :=
  .region [2, 4, 5, 8, 61, 62, 63] (some [2, 4, 58, 74]) none
    [⟨some 67, .mv (.t 8), [], [], none, none⟩,
     ⟨some 68, .faddr 0 (.t 10), [], [], none, none⟩,
     ⟨some 69, .load none (.t 68), [], [], none, none⟩,
     ⟨some 70, .faddr 1 (.t 10), [], [], none, none⟩,
     ⟨some 71, .load (some 3) (.t 70), [], [], none, none⟩,
     ⟨some 72, .build [.d (.int .i64 0), .d (.int .i64 0), .d (.int .i64 0), .d (.int .i64 0)] [(0, 1, (.t 69)), (1, 3, (.t 71))], [], [], none, none⟩,
     ⟨some 73, .bsl none 4 [] 1 [(0, (.t 72))], [], [], none, none⟩,
     ⟨some 74, .app (some 74) 4 32 (.t 67) (.t 73), [], [], none, none⟩,
     ⟨some 8, .mv (.t 74), [], [], none, none⟩]
def g_law17_Ref.c4 : ACode :=
  .region [2, 4, 5, 8, 61, 62, 63] (some [2, 4, 58, 74]) none
    [⟨some 75, .bin .add (.t 63) (.c (.d (.int .i64 1))), [], [], none, none⟩,
     ⟨some 63, .mv (.t 75), [], [], none, none⟩]
def g_law17_Ref.l1 : ACode :=
  .loop [2, 4, 5, 8, 61, 62, 63] (some [2, 4, 58, 74]) (.seq (.region [2, 4, 5, 8, 61, 62, 63, 64] (some [2, 4, 58, 74]) none
     [⟨some 64, .bin .lss (.t 63) (.t 62), [], [], none, none⟩])
  (.seq (.cond (.t 64) (.skip)
    (.exit 2))
   (.seq (.block 3 [2, 4, 5, 8, 61, 62, 63] (some [2, 4, 58, 74]) (.seq (.region [2, 4, 5, 8, 10, 61, 62, 63] (some [2, 4, 10, 58, 74]) none
         [⟨some 65, .iaddr 4 (.t 61) (.t 63), [], [], none, none⟩,
          ⟨some 66, .load (some 4) (.t 65), [], [], none, none⟩,
          ⟨some 10, .alloc 10 [.d (.int .i64 0), .d (.int .i64 0), .d (.int .i64 0), .d (.int .i64 0)], [], [], none, none⟩,
          ⟨none, .store 4 (.t 10) (.t 66), [], [], none, none⟩])
      (g_law17_Ref.c3)))
    (g_law17_Ref.c4))))
def g_law17_Ref.c5 : ACode :=
  .block 2 [2, 4, 5, 8] (some [2, 4, 58, 74]) (g_law17_Ref.l1)
def g_law17_Ref.c6 : ACode :=
  .seq (.region [2] (some [2, 58, 74]) none
     [⟨some 81, .load (some 22) (.t 4), [], [], none, none⟩,
      ⟨none, .store 22 (.t 2) (.t 81), [], [], none, none⟩])
  (.ret)
def g_law17_Ref.c7 : ACode :=
  .seq (.region [2, 4] (some [2, 4, 58, 74]) none
     [⟨some 76, .mv (.t 5), [], [], none, none⟩,
      ⟨some 77, .mv (.t 8), [], [], none, none⟩,
      ⟨some 78, .faddr 5 (.t 4), [], [], none, none⟩,
      ⟨some 79, .faddr 0 (.t 78), [], [], none, none⟩,
      ⟨none, .store 1 (.t 79) (.t 76), [], [], none, none⟩,
      ⟨some 80, .faddr 21 (.t 4), [], [], none, none⟩,
      ⟨none, .store 1 (.t 80) (.t 77), [], [], none, none⟩])
  (g_law17_Ref.c6)
def g_law17_Ref.c8 : ACode :=
  .seq (.region [1, 2, 4, 5, 8] (some [1, 2, 4, 58, 74]) none
     [⟨some 8, .mv (.c (.cap0)), [], [], none, none⟩])
  (.seq (.seq (.region [2, 4, 5, 8, 61, 62, 63] (some [2, 4, 58, 74]) none
       [⟨some 60, .faddr 21 (.t 1), [], [], none, none⟩,
        ⟨some 61, .load none (.t 60), [], [], none, none⟩,
        ⟨some 62, .len (.t 61), [], [], none, none⟩,
        ⟨some 63, .mv (.c (.d (.int .i64 0))), [], [], none, none⟩])
    (g_law17_Ref.c5))
   (g_law17_Ref.c7))
def g_law17_Ref.c9 : ACode :=
  .seq (.region [1, 2, 3, 4, 5] (some [1, 2, 3, 4, 58, 74]) none
     [⟨some 5, .mv (.c (.cap0)), [], [], none, none⟩])
  (.seq (.seq (.region [1, 2, 4, 5, 49, 50, 51] (some [1, 2, 4, 58, 74]) none
       [⟨some 48, .faddr 0 (.t 3), [], [], none, none⟩,
        ⟨some 49, .load none (.t 48), [], [], none, none⟩,
        ⟨some 50, .len (.t 49), [], [], none, none⟩,
        ⟨some 51, .mv (.c (.d (.int .i64 0))), [], [], none, none⟩])
    (g_law17_Ref.c2))
   (g_law17_Ref.c8))
def g_law17_Ref.c10 : ACode :=
  .seq (.region [1, 2, 3, 4] (some [1, 2, 3, 4, 58, 74]) none
     (⟨some 24, .faddr 1 (.t 3), [], [], none, none⟩ ::
      ⟨some 25, .load (some 3) (.t 24), [], [], none, none⟩ ::
      ⟨some 26, .faddr 4 (.t 3), [], [], none, none⟩ ::
      ⟨some 27, .load (some 3) (.t 26), [], [], none, none⟩ ::
      ⟨some 28, .faddr 7 (.t 3), [], [], none, none⟩ ::
      ⟨some 29, .load none (.t 28), [], [], none, none⟩ ::
      ⟨some 30, .faddr 8 (.t 3), [], [], none, none⟩ ::
      ⟨some 31, .load none (.t 30), [], [], none, none⟩ ::
      ⟨some 32, .faddr 9 (.t 3), [], [], none, none⟩ ::
      ⟨some 33, .load none (.t 32), [], [], none, none⟩ ::
      ⟨some 34, .faddr 10 (.t 3), [], [], none, none⟩ ::
      ⟨some 35, .load none (.t 34), [], [], none, none⟩ ::
      ⟨some 36, .faddr 11 (.t 3), [], [], none, none⟩ ::
      ⟨some 37, .load none (.t 36), [], [], none, none⟩ ::
      ⟨some 38, .faddr 12 (.t 3), [], [], none, none⟩ ::
      ⟨some 39, .load none (.t 38), [], [], none, none⟩ ::
      ⟨some 40, .faddr 13 (.t 3), [], [], none, none⟩ ::
      ⟨some 41, .load none (.t 40), [], [], none, none⟩ ::
      ⟨some 42, .faddr 14 (.t 3), [], [], none, none⟩ ::
      ⟨some 43, .load none (.t 42), [], [], none, (some ([1, 2, 3, 4, 25, 27, 29, 31, 33, 35, 37, 39, 41, 43], (some [1, 2, 3, 4, 58, 74])))⟩ ::
      g_law17_Ref.o0))
  (g_law17_Ref.c9)
def g_law17_Ref.c11 : ACode :=
  .seq (.region [1, 2, 3, 4] (some [1, 2, 3, 4, 58, 74]) none
     [⟨some 13, .faddr 0 (.t 1), [], [], none, none⟩,
      ⟨some 14, .load none (.t 13), [], [], none, none⟩,
      ⟨some 15, .faddr 1 (.t 1), [], [], none, none⟩,
      ⟨some 16, .load none (.t 15), [], [], none, none⟩,
      ⟨some 17, .faddr 2 (.t 1), [], [], none, none⟩,
      ⟨some 18, .load none (.t 17), [], [], none, none⟩,
      ⟨some 19, .faddr 3 (.t 1), [], [], none, none⟩,
      ⟨some 20, .load none (.t 19), [], [], none, none⟩,
      ⟨some 21, .faddr 4 (.t 1), [], [], none, none⟩,
      ⟨some 22, .load none (.t 21), [], [], none, none⟩,
      ⟨some 23, .build [.d (.int .i64 0), .d (.int .i64 0), .d (.int .i64 0), .d (.int .i64 0), .d (.int .i64 0), .cap0, .d (.int .i64 0), .d (.int .i64 0), .d (.int .i64 0), .d (.int .i64 0), .d (.int .i64 0), .d (.int .i64 0), .d (.int .i64 0), .d (.int .i64 0), .d (.int .i64 0), .d (.int .i64 0), .d (.int .i64 0), .d (.int .i64 0), .cap0, .cap0, .cap0, .cap0] [(0, 1, (.t 14)), (1, 1, (.t 16)), (2, 1, (.t 18)), (3, 1, (.t 20)), (4, 1, (.t 22))], [], [], none, none⟩,
      ⟨some 4, .alloc 4 [.d (.int .i64 0), .d (.int .i64 0), .d (.int .i64 0), .d (.int .i64 0), .d (.int .i64 0), .cap0, .d (.int .i64 0), .d (.int .i64 0), .d (.int .i64 0), .d (.int .i64 0), .d (.int .i64 0), .d (.int .i64 0), .d (.int .i64 0), .d (.int .i64 0), .d (.int .i64 0), .d (.int .i64 0), .d (.int .i64 0), .d (.int .i64 0), .cap0, .cap0, .cap0, .cap0], [], [], none, none⟩,
      ⟨none, .store 22 (.t 4) (.t 23), [], [], none, none⟩])
  (g_law17_Ref.c10)
def g_law17_Ref.code : ACode :=
  .seq (.region [1, 2] (some [1, 2, 58, 74]) none
     [⟨some 1, .box 1 22 (.t 0), [], [], none, none⟩,
      ⟨some 2, .alloc 2 [.d (.int .i64 0), .d (.int .i64 0), .d (.int .i64 0), .d (.int .i64 0), .d (.int .i64 0), .cap0, .d (.int .i64 0), .d (.int .i64 0), .d (.int .i64 0), .d (.int .i64 0), .d (.int .i64 0), .d (.int .i64 0), .d (.int .i64 0), .d (.int .i64 0), .d (.int .i64 0), .d (.int .i64 0), .d (.int .i64 0), .d (.int .i64 0), .cap0, .cap0, .cap0, .cap0], [], [], none, none⟩])
  (.seq (.region [1, 2, 3] (some [1, 2, 3, 58, 74]) none
      [⟨some 11, .faddr 5 (.t 1), [], [], none, none⟩,
       ⟨some 12, .load (some 16) (.t 11), [], [], none, none⟩,
       ⟨some 3, .alloc 3 [.cap0, .d (.int .i64 0), .d (.int .i64 0), .d (.int .i64 0), .d (.int .i64 0), .d (.int .i64 0), .d (.int .i64 0), .d (.int .i64 0), .d (.int .i64 0), .d (.int .i64 0), .d (.int .i64 0), .d (.int .i64 0), .d (.int .i64 0), .cap0, .cap0, .cap0], [], [], none, none⟩,
       ⟨none, .store 16 (.t 3) (.t 12), [], [], none, none⟩])
   (g_law17_Ref.c11))
def g_law17_Ref : AFn := { N := 82, res := [.cell 2 (some 22)], own := [], frz := [2], code := g_law17_Ref.code }

/- paymaster/book.Year: function 6. drawn region 2: first 2, left 5 -/
def g_book_Year.a0 : List AOper :=
  [⟨some 16, .mv (.t 9), [], [], none, none⟩,
     ⟨some 17, .mks (some 17) 1 8 [(.int .i64 0)] (.t 16), [], [0, 0], none, none⟩,
     ⟨some 18, .mv (.t 9), [], [], none, none⟩,
     ⟨some 19, .mks (some 19) 1 8 [(.int .i64 0)] (.t 18), [], [2, 2], none, none⟩,
     ⟨some 20, .build [.d (.int .i64 0), .d (.int .i64 0), .d (.int .i64 0), .cap0, .cap0] [(3, 1, (.t 17)), (4, 1, (.t 19))], [], [1, 3], none, none⟩,
     ⟨some 10, .alloc 10 [.d (.int .i64 0), .d (.int .i64 0), .d (.int .i64 0), .cap0, .cap0], [], [], none, none⟩,
     ⟨none, .store 5 (.t 10) (.t 20), [], [5, 4, 0, 1, 2, 3, 4, 5], none, none⟩]
def g_book_Year.t2 : Tr := .one 6 .done
def g_book_Year.t3 : Tr := .one 5 g_book_Year.t2
def g_book_Year.t4 : Tr := .one 4 g_book_Year.t2
def g_book_Year.t5 : Tr := .one 5 g_book_Year.t4
def g_book_Year.t6 : Tr := .two 4 g_book_Year.t3 g_book_Year.t5
def g_book_Year.t7 : Tr := .one 3 g_book_Year.t4
def g_book_Year.t8 : Tr := .one 5 g_book_Year.t7
def g_book_Year.t9 : Tr := .two 3 g_book_Year.t6 g_book_Year.t8
def g_book_Year.t10 : Tr := .one 1 g_book_Year.t4
def g_book_Year.t11 : Tr := .one 5 g_book_Year.t10
def g_book_Year.t12 : Tr := .two 1 g_book_Year.t6 g_book_Year.t11
def g_book_Year.t13 : Tr := .one 3 g_book_Year.t10
def g_book_Year.t14 : Tr := .two 1 g_book_Year.t7 g_book_Year.t13
def g_book_Year.t15 : Tr := .one 5 g_book_Year.t14
def g_book_Year.t16 : Tr := .two 3 g_book_Year.t12 g_book_Year.t15
def g_book_Year.t17 : Tr := .two 1 g_book_Year.t9 g_book_Year.t16
def g_book_Year.i1 : List Nat := 2 :: []
def g_book_Year.c0 : ACode :=
  .region [2, 8, 10, 23, 24, 25] (some [8, 10, 17, 19]) none
    [⟨some 67, .faddr 4 (.t 10), [], [], none, none⟩,
     ⟨some 68, .load none (.t 67), [], [], none, none⟩,
     ⟨some 69, .faddr 5 (.t 12), [], [], none, none⟩,
     ⟨some 70, .faddr 14 (.t 69), [], [], none, none⟩,
     ⟨some 71, .load none (.t 70), [], [], none, none⟩,
     ⟨some 72, .call 19 [(.t 68), (.t 71)], [71], [], none, none⟩]
def g_book_Year.c1 : ACode :=
  .seq (.region [2, 8, 10, 12, 23, 24, 25] (some [8, 10, 12, 17, 19]) none
     [⟨some 61, .faddr 3 (.t 10), [], [], none, none⟩,
      ⟨some 62, .load none (.t 61), [], [], none, none⟩,
      ⟨some 63, .faddr 5 (.t 12), [], [], none, none⟩,
      ⟨some 64, .faddr 13 (.t 63), [], [], none, none⟩,
      ⟨some 65, .load none (.t 64), [], [], none, none⟩,
      ⟨some 66, .call 19 [(.t 62), (.t 65)], [65], [], none, none⟩])
  (g_book_Year.c0)
def g_book_Year.c2 : ACode :=
  .seq (.region [2, 8, 10, 12, 23, 24, 25] (some [8, 10, 12, 17, 19]) none
     [⟨some 54, .faddr 2 (.t 10), [], [], none, none⟩,
      ⟨some 55, .load none (.t 54), [], [], none, none⟩,
      ⟨some 56, .faddr 5 (.t 12), [], [], none, none⟩,
      ⟨some 57, .faddr 8 (.t 56), [], [], none, none⟩,
      ⟨some 58, .load none (.t 57), [], [], none, none⟩,
      ⟨some 59, .bin .add (.t 55) (.t 58), [], [], none, none⟩,
      ⟨some 60, .faddr 2 (.t 10), [], [], none, none⟩,
      ⟨none, .store 1 (.t 60) (.t 59), [], [], none, none⟩])
  (g_book_Year.c1)
def g_book_Year.c3 : ACode :=
  .seq (.region [2, 8, 10, 12, 23, 24, 25] (some [8, 10, 12, 17, 19]) none
     [⟨some 41, .faddr 1 (.t 10), [], [], none, none⟩,
      ⟨some 42, .load none (.t 41), [], [], none, none⟩,
      ⟨some 43, .faddr 5 (.t 12), [], [], none, none⟩,
      ⟨some 44, .faddr 1 (.t 43), [], [], none, none⟩,
      ⟨some 45, .faddr 0 (.t 44), [], [], none, none⟩,
      ⟨some 46, .load none (.t 45), [], [], none, none⟩,
      ⟨some 47, .faddr 5 (.t 12), [], [], none, none⟩,
      ⟨some 48, .faddr 4 (.t 47), [], [], none, none⟩,
      ⟨some 49, .faddr 0 (.t 48), [], [], none, none⟩,
      ⟨some 50, .load none (.t 49), [], [], none, none⟩,
      ⟨some 51, .bin .add (.t 46) (.t 50), [], [], none, none⟩,
      ⟨some 52, .bin .add (.t 42) (.t 51), [], [], none, none⟩,
      ⟨some 53, .faddr 1 (.t 10), [], [], none, none⟩,
      ⟨none, .store 1 (.t 53) (.t 52), [], [], none, none⟩])
  (g_book_Year.c2)
def g_book_Year.c4 : ACode :=
  .seq (.region [2, 8, 10, 12, 23, 24, 25] (some [8, 10, 12, 17, 19]) none
     [⟨some 34, .faddr 0 (.t 10), [], [], none, none⟩,
      ⟨some 35, .load none (.t 34), [], [], none, none⟩,
      ⟨some 36, .faddr 5 (.t 12), [], [], none, none⟩,
      ⟨some 37, .faddr 7 (.t 36), [], [], none, none⟩,
      ⟨some 38, .load none (.t 37), [], [], none, none⟩,
      ⟨some 39, .bin .add (.t 35) (.t 38), [], [], none, none⟩,
      ⟨some 40, .faddr 0 (.t 10), [], [], none, none⟩,
      ⟨none, .store 1 (.t 40) (.t 39), [], [], none, none⟩])
  (g_book_Year.c3)
def g_book_Year.c5 : ACode :=
  .seq (.seq (.region [2, 8, 10, 12, 23, 24, 25, 33] (some [8, 10, 12, 17, 19]) none
      [⟨some 29, .faddr 1 (.t 12), [], [], none, none⟩,
       ⟨some 30, .load none (.t 29), [], [], none, none⟩,
       ⟨some 31, .bin .quo (.t 30) (.c (.d (.int .i64 12))), [], [], none, none⟩,
       ⟨some 32, .mv (.t 2), [], [], none, none⟩,
       ⟨some 33, .bin .neq (.t 31) (.t 32), [], [], none, none⟩])
   (.cond (.t 33) (.exit 1)
    (.skip)))
  (g_book_Year.c4)
def g_book_Year.c6 : ACode :=
  .region [2, 8, 10, 23, 24, 25] (some [8, 10, 17, 19]) none
    [⟨some 73, .bin .add (.t 25) (.c (.d (.int .i64 1))), [], [], none, none⟩,
     ⟨some 25, .mv (.t 73), [], [], none, none⟩]
def g_book_Year.l0 : ACode :=
  .loop [2, 8, 10, 23, 24, 25] (some [8, 10, 17, 19]) (.seq (.region [2, 8, 10, 23, 24, 25, 26] (some [8, 10, 17, 19]) none
     [⟨some 26, .bin .lss (.t 25) (.t 24), [], [], none, none⟩])
  (.seq (.cond (.t 26) (.skip)
    (.exit 0))
   (.seq (.block 1 [2, 8, 10, 23, 24, 25] (some [8, 10, 17, 19]) (.seq (.region [2, 8, 10, 12, 23, 24, 25] (some [8, 10, 12, 17, 19]) none
         [⟨some 27, .iaddr 22 (.t 23) (.t 25), [], [], none, none⟩,
          ⟨some 28, .load (some 22) (.t 27), [], [], none, none⟩,
          ⟨some 12, .alloc 12 [.d (.int .i64 0), .d (.int .i64 0), .d (.int .i64 0), .d (.int .i64 0), .d (.int .i64 0), .cap0, .d (.int .i64 0), .d (.int .i64 0), .d (.int .i64 0), .d (.int .i64 0), .d (.int .i64 0), .d (.int .i64 0), .d (.int .i64 0), .d (.int .i64 0), .d (.int .i64 0), .d (.int .i64 0), .d (.int .i64 0), .d (.int .i64 0), .cap0, .cap0, .cap0, .cap0], [], [], none, none⟩,
          ⟨none, .store 22 (.t 12) (.t 28), [], [], none, none⟩])
      (g_book_Year.c5)))
    (g_book_Year.c6))))
def g_book_Year.c7 : ACode :=
  .block 0 [8, 10] (some [8, 10, 17, 19]) (g_book_Year.l0)
def g_book_Year.c8 : ACode :=
  .seq (.region [8] (some [8, 17, 19]) none
     [⟨some 74, .load (some 5) (.t 10), [], [], none, none⟩,
      ⟨none, .store 5 (.t 8) (.t 74), [], [], none, none⟩])
  (.ret)
def g_book_Year.c9 : ACode :=
  .seq (.seq (.region [2, 8, 10, 23, 24, 25] (some [8, 10, 17, 19]) none
      [⟨some 21, .load (some 1) (.t 4), [], [], none, none⟩,
       ⟨some 22, .mv (.t 1), [], [], none, none⟩,
       ⟨some 23, .call 18 [(.t 21), (.t 22)], [], [], none, none⟩,
       ⟨some 24, .len (.t 23), [], [], none, none⟩,
       ⟨some 25, .mv (.c (.d (.int .i64 0))), [], [], none, none⟩])
   (g_book_Year.c7))
  (g_book_Year.c8)
def g_book_Year.c10 : ACode :=
  .seq (.region [1, 2, 4, 8, 10] (some [4, 8, 10, 17, 19]) (some (0 :: g_book_Year.i1, g_book_Year.t17)) g_book_Year.a0)
  (g_book_Year.c9)
def g_book_Year.code : ACode :=
  .seq (.region [1, 2, 3, 4, 8] (some [4, 8, 17, 19]) none
     [⟨some 4, .box 4 1 (.t 0), [], [], none, none⟩,
      ⟨some 8, .alloc 8 [.d (.int .i64 0), .d (.int .i64 0), .d (.int .i64 0), .cap0, .cap0], [], [], none, none⟩])
  (.seq (.region [1, 2, 4, 8, 9] (some [4, 8, 17, 19]) none
      [⟨some 13, .mv (.t 3), [], [], none, none⟩,
       ⟨some 14, .mm true [(.t 13), (.c (.d (.int .i64 0)))], [], [], none, none⟩,
       ⟨some 15, .mm false [(.t 14), (.c (.d (.int .i64 6)))], [], [], none, none⟩,
       ⟨some 9, .mv (.t 15), [], [], none, none⟩])
   (g_book_Year.c10))
def g_book_Year : AFn := { N := 75, res := [.cell 8 (some 5)], own := [], frz := [8], code := g_book_Year.code }

/- paymaster/book.Balances: function 26.  -/
def g_book_Balances.c0 : ACode :=
  .seq (.region [7, 10, 11, 16, 17, 18, 24, 25, 26, 34] (some [13]) none
     [⟨some 31, .mv (.t 10), [], [], none, none⟩,
      ⟨some 32, .mv (.t 7), [], [], none, none⟩,
      ⟨some 33, .len (.t 32), [], [], none, none⟩,
      ⟨some 34, .bin .lss (.t 31) (.t 33), [], [], none, none⟩])
  (.cond (.t 34) (.region [7, 16, 17, 18, 24, 25, 26] (some [13]) none
      [⟨some 35, .mv (.t 7), [], [], none, none⟩,
       ⟨some 36, .mv (.t 10), [], [], none, none⟩,
       ⟨some 37, .iaddr 4 (.t 35) (.t 36), [], [], none, none⟩,
       ⟨some 38, .faddr 3 (.t 37), [], [], none, none⟩,
       ⟨some 39, .load none (.t 38), [], [], none, none⟩,
       ⟨some 40, .mv (.t 11), [], [], none, none⟩,
       ⟨some 41, .bin .sub (.t 39) (.t 40), [], [], none, none⟩,
       ⟨some 42, .iaddr 4 (.t 35) (.t 36), [], [], none, none⟩,
       ⟨some 43, .faddr 3 (.t 42), [], [], none, none⟩,
       ⟨none, .store 1 (.t 43) (.t 41), [], [], none, none⟩])
   (.skip))
def g_book_Balances.c1 : ACode :=
  .region [7, 16, 17, 18, 24, 25, 26] (some [13]) none
    [⟨some 44, .bin .add (.t 26) (.c (.d (.int .i64 1))), [], [], none, none⟩,
     ⟨some 26, .mv (.t 44), [], [], none, none⟩]
def g_book_Balances.l1 : ACode :=
  .loop [7, 16, 17, 18, 24, 25, 26] (some [13]) (.seq (.region [7, 16, 17, 18, 24, 25, 26, 27] (some [13]) none
     [⟨some 27, .bin .lss (.t 26) (.t 25), [], [], none, none⟩])
  (.seq (.cond (.t 27) (.skip)
    (.exit 2))
   (.seq (.block 3 [7, 16, 17, 18, 24, 25, 26] (some [13]) (.seq (.region [7, 10, 11, 16, 17, 18, 24, 25, 26] (some [13]) none
         [⟨some 28, .mv (.t 26), [], [], none, none⟩,
          ⟨some 29, .iaddr 1 (.t 24) (.t 26), [], [], none, none⟩,
          ⟨some 30, .load none (.t 29), [], [], none, none⟩,
          ⟨some 10, .mv (.t 28), [], [], none, none⟩,
          ⟨some 11, .mv (.t 30), [], [], none, none⟩])
      (g_book_Balances.c0)))
    (g_book_Balances.c1))))
def g_book_Balances.c2 : ACode :=
  .block 2 [7, 16, 17, 18] (some [13]) (g_book_Balances.l1)
def g_book_Balances.c3 : ACode :=
  .seq (.region [7, 16, 17, 18, 24, 25, 26] (some [13]) none
     [⟨some 22, .faddr 5 (.t 9), [], [], none, none⟩,
      ⟨some 23, .faddr 15 (.t 22), [], [], none, none⟩,
      ⟨some 24, .load none (.t 23), [], [], none, none⟩,
      ⟨some 25, .len (.t 24), [], [], none, none⟩,
      ⟨some 26, .mv (.c (.d (.int .i64 0))), [], [], none, none⟩])
  (g_book_Balances.c2)
def g_book_Balances.c4 : ACode :=
  .region [7, 16, 17, 18] (some [13]) none
    [⟨some 45, .bin .add (.t 18) (.c (.d (.int .i64 1))), [], [], none, none⟩,
     ⟨some 18, .mv (.t 45), [], [], none, none⟩]
def g_book_Balances.l0 : ACode :=
  .loop [7, 16, 17, 18] (some [13]) (.seq (.region [7, 16, 17, 18, 19] (some [13]) none
     [⟨some 19, .bin .lss (.t 18) (.t 17), [], [], none, none⟩])
  (.seq (.cond (.t 19) (.skip)
    (.exit 0))
   (.seq (.block 1 [7, 16, 17, 18] (some [13]) (.seq (.region [7, 9, 16, 17, 18] (some [9, 13]) none
         [⟨some 20, .iaddr 22 (.t 16) (.t 18), [], [], none, none⟩,
          ⟨some 21, .load (some 22) (.t 20), [], [], none, none⟩,
          ⟨some 9, .alloc 9 [.d (.int .i64 0), .d (.int .i64 0), .d (.int .i64 0), .d (.int .i64 0), .d (.int .i64 0), .cap0, .d (.int .i64 0), .d (.int .i64 0), .d (.int .i64 0), .d (.int .i64 0), .d (.int .i64 0), .d (.int .i64 0), .d (.int .i64 0), .d (.int .i64 0), .d (.int .i64 0), .d (.int .i64 0), .d (.int .i64 0), .d (.int .i64 0), .cap0, .cap0, .cap0, .cap0], [], [], none, none⟩,
          ⟨none, .store 22 (.t 9) (.t 21), [], [], none, none⟩])
      (g_book_Balances.c3)))
    (g_book_Balances.c4))))
def g_book_Balances.c5 : ACode :=
  .block 0 [7] (some [13]) (g_book_Balances.l0)
def g_book_Balances.c6 : ACode :=
  .seq (.region [6] (some [13]) none
     [⟨some 46, .mv (.t 7), [], [], none, none⟩,
      ⟨some 6, .mv (.t 46), [], [], none, none⟩])
  (.ret)
def g_book_Balances.code : ACode :=
  .seq (.region [1, 2, 3] (some [3]) none
     [⟨some 3, .box 3 1 (.t 0), [], [], none, none⟩,
      ⟨some 6, .mv (.c (.cap0)), [], [], none, none⟩])
  (.seq (.region [1, 3, 7] (some [3, 13]) none
      [⟨some 12, .mv (.t 2), [], [], none, none⟩,
       ⟨some 13, .call 31 [(.t 12)], [], [], none, none⟩,
       ⟨some 7, .mv (.t 13), [], [], none, none⟩])
   (.seq (.seq (.region [7, 16, 17, 18] (some [13]) none
        [⟨some 14, .load (some 1) (.t 3), [], [], none, none⟩,
         ⟨some 15, .mv (.t 1), [], [], none, none⟩,
         ⟨some 16, .call 18 [(.t 14), (.t 15)], [], [], none, none⟩,
         ⟨some 17, .len (.t 16), [], [], none, none⟩,
         ⟨some 18, .mv (.c (.d (.int .i64 0))), [], [], none, none⟩])
     (g_book_Balances.c5))
    (g_book_Balances.c6)))
def g_book_Balances : AFn := { N := 47, res := [.slot 6], own := [], frz := [6], code := g_book_Balances.code }

/- paymaster/paymasterref14.Same: function 27. drawn region 6: first 11, left 0; drawn region 11: first 11, left 0 -/
def g_ref14_Same.o7 : List AOper :=
  [⟨some 43, .pick (.t 35) (.c (.d (.bool true))) (.t 42), [], [], none, none⟩]
def g_ref14_Same.o6 : List AOper :=
  (⟨some 36, .faddr 4 (.t 2), [], [], (some (28, 35, false)), none⟩ ::
     ⟨some 37, .load none (.t 36), [], [], (some (28, 35, false)), none⟩ ::
     ⟨some 38, .len (.t 37), [], [], (some (28, 35, false)), none⟩ ::
     ⟨some 39, .faddr 4 (.t 3), [], [], (some (28, 35, false)), none⟩ ::
     ⟨some 40, .load none (.t 39), [], [], (some (28, 35, false)), none⟩ ::
     ⟨some 41, .len (.t 40), [], [], (some (28, 35, false)), none⟩ ::
     ⟨some 42, .bin .neq (.t 38) (.t 41), [], [], (some (28, 35, false)), (some ([2, 3, 35, 42], (some [2, 3])))⟩ ::
     g_ref14_Same.o7)
def g_ref14_Same.o5 : List AOper :=
  (⟨some 34, .pick (.t 26) (.c (.d (.bool true))) (.t 33), [], [], none, none⟩ ::
     ⟨some 35, .mv (.t 34), [], [], none, (some ([2, 3, 35], (some [2, 3])))⟩ ::
     g_ref14_Same.o6)
def g_ref14_Same.o4 : List AOper :=
  (⟨some 27, .faddr 3 (.t 2), [], [], (some (19, 26, false)), none⟩ ::
     ⟨some 28, .load none (.t 27), [], [], (some (19, 26, false)), none⟩ ::
     ⟨some 29, .len (.t 28), [], [], (some (19, 26, false)), none⟩ ::
     ⟨some 30, .faddr 3 (.t 3), [], [], (some (19, 26, false)), none⟩ ::
     ⟨some 31, .load none (.t 30), [], [], (some (19, 26, false)), none⟩ ::
     ⟨some 32, .len (.t 31), [], [], (some (19, 26, false)), none⟩ ::
     ⟨some 33, .bin .neq (.t 29) (.t 32), [], [], (some (19, 26, false)), (some ([2, 3, 26, 33], (some [2, 3])))⟩ ::
     g_ref14_Same.o5)
def g_ref14_Same.o3 : List AOper :=
  (⟨some 25, .pick (.t 19) (.c (.d (.bool true))) (.t 24), [], [], none, none⟩ ::
     ⟨some 26, .mv (.t 25), [], [], none, (some ([2, 3, 26], (some [2, 3])))⟩ ::
     g_ref14_Same.o4)
def g_ref14_Same.o2 : List AOper :=
  (⟨some 20, .faddr 2 (.t 2), [], [], (some (12, 19, false)), none⟩ ::
     ⟨some 21, .load none (.t 20), [], [], (some (12, 19, false)), none⟩ ::
     ⟨some 22, .faddr 2 (.t 3), [], [], (some (12, 19, false)), none⟩ ::
     ⟨some 23, .load none (.t 22), [], [], (some (12, 19, false)), none⟩ ::
     ⟨some 24, .bin .neq (.t 21) (.t 23), [], [], (some (12, 19, false)), (some ([2, 3, 19, 24], (some [2, 3])))⟩ ::
     g_ref14_Same.o3)
def g_ref14_Same.o1 : List AOper :=
  (⟨some 18, .pick (.t 12) (.c (.d (.bool true))) (.t 17), [], [], none, none⟩ ::
     ⟨some 19, .mv (.t 18), [], [], none, (some ([2, 3, 19], (some [2, 3])))⟩ ::
     g_ref14_Same.o2)
def g_ref14_Same.o0 : List AOper :=
  (⟨some 13, .faddr 1 (.t 2), [], [], (some (5, 12, false)), none⟩ ::
     ⟨some 14, .load none (.t 13), [], [], (some (5, 12, false)), none⟩ ::
     ⟨some 15, .faddr 1 (.t 3), [], [], (some (5, 12, false)), none⟩ ::
     ⟨some 16, .load none (.t 15), [], [], (some (5, 12, false)), none⟩ ::
     ⟨some 17, .bin .neq (.t 14) (.t 16), [], [], (some (5, 12, false)), (some ([2, 3, 12, 17], (some [2, 3])))⟩ ::
     g_ref14_Same.o1)
def g_ref14_Same.c0 : ACode :=
  .cond (.t 43) (.seq (.region [4] (some []) none
      [⟨some 4, .mv (.c (.d (.bool false))), [], [], none, none⟩])
   (.ret))
  (.skip)
def g_ref14_Same.c1 : ACode :=
  .region [2, 3, 5] (some [2, 3]) none
    [⟨some 49, .mv (.t 5), [], [], none, none⟩,
     ⟨some 50, .bin .add (.t 49) (.c (.d (.int .i64 1))), [], [], none, none⟩,
     ⟨some 5, .mv (.t 50), [], [], none, none⟩]
def g_ref14_Same.c2 : ACode :=
  .seq (.block 1 [2, 3, 5] (some [2, 3]) (.seq (.region [2, 3, 5, 61] (some [2, 3]) (some ([0, 1, 2, 3, 4, 5, 6, 7, 8, 9, 10], .done))
       [⟨some 51, .faddr 3 (.t 2), [], [], none, none⟩,
        ⟨some 52, .load none (.t 51), [], [0], none, none⟩,
        ⟨some 53, .mv (.t 5), [], [], none, none⟩,
        ⟨some 54, .iaddr 1 (.t 52) (.t 53), [], [1, 2], none, none⟩,
        ⟨some 55, .load none (.t 54), [], [3], none, none⟩,
        ⟨some 56, .faddr 3 (.t 3), [], [], none, none⟩,
        ⟨some 57, .load none (.t 56), [], [5], none, none⟩,
        ⟨some 58, .mv (.t 5), [], [], none, none⟩,
        ⟨some 59, .iaddr 1 (.t 57) (.t 58), [], [6, 7], none, none⟩,
        ⟨some 60, .load none (.t 59), [], [8], none, none⟩,
        ⟨some 61, .bin .neq (.t 55) (.t 60), [], [4, 9], none, none⟩])
    (.cond (.t 61) (.seq (.region [4] (some []) none
         [⟨some 4, .mv (.c (.d (.bool false))), [], [], none, none⟩])
      (.ret))
     (.skip))))
  (g_ref14_Same.c1)
def g_ref14_Same.l0 : ACode :=
  .loop [2, 3, 5] (some [2, 3]) (.seq (.seq (.region [2, 3, 5, 48] (some [2, 3]) none
      [⟨some 44, .mv (.t 5), [], [], none, none⟩,
       ⟨some 45, .faddr 3 (.t 2), [], [], none, none⟩,
       ⟨some 46, .load none (.t 45), [], [], none, none⟩,
       ⟨some 47, .len (.t 46), [], [], none, none⟩,
       ⟨some 48, .bin .lss (.t 44) (.t 47), [], [], none, none⟩])
   (.cond (.t 48) (.skip)
    (.exit 0)))
  (g_ref14_Same.c2))
def g_ref14_Same.c3 : ACode :=
  .region [2, 3, 6] (some [2, 3]) none
    [⟨some 67, .mv (.t 6), [], [], none, none⟩,
     ⟨some 68, .bin .add (.t 67) (.c (.d (.int .i64 1))), [], [], none, none⟩,
     ⟨some 6, .mv (.t 68), [], [], none, none⟩]
def g_ref14_Same.c4 : ACode :=
  .seq (.block 3 [2, 3, 6] (some [2, 3]) (.seq (.region [2, 3, 6, 79] (some [2, 3]) (some ([0, 1, 2, 3, 4, 5, 6, 7, 8, 9, 10], .done))
       [⟨some 69, .faddr 4 (.t 2), [], [], none, none⟩,
        ⟨some 70, .load none (.t 69), [], [0], none, none⟩,
        ⟨some 71, .mv (.t 6), [], [], none, none⟩,
        ⟨some 72, .iaddr 1 (.t 70) (.t 71), [], [1, 2], none, none⟩,
        ⟨some 73, .load none (.t 72), [], [3], none, none⟩,
        ⟨some 74, .faddr 4 (.t 3), [], [], none, none⟩,
        ⟨some 75, .load none (.t 74), [], [5], none, none⟩,
        ⟨some 76, .mv (.t 6), [], [], none, none⟩,
        ⟨some 77, .iaddr 1 (.t 75) (.t 76), [], [6, 7], none, none⟩,
        ⟨some 78, .load none (.t 77), [], [8], none, none⟩,
        ⟨some 79, .bin .neq (.t 73) (.t 78), [], [4, 9], none, none⟩])
    (.cond (.t 79) (.seq (.region [4] (some []) none
         [⟨some 4, .mv (.c (.d (.bool false))), [], [], none, none⟩])
      (.ret))
     (.skip))))
  (g_ref14_Same.c3)
def g_ref14_Same.l1 : ACode :=
  .loop [2, 3, 6] (some [2, 3]) (.seq (.seq (.region [2, 3, 6, 66] (some [2, 3]) none
      [⟨some 62, .mv (.t 6), [], [], none, none⟩,
       ⟨some 63, .faddr 4 (.t 2), [], [], none, none⟩,
       ⟨some 64, .load none (.t 63), [], [], none, none⟩,
       ⟨some 65, .len (.t 64), [], [], none, none⟩,
       ⟨some 66, .bin .lss (.t 62) (.t 65), [], [], none, none⟩])
   (.cond (.t 66) (.skip)
    (.exit 2)))
  (g_ref14_Same.c4))
def g_ref14_Same.c5 : ACode :=
  .seq (.region [4] (some []) none
     [⟨some 4, .mv (.c (.d (.bool true))), [], [], none, none⟩])
  (.ret)
def g_ref14_Same.c6 : ACode :=
  .seq (.seq (.region [2, 3, 6] (some [2, 3]) none
      [⟨some 6, .mv (.c (.d (.int .i64 0))), [], [], none, none⟩])
   (.block 2 [] (some []) (g_ref14_Same.l1)))
  (g_ref14_Same.c5)
def g_ref14_Same.c7 : ACode :=
  .seq (.seq (.region [2, 3, 5] (some [2, 3]) none
      [⟨some 5, .mv (.c (.d (.int .i64 0))), [], [], none, none⟩])
   (.block 0 [2, 3] (some [2, 3]) (g_ref14_Same.l0)))
  (g_ref14_Same.c6)
def g_ref14_Same.code : ACode :=
  .seq (.region [2, 3] (some [2, 3]) none
     [⟨some 2, .box 2 5 (.t 0), [], [], none, none⟩,
      ⟨some 3, .box 3 5 (.t 1), [], [], none, none⟩,
      ⟨some 4, .mv (.c (.d (.bool false))), [], [], none, none⟩])
  (.seq (.seq (.region [2, 3, 43] (some [2, 3]) none
       (⟨some 7, .faddr 0 (.t 2), [], [], none, none⟩ ::
        ⟨some 8, .load none (.t 7), [], [], none, none⟩ ::
        ⟨some 9, .faddr 0 (.t 3), [], [], none, none⟩ ::
        ⟨some 10, .load none (.t 9), [], [], none, none⟩ ::
        ⟨some 11, .bin .neq (.t 8) (.t 10), [], [], none, none⟩ ::
        ⟨some 12, .mv (.t 11), [], [], none, (some ([2, 3, 12], (some [2, 3])))⟩ ::
        g_ref14_Same.o0))
    (g_ref14_Same.c0))
   (g_ref14_Same.c7))
def g_ref14_Same : AFn := { N := 80, res := [.slot 4], own := [], frz := [], code := g_ref14_Same.code }

/- paymaster/book.Known: function 28.  -/
def g_book_Known.c0 : ACode :=
  .seq (.region [2, 6, 7, 8, 12, 16, 17, 18, 32, 33, 34, 41] (some [6, 7, 12]) none
     [⟨some 38, .faddr 0 (.t 12), [], [], none, none⟩,
      ⟨some 39, .load none (.t 38), [], [], none, none⟩,
      ⟨some 40, .mv (.t 2), [], [], none, none⟩,
      ⟨some 41, .bin .eql (.t 39) (.t 40), [], [], none, none⟩])
  (.cond (.t 41) (.region [2, 6, 7, 8, 16, 17, 18, 32, 33, 34] (some [6, 7]) none
      [⟨some 42, .mv (.t 8), [], [], none, none⟩,
       ⟨some 43, .faddr 1 (.t 12), [], [], none, none⟩,
       ⟨some 44, .load (some 3) (.t 43), [], [], none, none⟩,
       ⟨some 45, .callv (.t 42) [(.t 44)], [], [], none, none⟩])
   (.skip))
def g_book_Known.c1 : ACode :=
  .region [2, 6, 7, 8, 16, 17, 18, 32, 33, 34] (some [6, 7]) none
    [⟨some 46, .bin .add (.t 34) (.c (.d (.int .i64 1))), [], [], none, none⟩,
     ⟨some 34, .mv (.t 46), [], [], none, none⟩]
def g_book_Known.l1 : ACode :=
  .loop [2, 6, 7, 8, 16, 17, 18, 32, 33, 34] (some [6, 7]) (.seq (.region [2, 6, 7, 8, 16, 17, 18, 32, 33, 34, 35] (some [6, 7]) none
     [⟨some 35, .bin .lss (.t 34) (.t 33), [], [], none, none⟩])
  (.seq (.cond (.t 35) (.skip)
    (.exit 2))
   (.seq (.block 3 [2, 6, 7, 8, 16, 17, 18, 32, 33, 34] (some [6, 7]) (.seq (.region [2, 6, 7, 8, 12, 16, 17, 18, 32, 33, 34] (some [6, 7, 12]) none
         [⟨some 36, .iaddr 4 (.t 32) (.t 34), [], [], none, none⟩,
          ⟨some 37, .load (some 4) (.t 36), [], [], none, none⟩,
          ⟨some 12, .alloc 12 [.d (.int .i64 0), .d (.int .i64 0), .d (.int .i64 0), .d (.int .i64 0)], [], [], none, none⟩,
          ⟨none, .store 4 (.t 12) (.t 37), [], [], none, none⟩])
      (g_book_Known.c0)))
    (g_book_Known.c1))))
def g_book_Known.c2 : ACode :=
  .block 2 [2, 6, 7, 8, 16, 17, 18] (some [6, 7]) (g_book_Known.l1)
def g_book_Known.c3 : ACode :=
  .seq (.region [2, 6, 7, 8, 16, 17, 18, 32, 33, 34] (some [6, 7]) none
     [⟨some 31, .faddr 21 (.t 10), [], [], none, none⟩,
      ⟨some 32, .load none (.t 31), [], [], none, none⟩,
      ⟨some 33, .len (.t 32), [], [], none, none⟩,
      ⟨some 34, .mv (.c (.d (.int .i64 0))), [], [], none, none⟩])
  (g_book_Known.c2)
def g_book_Known.c4 : ACode :=
  .seq (.seq (.region [2, 6, 7, 8, 10, 16, 17, 18, 25] (some [6, 7, 10]) none
      [⟨some 22, .faddr 1 (.t 10), [], [], none, none⟩,
       ⟨some 23, .load none (.t 22), [], [], none, none⟩,
       ⟨some 24, .mv (.t 2), [], [], none, none⟩,
       ⟨some 25, .bin .eql (.t 23) (.t 24), [], [], none, none⟩])
   (.cond (.t 25) (.region [2, 6, 7, 8, 10, 16, 17, 18] (some [6, 7, 10]) none
       [⟨some 26, .mv (.t 8), [], [], none, none⟩,
        ⟨some 27, .faddr 5 (.t 10), [], [], none, none⟩,
        ⟨some 28, .faddr 1 (.t 27), [], [], none, none⟩,
        ⟨some 29, .load (some 3) (.t 28), [], [], none, none⟩,
        ⟨some 30, .callv (.t 26) [(.t 29)], [], [], none, none⟩])
    (.skip)))
  (g_book_Known.c3)
def g_book_Known.c5 : ACode :=
  .region [2, 6, 7, 8, 16, 17, 18] (some [6, 7]) none
    [⟨some 47, .bin .add (.t 18) (.c (.d (.int .i64 1))), [], [], none, none⟩,
     ⟨some 18, .mv (.t 47), [], [], none, none⟩]
def g_book_Known.l0 : ACode :=
  .loop [2, 6, 7, 8, 16, 17, 18] (some [6, 7]) (.seq (.region [2, 6, 7, 8, 16, 17, 18, 19] (some [6, 7]) none
     [⟨some 19, .bin .lss (.t 18) (.t 17), [], [], none, none⟩])
  (.seq (.cond (.t 19) (.skip)
    (.exit 0))
   (.seq (.block 1 [2, 6, 7, 8, 16, 17, 18] (some [6, 7]) (.seq (.region [2, 6, 7, 8, 10, 16, 17, 18] (some [6, 7, 10]) none
         [⟨some 20, .iaddr 22 (.t 16) (.t 18), [], [], none, none⟩,
          ⟨some 21, .load (some 22) (.t 20), [], [], none, none⟩,
          ⟨some 10, .alloc 10 [.d (.int .i64 0), .d (.int .i64 0), .d (.int .i64 0), .d (.int .i64 0), .d (.int .i64 0), .cap0, .d (.int .i64 0), .d (.int .i64 0), .d (.int .i64 0), .d (.int .i64 0), .d (.int .i64 0), .d (.int .i64 0), .d (.int .i64 0), .d (.int .i64 0), .d (.int .i64 0), .d (.int .i64 0), .d (.int .i64 0), .d (.int .i64 0), .cap0, .cap0, .cap0, .cap0], [], [], none, none⟩,
          ⟨none, .store 22 (.t 10) (.t 21), [], [], none, none⟩])
      (g_book_Known.c4)))
    (g_book_Known.c5))))
def g_book_Known.c6 : ACode :=
  .block 0 [6, 7] (some [6, 7]) (g_book_Known.l0)
def g_book_Known.c7 : ACode :=
  .seq (.region [6] (some [6]) none
     [⟨some 48, .load (some 3) (.t 7), [], [], none, none⟩,
      ⟨none, .store 3 (.t 6) (.t 48), [], [], none, none⟩])
  (.ret)
def g_book_Known.code : ACode :=
  .seq (.region [1, 2, 3, 6] (some [3, 6]) none
     [⟨some 3, .box 3 1 (.t 0), [], [], none, none⟩,
      ⟨some 6, .alloc 6 [.d (.int .i64 0), .d (.int .i64 0), .d (.int .i64 0)], [], [], none, none⟩])
  (.seq (.region [1, 2, 3, 6, 7] (some [3, 6, 7]) none
      [⟨some 7, .alloc 7 [.d (.int .i64 0), .d (.int .i64 0), .d (.int .i64 0)], [], [], none, none⟩])
   (.seq (.region [1, 2, 3, 6, 7, 8] (some [3, 6, 7]) none
       [⟨some 13, .fnv 32 [(.t 7)], [], [], none, none⟩,
        ⟨some 8, .mv (.t 13), [], [], none, none⟩])
    (.seq (.seq (.region [2, 6, 7, 8, 16, 17, 18] (some [6, 7]) none
         [⟨some 14, .load (some 1) (.t 3), [], [], none, none⟩,
          ⟨some 15, .mv (.t 1), [], [], none, none⟩,
          ⟨some 16, .call 18 [(.t 14), (.t 15)], [], [], none, none⟩,
          ⟨some 17, .len (.t 16), [], [], none, none⟩,
          ⟨some 18, .mv (.c (.d (.int .i64 0))), [], [], none, none⟩])
      (g_book_Known.c6))
     (g_book_Known.c7))))
def g_book_Known : AFn := { N := 49, res := [.cell 6 (some 3)], own := [], frz := [6], code := g_book_Known.code }

/- slices.Clone[[]paymaster/book.Entry,paymaster/book.Entry]: function 14.  -/
def g_slices_Clone_Entry.code : ACode :=
  .seq (.region [0] (some []) none
     [⟨some 2, .mv (.c (.cap0)), [], [], none, none⟩])
  (.seq (.seq (.region [0, 4] (some []) none
       [⟨some 3, .mv (.t 0), [], [], none, none⟩,
        ⟨some 4, .nilS false (.t 3), [], [], none, none⟩])
    (.cond (.t 4) (.seq (.region [2] (some [5, 7]) none
         [⟨some 2, .mv (.c (.cap0)), [], [], none, none⟩])
      (.ret))
     (.skip)))
   (.seq (.region [2] (some [5, 7]) none
       [⟨some 5, .bsl (some 5) 22 [] 0 [], [], [], none, none⟩,
        ⟨some 6, .mv (.t 0), [], [], none, none⟩,
        ⟨some 7, .app (some 7) 22 256 (.t 5) (.t 6), [], [], none, none⟩,
        ⟨some 2, .mv (.t 7), [], [], none, none⟩])
    (.ret)))
def g_slices_Clone_Entry : AFn := { N := 8, res := [.slot 2], own := [(2, 7, 22)], frz := [], code := g_slices_Clone_Entry.code }

/- slices.ContainsFunc[[]paymaster/book.Entry,paymaster/book.Entry]: function 15.  -/
def g_slices_ContainsFunc_Entry.code : ACode :=
  .seq (.region [0, 1] none none
     [⟨some 4, .mv (.c (.d (.bool false))), [], [], none, none⟩])
  (.seq (.region [4] none none
      [⟨some 5, .mv (.t 0), [], [], none, none⟩,
       ⟨some 6, .mv (.t 1), [], [], none, none⟩,
       ⟨some 7, .call 16 [(.t 5), (.t 6)], [], [], none, none⟩,
       ⟨some 8, .bin .geq (.t 7) (.c (.d (.int .i64 0))), [], [], none, none⟩,
       ⟨some 4, .mv (.t 8), [], [], none, none⟩])
   (.ret))
def g_slices_ContainsFunc_Entry : AFn := { N := 9, res := [.slot 4], own := [], frz := [], code := g_slices_ContainsFunc_Entry.code }

/- paymaster/book.Live$1: function 30.  -/
def g_book_Live_1.code : ACode :=
  .seq (.region [1, 2] none none
     [⟨some 2, .box 2 22 (.t 0), [], [], none, none⟩,
      ⟨some 3, .mv (.c (.d (.bool false))), [], [], none, none⟩])
  (.seq (.region [3] none none
      [⟨some 4, .faddr 4 (.t 2), [], [], none, none⟩,
       ⟨some 5, .load none (.t 4), [], [], none, none⟩,
       ⟨some 6, .load none (.t 1), [], [], none, none⟩,
       ⟨some 7, .bin .add (.t 6) (.c (.d (.int .i64 1))), [], [], none, none⟩,
       ⟨some 8, .bin .eql (.t 5) (.t 7), [], [], none, none⟩,
       ⟨some 3, .mv (.t 8), [], [], none, none⟩])
   (.ret))
def g_book_Live_1 : AFn := { N := 9, res := [.slot 3], own := [], frz := [], code := g_book_Live_1.code }

/- paymaster/book.alive: function 18.  -/
def g_book_alive.c0 : ACode :=
  .region [1, 2, 5, 13, 14, 15] (some [2, 11]) none
    [⟨some 19, .mv (.t 5), [], [], none, none⟩,
     ⟨some 20, .faddr 4 (.t 7), [], [], none, none⟩,
     ⟨some 21, .load none (.t 20), [], [], none, none⟩,
     ⟨some 22, .mget false ((.int .i64 0)) (.t 19) (.t 21) false, [], [], none, none⟩,
     ⟨some 23, .bin .add (.t 22) (.c (.d (.int .i64 1))), [], [], none, none⟩,
     ⟨none, .mset false (.t 19) (.t 21) (.t 23), [], [], none, none⟩]
def g_book_alive.c1 : ACode :=
  .region [1, 2, 5, 13, 14, 15] (some [2, 11]) none
    [⟨some 24, .bin .add (.t 15) (.c (.d (.int .i64 1))), [], [], none, none⟩,
     ⟨some 15, .mv (.t 24), [], [], none, none⟩]
def g_book_alive.l0 : ACode :=
  .loop [1, 2, 5, 13, 14, 15] (some [2, 11]) (.seq (.region [1, 2, 5, 13, 14, 15, 16] (some [2, 11]) none
     [⟨some 16, .bin .lss (.t 15) (.t 14), [], [], none, none⟩])
  (.seq (.cond (.t 16) (.skip)
    (.exit 0))
   (.seq (.block 1 [1, 2, 5, 13, 14, 15] (some [2, 11]) (.seq (.region [1, 2, 5, 7, 13, 14, 15] (some [2, 7, 11]) none
         [⟨some 17, .iaddr 22 (.t 13) (.t 15), [], [], none, none⟩,
          ⟨some 18, .load (some 22) (.t 17), [], [], none, none⟩,
          ⟨some 7, .alloc 7 [.d (.int .i64 0), .d (.int .i64 0), .d (.int .i64 0), .d (.int .i64 0), .d (.int .i64 0), .cap0, .d (.int .i64 0), .d (.int .i64 0), .d (.int .i64 0), .d (.int .i64 0), .d (.int .i64 0), .d (.int .i64 0), .d (.int .i64 0), .d (.int .i64 0), .d (.int .i64 0), .d (.int .i64 0), .d (.int .i64 0), .d (.int .i64 0), .cap0, .cap0, .cap0, .cap0], [], [], none, none⟩,
          ⟨none, .store 22 (.t 7) (.t 18), [], [], none, none⟩])
      (g_book_alive.c0)))
    (g_book_alive.c1))))
def g_book_alive.c2 : ACode :=
  .block 0 [1, 2, 5] (some [2, 11]) (g_book_alive.l0)
def g_book_alive.o3 : List AOper :=
  [⟨some 48, .pick (.t 42) (.t 47) (.c (.d (.bool false))), [], [], none, none⟩]
def g_book_alive.o2 : List AOper :=
  (⟨some 43, .mv (.t 5), [], [], (some (9, 42, true)), none⟩ ::
     ⟨some 44, .mv (.t 9), [], [], (some (9, 42, true)), none⟩ ::
     ⟨some 45, .bin .add (.t 44) (.c (.d (.int .i64 1))), [], [], (some (9, 42, true)), none⟩ ::
     ⟨some 46, .mget false ((.int .i64 0)) (.t 43) (.t 45) false, [], [], (some (9, 42, true)), none⟩ ::
     ⟨some 47, .bin .eql (.t 46) (.c (.d (.int .i64 0))), [], [], (some (9, 42, true)), (some ([1, 5, 8, 10, 26, 27, 28, 42, 47], (some [10, 11, 52])))⟩ ::
     g_book_alive.o3)
def g_book_alive.o1 : List AOper :=
  (⟨some 41, .pick (.t 37) (.t 40) (.c (.d (.bool false))), [], [], none, none⟩ ::
     ⟨some 42, .mv (.t 41), [], [], none, (some ([1, 5, 8, 9, 10, 26, 27, 28, 42], (some [10, 11, 52])))⟩ ::
     g_book_alive.o2)
def g_book_alive.o0 : List AOper :=
  (⟨some 38, .faddr 4 (.t 10), [], [], (some (4, 37, true)), none⟩ ::
     ⟨some 39, .load none (.t 38), [], [], (some (4, 37, true)), none⟩ ::
     ⟨some 40, .bin .eql (.t 39) (.c (.d (.int .i64 0))), [], [], (some (4, 37, true)), (some ([1, 5, 8, 9, 10, 26, 27, 28, 37, 40], (some [10, 11, 52])))⟩ ::
     g_book_alive.o1)
def g_book_alive.c3 : ACode :=
  .cond (.t 48) (.region [1, 5, 8, 26, 27, 28] (some [11, 52]) none
     [⟨some 49, .mv (.t 8), [], [], none, none⟩,
      ⟨some 50, .load (some 22) (.t 10), [], [], none, none⟩,
      ⟨some 51, .bsl none 22 [] 1 [(0, (.t 50))], [], [], none, none⟩,
      ⟨some 52, .app (some 52) 22 256 (.t 49) (.t 51), [], [], none, none⟩,
      ⟨some 8, .mv (.t 52), [], [], none, none⟩])
  (.skip)
def g_book_alive.c4 : ACode :=
  .seq (.region [1, 5, 8, 10, 26, 27, 28, 48] (some [10, 11, 52]) none
     (⟨some 33, .faddr 2 (.t 10), [], [], none, none⟩ ::
      ⟨some 34, .load none (.t 33), [], [], none, none⟩ ::
      ⟨some 35, .mv (.t 1), [], [], none, none⟩ ::
      ⟨some 36, .bin .eql (.t 34) (.t 35), [], [], none, none⟩ ::
      ⟨some 37, .mv (.t 36), [], [], none, (some ([1, 5, 8, 9, 10, 26, 27, 28, 37], (some [10, 11, 52])))⟩ ::
      g_book_alive.o0))
  (g_book_alive.c3)
def g_book_alive.c5 : ACode :=
  .region [1, 5, 8, 26, 27, 28] (some [11, 52]) none
    [⟨some 53, .bin .add (.t 28) (.c (.d (.int .i64 1))), [], [], none, none⟩,
     ⟨some 28, .mv (.t 53), [], [], none, none⟩]
def g_book_alive.l1 : ACode :=
  .loop [1, 5, 8, 26, 27, 28] (some [11, 52]) (.seq (.region [1, 5, 8, 26, 27, 28, 29] (some [11, 52]) none
     [⟨some 29, .bin .lss (.t 28) (.t 27), [], [], none, none⟩])
  (.seq (.cond (.t 29) (.skip)
    (.exit 2))
   (.seq (.block 3 [1, 5, 8, 26, 27, 28] (some [11, 52]) (.seq (.region [1, 5, 8, 9, 10, 26, 27, 28] (some [10, 11, 52]) none
         [⟨some 30, .mv (.t 28), [], [], none, none⟩,
          ⟨some 31, .iaddr 22 (.t 26) (.t 28), [], [], none, none⟩,
          ⟨some 32, .load (some 22) (.t 31), [], [], none, none⟩,
          ⟨some 10, .alloc 10 [.d (.int .i64 0), .d (.int .i64 0), .d (.int .i64 0), .d (.int .i64 0), .d (.int .i64 0), .cap0, .d (.int .i64 0), .d (.int .i64 0), .d (.int .i64 0), .d (.int .i64 0), .d (.int .i64 0), .d (.int .i64 0), .d (.int .i64 0), .d (.int .i64 0), .d (.int .i64 0), .d (.int .i64 0), .d (.int .i64 0), .d (.int .i64 0), .cap0, .cap0, .cap0, .cap0], [], [], none, none⟩,
          ⟨some 9, .mv (.t 30), [], [], none, none⟩,
          ⟨none, .store 22 (.t 10) (.t 32), [], [], none, none⟩])
      (g_book_alive.c4)))
    (g_book_alive.c5))))
def g_book_alive.c6 : ACode :=
  .block 2 [8] (some [52]) (g_book_alive.l1)
def g_book_alive.c7 : ACode :=
  .seq (.region [4] (some [52]) none
     [⟨some 54, .mv (.t 8), [], [], none, none⟩,
      ⟨some 4, .mv (.t 54), [], [], none, none⟩])
  (.ret)
def g_book_alive.c8 : ACode :=
  .seq (.region [1, 2, 5, 8] (some [2, 11, 52]) none
     [⟨some 8, .mv (.c (.cap0)), [], [], none, none⟩])
  (.seq (.seq (.region [1, 5, 8, 26, 27, 28] (some [11, 52]) none
       [⟨some 25, .faddr 0 (.t 2), [], [], none, none⟩,
        ⟨some 26, .load none (.t 25), [], [], none, none⟩,
        ⟨some 27, .len (.t 26), [], [], none, none⟩,
        ⟨some 28, .mv (.c (.d (.int .i64 0))), [], [], none, none⟩])
    (g_book_alive.c6))
   (g_book_alive.c7))
def g_book_alive.code : ACode :=
  .seq (.region [1, 2] (some [2]) none
     [⟨some 2, .box 2 1 (.t 0), [], [], none, none⟩,
      ⟨some 4, .mv (.c (.cap0)), [], [], none, none⟩])
  (.seq (.region [1, 2, 5] (some [2, 11]) none
      [⟨some 11, .mkmap 11, [], [], none, none⟩,
       ⟨some 5, .mv (.t 11), [], [], none, none⟩])
   (.seq (.seq (.region [1, 2, 5, 13, 14, 15] (some [2, 11]) none
        [⟨some 12, .faddr 0 (.t 2), [], [], none, none⟩,
         ⟨some 13, .load none (.t 12), [], [], none, none⟩,
         ⟨some 14, .len (.t 13), [], [], none, none⟩,
         ⟨some 15, .mv (.c (.d (.int .i64 0))), [], [], none, none⟩])
     (g_book_alive.c2))
    (g_book_alive.c8)))
def g_book_alive : AFn := { N := 55, res := [.slot 4], own := [], frz := [4], code := g_book_alive.code }

/- paymaster/book.add: function 19. drawn region 4: first 5, left 6 -/
def g_book_add.c0 : ACode :=
  .region [0, 1, 6, 7] none none
    [⟨some 24, .bin .add (.t 7) (.c (.d (.int .i64 1))), [], [], none, none⟩,
     ⟨some 7, .mv (.t 24), [], [], none, none⟩]
def g_book_add.l0 : ACode :=
  .loop [0, 1, 6, 7] none (.seq (.region [0, 1, 6, 7, 8] none none
     [⟨some 8, .bin .lss (.t 7) (.t 6), [], [], none, none⟩])
  (.seq (.cond (.t 8) (.skip)
    (.exit 0))
   (.seq (.block 1 [0, 1, 6, 7] none (.seq (.region [0, 1, 4, 6, 7] none none
         [⟨some 9, .mv (.t 7), [], [], none, none⟩,
          ⟨some 4, .mv (.t 9), [], [], none, none⟩])
      (.seq (.region [0, 1, 4, 6, 7, 13] none none
          [⟨some 10, .mv (.t 4), [], [], none, none⟩,
           ⟨some 11, .mv (.t 1), [], [], none, none⟩,
           ⟨some 12, .len (.t 11), [], [], none, none⟩,
           ⟨some 13, .bin .lss (.t 10) (.t 12), [], [], none, none⟩])
       (.cond (.t 13) (.region [0, 1, 6, 7] none (some ([1, 4, 5, 6, 7], .one 0 (.one 2 (.one 3 (.one 8 (.one 9 (.one 10 (.done))))))))
           [⟨some 14, .mv (.t 0), [], [], none, none⟩,
            ⟨some 15, .mv (.t 4), [], [], none, none⟩,
            ⟨some 16, .iaddr 1 (.t 14) (.t 15), [], [0, 1], none, none⟩,
            ⟨some 17, .load none (.t 16), [], [2], none, none⟩,
            ⟨some 18, .mv (.t 1), [], [], none, none⟩,
            ⟨some 19, .mv (.t 4), [], [], none, none⟩,
            ⟨some 20, .iaddr 1 (.t 18) (.t 19), [], [4, 5], none, none⟩,
            ⟨some 21, .load none (.t 20), [], [6], none, none⟩,
            ⟨some 22, .bin .add (.t 17) (.t 21), [], [3, 7], none, none⟩,
            ⟨some 23, .iaddr 1 (.t 14) (.t 15), [], [0, 1, 0, 1, 2, 3, 4, 5, 6, 7, 8], none, none⟩,
            ⟨none, .store 1 (.t 23) (.t 22), [], [9, 8, 0, 1, 2, 3, 4, 5, 6, 7, 8], none, none⟩])
        (.skip)))))
    (g_book_add.c0))))
def g_book_add.code : ACode :=
  .seq (.region [0, 1, 6, 7] none none
     [⟨some 5, .mv (.t 0), [], [], none, none⟩,
      ⟨some 6, .len (.t 5), [], [], none, none⟩,
      ⟨some 7, .mv (.c (.d (.int .i64 0))), [], [], none, none⟩])
  (.block 0 [] none (g_book_add.l0))
def g_book_add : AFn := { N := 25, res := [], own := [], frz := [], code := g_book_add.code }

/- slices.Clone[[]paymaster/api.Order,paymaster/api.Order]: function 31.  -/
def g_slices_Clone_Order.code : ACode :=
  .seq (.region [0] (some []) none
     [⟨some 2, .mv (.c (.cap0)), [], [], none, none⟩])
  (.seq (.seq (.region [0, 4] (some []) none
       [⟨some 3, .mv (.t 0), [], [], none, none⟩,
        ⟨some 4, .nilS false (.t 3), [], [], none, none⟩])
    (.cond (.t 4) (.seq (.region [2] (some [5, 7]) none
         [⟨some 2, .mv (.c (.cap0)), [], [], none, none⟩])
      (.ret))
     (.skip)))
   (.seq (.region [2] (some [5, 7]) none
       [⟨some 5, .bsl (some 5) 4 [] 0 [], [], [], none, none⟩,
        ⟨some 6, .mv (.t 0), [], [], none, none⟩,
        ⟨some 7, .app (some 7) 4 32 (.t 5) (.t 6), [], [], none, none⟩,
        ⟨some 2, .mv (.t 7), [], [], none, none⟩])
    (.ret)))
def g_slices_Clone_Order : AFn := { N := 8, res := [.slot 2], own := [(2, 7, 4)], frz := [], code := g_slices_Clone_Order.code }

/- paymaster/book.Known$1: function 32.  -/
def g_book_Known_1.code : ACode :=
  .seq (.region [1, 2] none none
     [⟨some 2, .box 2 3 (.t 0), [], [], none, none⟩])
  (.region [] none none
     [⟨some 3, .faddr 0 (.t 1), [], [], none, none⟩,
      ⟨some 4, .load none (.t 3), [], [], none, none⟩,
      ⟨some 5, .faddr 0 (.t 2), [], [], none, none⟩,
      ⟨some 6, .load none (.t 5), [], [], none, none⟩,
      ⟨some 7, .bin .add (.t 4) (.t 6), [], [], none, none⟩,
      ⟨some 8, .faddr 1 (.t 1), [], [], none, none⟩,
      ⟨some 9, .load none (.t 8), [], [], none, none⟩,
      ⟨some 10, .faddr 1 (.t 2), [], [], none, none⟩,
      ⟨some 11, .load none (.t 10), [], [], none, none⟩,
      ⟨some 12, .bin .add (.t 9) (.t 11), [], [], none, none⟩,
      ⟨some 13, .faddr 2 (.t 1), [], [], none, none⟩,
      ⟨some 14, .load none (.t 13), [], [], none, none⟩,
      ⟨some 15, .faddr 2 (.t 2), [], [], none, none⟩,
      ⟨some 16, .load none (.t 15), [], [], none, none⟩,
      ⟨some 17, .bin .add (.t 14) (.t 16), [], [], none, none⟩,
      ⟨some 18, .build [.d (.int .i64 0), .d (.int .i64 0), .d (.int .i64 0)] [(0, 1, (.t 7)), (1, 1, (.t 12)), (2, 1, (.t 17))], [], [], none, none⟩,
      ⟨none, .store 3 (.t 1) (.t 18), [], [], none, none⟩])
def g_book_Known_1 : AFn := { N := 19, res := [], own := [], frz := [], code := g_book_Known_1.code }

/- slices.IndexFunc[[]paymaster/book.Entry,paymaster/book.Entry]: function 16.  -/
def g_slices_IndexFunc_Entry.c0 : ACode :=
  .region [0, 1, 7, 8] none none
    [⟨some 18, .bin .add (.t 8) (.c (.d (.int .i64 1))), [], [], none, none⟩,
     ⟨some 8, .mv (.t 18), [], [], none, none⟩]
def g_slices_IndexFunc_Entry.l0 : ACode :=
  .loop [0, 1, 7, 8] none (.seq (.region [0, 1, 7, 8, 9] none none
     [⟨some 9, .bin .lss (.t 8) (.t 7), [], [], none, none⟩])
  (.seq (.cond (.t 9) (.skip)
    (.exit 0))
   (.seq (.block 1 [0, 1, 7, 8] none (.seq (.region [0, 1, 5, 7, 8] none none
         [⟨some 10, .mv (.t 8), [], [], none, none⟩,
          ⟨some 5, .mv (.t 10), [], [], none, none⟩])
      (.seq (.region [0, 1, 5, 7, 8, 16] none none
          [⟨some 11, .mv (.t 1), [], [], none, none⟩,
           ⟨some 12, .mv (.t 0), [], [], none, none⟩,
           ⟨some 13, .mv (.t 5), [], [], none, none⟩,
           ⟨some 14, .iaddr 22 (.t 12) (.t 13), [], [], none, none⟩,
           ⟨some 15, .load (some 22) (.t 14), [], [], none, none⟩,
           ⟨some 16, .callv (.t 11) [(.t 15)], [], [], none, none⟩])
       (.cond (.t 16) (.seq (.region [4] none none
            [⟨some 17, .mv (.t 5), [], [], none, none⟩,
             ⟨some 4, .mv (.t 17), [], [], none, none⟩])
         (.ret))
        (.skip)))))
    (g_slices_IndexFunc_Entry.c0))))
def g_slices_IndexFunc_Entry.c1 : ACode :=
  .seq (.region [4] none none
     [⟨some 4, .mv (.c (.d (.int .i64 (-1)))), [], [], none, none⟩])
  (.ret)
def g_slices_IndexFunc_Entry.code : ACode :=
  .seq (.region [0, 1] none none
     [⟨some 4, .mv (.c (.d (.int .i64 0))), [], [], none, none⟩])
  (.seq (.seq (.region [0, 1, 7, 8] none none
       [⟨some 6, .mv (.t 0), [], [], none, none⟩,
        ⟨some 7, .len (.t 6), [], [], none, none⟩,
        ⟨some 8, .mv (.c (.d (.int .i64 0))), [], [], none, none⟩])
    (.block 0 [] none (g_slices_IndexFunc_Entry.l0)))
   (g_slices_IndexFunc_Entry.c1))
def g_slices_IndexFunc_Entry : AFn := { N := 19, res := [.slot 4], own := [], frz := [], code := g_slices_IndexFunc_Entry.code }
end Pay
