/- The program's functions as abstract code. -/
import Derived.Test.YtcgeldjhobmijaaDoorPayBa1
set_option maxRecDepth 20000
namespace Pay
def g_law08_TreeParts.o1 : List AOper :=
  [⟨some 38, .pick (.t 36) (.t 37) (.c (.d (.bool false))), [], [], none, none⟩,
     ⟨some 2, .mv (.t 38), [], [], none, none⟩]
def g_law08_TreeParts.o0 : List AOper :=
  (⟨some 37, .call 143 [], [], [], (some (8, 36, true)), (some ([36, 37], (some [])))⟩ ::
     g_law08_TreeParts.o1)
def g_law08_TreeParts.c0 : ACode :=
  .ret
def g_law08_TreeParts.c1 : ACode :=
  .cond (.t 58) (.region [3, 6, 7, 9, 44, 45, 46] (some [3, 42]) none
     [⟨some 70, .faddr 3 (.t 8), [], [], none, none⟩,
      ⟨some 71, .load none (.t 70), [], [], none, none⟩,
      ⟨some 72, .faddr 4 (.t 8), [], [], none, none⟩,
      ⟨some 73, .load none (.t 72), [], [], none, none⟩,
      ⟨some 74, .bsl none 1 [] 2 [(0, (.t 71)), (1, (.t 73))], [], [], none, none⟩,
      ⟨some 9, .mv (.t 74), [], [], none, none⟩])
  (.seq (.region [3, 6, 7, 8, 9, 44, 45, 46, 75] (some [3, 8, 42]) none
      [⟨some 76, .bin .eql (.t 52) (.c (.d (.str [105, 102]))), [], [], none, none⟩,
       ⟨some 75, .mv (.t 76), [], [], none, none⟩])
   (.cond (.t 75) (.region [3, 6, 7, 9, 44, 45, 46] (some [3, 42]) none
       [⟨some 77, .faddr 3 (.t 8), [], [], none, none⟩,
        ⟨some 78, .load none (.t 77), [], [], none, none⟩,
        ⟨some 79, .faddr 4 (.t 8), [], [], none, none⟩,
        ⟨some 80, .load none (.t 79), [], [], none, none⟩,
        ⟨some 81, .faddr 5 (.t 8), [], [], none, none⟩,
        ⟨some 82, .load none (.t 81), [], [], none, none⟩,
        ⟨some 83, .bsl none 1 [] 3 [(0, (.t 78)), (1, (.t 80)), (2, (.t 82))], [], [], none, none⟩,
        ⟨some 9, .mv (.t 83), [], [], none, none⟩])
    (.skip)))
def g_law08_TreeParts.o3 : List AOper :=
  [⟨some 96, .pick (.t 92) (.c (.d (.bool true))) (.t 95), [], [], none, none⟩]
def g_law08_TreeParts.o2 : List AOper :=
  (⟨some 93, .mv (.t 11), [], [], (some (2, 92, false)), none⟩ ::
     ⟨some 94, .mv (.t 7), [], [], (some (2, 92, false)), none⟩ ::
     ⟨some 95, .bin .geq (.t 93) (.t 94), [], [], (some (2, 92, false)), (some ([3, 6, 7, 11, 44, 45, 46, 84, 85, 86, 92, 95], (some [3, 42])))⟩ ::
     g_law08_TreeParts.o3)
def g_law08_TreeParts.c2 : ACode :=
  .cond (.t 96) (.seq (.region [2] (some []) none
      [⟨some 2, .mv (.c (.d (.bool false))), [], [], none, none⟩])
   (.ret))
  (.skip)
def g_law08_TreeParts.c3 : ACode :=
  .region [3, 6, 7, 44, 45, 46, 84, 85, 86] (some [3, 42]) none
    [⟨some 97, .mv (.t 6), [], [], none, none⟩,
     ⟨some 98, .mv (.t 11), [], [], none, none⟩,
     ⟨some 99, .iaddr 1 (.t 97) (.t 98), [], [], none, none⟩,
     ⟨some 100, .load none (.t 99), [], [], none, none⟩,
     ⟨some 101, .bin .add (.t 100) (.c (.d (.int .i64 1))), [], [], none, none⟩,
     ⟨some 102, .iaddr 1 (.t 97) (.t 98), [], [], none, none⟩,
     ⟨none, .store 1 (.t 102) (.t 101), [], [], none, none⟩]
def g_law08_TreeParts.c4 : ACode :=
  .region [3, 6, 7, 44, 45, 46, 84, 85, 86] (some [3, 42]) none
    [⟨some 103, .bin .add (.t 86) (.c (.d (.int .i64 1))), [], [], none, none⟩,
     ⟨some 86, .mv (.t 103), [], [], none, none⟩]
def g_law08_TreeParts.l1 : ACode :=
  .loop [3, 6, 7, 44, 45, 46, 84, 85, 86] (some [3, 42]) (.seq (.region [3, 6, 7, 44, 45, 46, 84, 85, 86, 87] (some [3, 42]) none
     [⟨some 87, .bin .lss (.t 86) (.t 85), [], [], none, none⟩])
  (.seq (.cond (.t 87) (.skip)
    (.exit 3))
   (.seq (.block 4 [3, 6, 7, 44, 45, 46, 84, 85, 86] (some [3, 42]) (.seq (.region [3, 6, 7, 11, 44, 45, 46, 84, 85, 86] (some [3, 42]) none
         [⟨some 88, .iaddr 1 (.t 84) (.t 86), [], [], none, none⟩,
          ⟨some 89, .load none (.t 88), [], [], none, none⟩,
          ⟨some 11, .mv (.t 89), [], [], none, none⟩])
      (.seq (.seq (.region [3, 6, 7, 11, 44, 45, 46, 84, 85, 86, 96] (some [3, 42]) none
           (⟨some 90, .mv (.t 11), [], [], none, none⟩ ::
            ⟨some 91, .bin .lss (.t 90) (.c (.d (.int .i64 0))), [], [], none, none⟩ ::
            ⟨some 92, .mv (.t 91), [], [], none, (some ([3, 6, 7, 11, 44, 45, 46, 84, 85, 86, 92], (some [3, 42])))⟩ ::
            g_law08_TreeParts.o2))
        (g_law08_TreeParts.c2))
       (g_law08_TreeParts.c3))))
    (g_law08_TreeParts.c4))))
def g_law08_TreeParts.c5 : ACode :=
  .seq (.region [3, 6, 7, 44, 45, 46, 84, 85, 86] (some [3, 42]) none
     [⟨some 84, .mv (.t 9), [], [], none, none⟩,
      ⟨some 85, .len (.t 84), [], [], none, none⟩,
      ⟨some 86, .mv (.c (.d (.int .i64 0))), [], [], none, none⟩])
  (.block 3 [3, 6, 44, 45, 46] (some [3, 42]) (g_law08_TreeParts.l1))
def g_law08_TreeParts.c6 : ACode :=
  .seq (.region [3, 6, 7, 8, 9, 44, 45, 46] (some [3, 8, 42]) none
     [⟨some 9, .mv (.c (.cap0)), [], [], none, none⟩])
  (.seq (.seq (.region [3, 6, 7, 8, 9, 44, 45, 46, 52] (some [3, 8, 42]) none
       [⟨some 51, .faddr 0 (.t 8), [], [], none, none⟩,
        ⟨some 52, .load none (.t 51), [], [], none, none⟩])
    (.block 2 [3, 6, 7, 9, 44, 45, 46] (some [3, 42]) (.seq (.region [3, 6, 7, 8, 9, 44, 45, 46, 52, 53] (some [3, 8, 42]) none
         [⟨some 54, .bin .eql (.t 52) (.c (.d (.str [110, 101, 103]))), [], [], none, none⟩,
          ⟨some 53, .mv (.t 54), [], [], none, none⟩])
      (.cond (.t 53) (.region [3, 6, 7, 9, 44, 45, 46] (some [3, 42]) none
          [⟨some 55, .faddr 3 (.t 8), [], [], none, none⟩,
           ⟨some 56, .load none (.t 55), [], [], none, none⟩,
           ⟨some 57, .bsl none 1 [] 1 [(0, (.t 56))], [], [], none, none⟩,
           ⟨some 9, .mv (.t 57), [], [], none, none⟩])
       (.seq (.seq (.region [3, 6, 7, 8, 9, 44, 45, 46, 52, 58] (some [3, 8, 42]) none
            [⟨some 59, .bin .eql (.t 52) (.c (.d (.str [43]))), [], [], none, none⟩,
             ⟨some 58, .mv (.t 59), [], [], none, none⟩])
         (.cond (.t 58) (.skip)
          (.seq (.region [3, 6, 7, 8, 9, 44, 45, 46, 52, 58] (some [3, 8, 42]) none
              [⟨some 60, .bin .eql (.t 52) (.c (.d (.str [45]))), [], [], none, none⟩,
               ⟨some 58, .mv (.t 60), [], [], none, none⟩])
           (.cond (.t 58) (.skip)
            (.seq (.region [3, 6, 7, 8, 9, 44, 45, 46, 52, 58] (some [3, 8, 42]) none
                [⟨some 61, .bin .eql (.t 52) (.c (.d (.str [42]))), [], [], none, none⟩,
                 ⟨some 58, .mv (.t 61), [], [], none, none⟩])
             (.cond (.t 58) (.skip)
              (.seq (.region [3, 6, 7, 8, 9, 44, 45, 46, 52, 58] (some [3, 8, 42]) none
                  [⟨some 62, .bin .eql (.t 52) (.c (.d (.str [60]))), [], [], none, none⟩,
                   ⟨some 58, .mv (.t 62), [], [], none, none⟩])
               (.cond (.t 58) (.skip)
                (.seq (.region [3, 6, 7, 8, 9, 44, 45, 46, 52, 58] (some [3, 8, 42]) none
                    [⟨some 63, .bin .eql (.t 52) (.c (.d (.str [60, 61]))), [], [], none, none⟩,
                     ⟨some 58, .mv (.t 63), [], [], none, none⟩])
                 (.cond (.t 58) (.skip)
                  (.seq (.region [3, 6, 7, 8, 9, 44, 45, 46, 52, 58] (some [3, 8, 42]) none
                      [⟨some 64, .bin .eql (.t 52) (.c (.d (.str [61]))), [], [], none, none⟩,
                       ⟨some 58, .mv (.t 64), [], [], none, none⟩])
                   (.cond (.t 58) (.skip)
                    (.seq (.region [3, 6, 7, 8, 9, 44, 45, 46, 52, 58] (some [3, 8, 42]) none
                        [⟨some 65, .bin .eql (.t 52) (.c (.d (.str [60, 62]))), [], [], none, none⟩,
                         ⟨some 58, .mv (.t 65), [], [], none, none⟩])
                     (.cond (.t 58) (.skip)
                      (.seq (.region [3, 6, 7, 8, 9, 44, 45, 46, 52, 58] (some [3, 8, 42]) none
                          [⟨some 66, .bin .eql (.t 52) (.c (.d (.str [62]))), [], [], none, none⟩,
                           ⟨some 58, .mv (.t 66), [], [], none, none⟩])
                       (.cond (.t 58) (.skip)
                        (.seq (.region [3, 6, 7, 8, 9, 44, 45, 46, 52, 58] (some [3, 8, 42]) none
                            [⟨some 67, .bin .eql (.t 52) (.c (.d (.str [62, 61]))), [], [], none, none⟩,
                             ⟨some 58, .mv (.t 67), [], [], none, none⟩])
                         (.cond (.t 58) (.skip)
                          (.seq (.region [3, 6, 7, 8, 9, 44, 45, 46, 52, 58] (some [3, 8, 42]) none
                              [⟨some 68, .bin .eql (.t 52) (.c (.d (.str [109, 105, 110]))), [], [], none, none⟩,
                               ⟨some 58, .mv (.t 68), [], [], none, none⟩])
                           (.cond (.t 58) (.skip)
                            (.region [3, 6, 7, 8, 9, 44, 45, 46, 52, 58] (some [3, 8, 42]) none
                               [⟨some 69, .bin .eql (.t 52) (.c (.d (.str [109, 97, 120]))), [], [], none, none⟩,
                                ⟨some 58, .mv (.t 69), [], [], none, none⟩])))))))))))))))))))))
        (g_law08_TreeParts.c1))))))
   (g_law08_TreeParts.c5))
def g_law08_TreeParts.c7 : ACode :=
  .region [3, 6, 44, 45, 46] (some [3, 42]) none
    [⟨some 104, .bin .add (.t 46) (.c (.d (.int .i64 1))), [], [], none, none⟩,
     ⟨some 46, .mv (.t 104), [], [], none, none⟩]
def g_law08_TreeParts.l0 : ACode :=
  .loop [3, 6, 44, 45, 46] (some [3, 42]) (.seq (.region [3, 6, 44, 45, 46, 47] (some [3, 42]) none
     [⟨some 47, .bin .lss (.t 46) (.t 45), [], [], none, none⟩])
  (.seq (.cond (.t 47) (.skip)
    (.exit 0))
   (.seq (.block 1 [3, 6, 44, 45, 46] (some [3, 42]) (.seq (.region [3, 6, 7, 8, 44, 45, 46] (some [3, 8, 42]) none
         [⟨some 48, .mv (.t 46), [], [], none, none⟩,
          ⟨some 49, .iaddr 6 (.t 44) (.t 46), [], [], none, none⟩,
          ⟨some 50, .load (some 6) (.t 49), [], [], none, none⟩,
          ⟨some 8, .alloc 8 [.d (.str []), .d (.str []), .d (.int .i64 0), .d (.int .i64 0), .d (.int .i64 0), .d (.int .i64 0)], [], [], none, none⟩,
          ⟨some 7, .mv (.t 48), [], [], none, none⟩,
          ⟨none, .store 6 (.t 8) (.t 50), [], [], none, none⟩])
      (g_law08_TreeParts.c6)))
    (g_law08_TreeParts.c7))))
def g_law08_TreeParts.c8 : ACode :=
  .block 0 [3, 6] (some [3, 42]) (g_law08_TreeParts.l0)
def g_law08_TreeParts.o5 : List AOper :=
  [⟨some 121, .pick (.t 115) (.c (.d (.bool true))) (.t 120), [], [], none, none⟩]
def g_law08_TreeParts.o4 : List AOper :=
  (⟨some 116, .faddr 2 (.t 13), [], [], (some (3, 115, false)), none⟩ ::
     ⟨some 117, .load none (.t 116), [], [], (some (3, 115, false)), none⟩ ::
     ⟨some 118, .mv (.t 6), [], [], (some (3, 115, false)), none⟩ ::
     ⟨some 119, .len (.t 118), [], [], (some (3, 115, false)), none⟩ ::
     ⟨some 120, .bin .geq (.t 117) (.t 119), [], [], (some (3, 115, false)), (some ([6, 13, 106, 107, 108, 115, 120], (some [13, 42])))⟩ ::
     g_law08_TreeParts.o5)
def g_law08_TreeParts.c9 : ACode :=
  .cond (.t 121) (.seq (.region [2] (some []) none
      [⟨some 2, .mv (.c (.d (.bool false))), [], [], none, none⟩])
   (.ret))
  (.skip)
def g_law08_TreeParts.c10 : ACode :=
  .region [6, 106, 107, 108] (some [42]) none
    [⟨some 122, .mv (.t 6), [], [], none, none⟩,
     ⟨some 123, .faddr 2 (.t 13), [], [], none, none⟩,
     ⟨some 124, .load none (.t 123), [], [], none, none⟩,
     ⟨some 125, .iaddr 1 (.t 122) (.t 124), [], [], none, none⟩,
     ⟨some 126, .load none (.t 125), [], [], none, none⟩,
     ⟨some 127, .bin .add (.t 126) (.c (.d (.int .i64 1))), [], [], none, none⟩,
     ⟨some 128, .iaddr 1 (.t 122) (.t 124), [], [], none, none⟩,
     ⟨none, .store 1 (.t 128) (.t 127), [], [], none, none⟩]
def g_law08_TreeParts.c11 : ACode :=
  .seq (.seq (.region [6, 13, 106, 107, 108, 121] (some [13, 42]) none
      (⟨some 112, .faddr 2 (.t 13), [], [], none, none⟩ ::
       ⟨some 113, .load none (.t 112), [], [], none, none⟩ ::
       ⟨some 114, .bin .lss (.t 113) (.c (.d (.int .i64 0))), [], [], none, none⟩ ::
       ⟨some 115, .mv (.t 114), [], [], none, (some ([6, 13, 106, 107, 108, 115], (some [13, 42])))⟩ ::
       g_law08_TreeParts.o4))
   (g_law08_TreeParts.c9))
  (g_law08_TreeParts.c10)
def g_law08_TreeParts.c12 : ACode :=
  .region [6, 106, 107, 108] (some [42]) none
    [⟨some 129, .bin .add (.t 108) (.c (.d (.int .i64 1))), [], [], none, none⟩,
     ⟨some 108, .mv (.t 129), [], [], none, none⟩]
def g_law08_TreeParts.l2 : ACode :=
  .loop [6, 106, 107, 108] (some [42]) (.seq (.region [6, 106, 107, 108, 109] (some [42]) none
     [⟨some 109, .bin .lss (.t 108) (.t 107), [], [], none, none⟩])
  (.seq (.cond (.t 109) (.skip)
    (.exit 5))
   (.seq (.block 6 [6, 106, 107, 108] (some [42]) (.seq (.region [6, 13, 106, 107, 108] (some [13, 42]) none
         [⟨some 110, .iaddr 3 (.t 106) (.t 108), [], [], none, none⟩,
          ⟨some 111, .load (some 3) (.t 110), [], [], none, none⟩,
          ⟨some 13, .alloc 13 [.d (.str []), .d (.str []), .d (.int .i64 0)], [], [], none, none⟩,
          ⟨none, .store 3 (.t 13) (.t 111), [], [], none, none⟩])
      (g_law08_TreeParts.c11)))
    (g_law08_TreeParts.c12))))
def g_law08_TreeParts.c13 : ACode :=
  .block 5 [6] (some [42]) (g_law08_TreeParts.l2)
def g_law08_TreeParts.c14 : ACode :=
  .region [130, 131, 132] (some [42]) none
    [⟨some 138, .bin .add (.t 132) (.c (.d (.int .i64 1))), [], [], none, none⟩,
     ⟨some 132, .mv (.t 138), [], [], none, none⟩]
def g_law08_TreeParts.l3 : ACode :=
  .loop [130, 131, 132] (some [42]) (.seq (.region [130, 131, 132, 133] (some [42]) none
     [⟨some 133, .bin .lss (.t 132) (.t 131), [], [], none, none⟩])
  (.seq (.cond (.t 133) (.skip)
    (.exit 7))
   (.seq (.block 8 [130, 131, 132] (some [42]) (.seq (.region [15, 130, 131, 132] (some [42]) none
         [⟨some 134, .iaddr 1 (.t 130) (.t 132), [], [], none, none⟩,
          ⟨some 135, .load none (.t 134), [], [], none, none⟩,
          ⟨some 15, .mv (.t 135), [], [], none, none⟩])
      (.seq (.region [130, 131, 132, 137] (some [42]) none
          [⟨some 136, .mv (.t 15), [], [], none, none⟩,
           ⟨some 137, .bin .neq (.t 136) (.c (.d (.int .i64 1))), [], [], none, none⟩])
       (.cond (.t 137) (.seq (.region [2] (some []) none
            [⟨some 2, .mv (.c (.d (.bool false))), [], [], none, none⟩])
         (.ret))
        (.skip)))))
    (g_law08_TreeParts.c14))))
def g_law08_TreeParts.c15 : ACode :=
  .seq (.region [2] (some []) none
     [⟨some 139, .call 143 [], [], [], none, none⟩,
      ⟨some 2, .mv (.t 139), [], [], none, none⟩])
  (.ret)
def g_law08_TreeParts.c16 : ACode :=
  .seq (.seq (.region [130, 131, 132] (some [42]) none
      [⟨some 130, .mv (.t 6), [], [], none, none⟩,
       ⟨some 131, .len (.t 130), [], [], none, none⟩,
       ⟨some 132, .mv (.c (.d (.int .i64 0))), [], [], none, none⟩])
   (.block 7 [] (some []) (g_law08_TreeParts.l3)))
  (g_law08_TreeParts.c15)
def g_law08_TreeParts.c17 : ACode :=
  .seq (.seq (.region [6, 106, 107, 108] (some [42]) none
      [⟨some 105, .faddr 0 (.t 3), [], [], none, none⟩,
       ⟨some 106, .load none (.t 105), [], [], none, none⟩,
       ⟨some 107, .len (.t 106), [], [], none, none⟩,
       ⟨some 108, .mv (.c (.d (.int .i64 0))), [], [], none, none⟩])
   (g_law08_TreeParts.c13))
  (g_law08_TreeParts.c16)
def g_law08_TreeParts.c18 : ACode :=
  .seq (.seq (.region [3, 6, 44, 45, 46] (some [3, 42]) none
      [⟨some 43, .faddr 1 (.t 3), [], [], none, none⟩,
       ⟨some 44, .load none (.t 43), [], [], none, none⟩,
       ⟨some 45, .len (.t 44), [], [], none, none⟩,
       ⟨some 46, .mv (.c (.d (.int .i64 0))), [], [], none, none⟩])
   (g_law08_TreeParts.c8))
  (g_law08_TreeParts.c17)
def g_law08_TreeParts.c19 : ACode :=
  .seq (.region [3, 6] (some [3, 42]) none
     [⟨some 39, .faddr 1 (.t 3), [], [], none, none⟩,
      ⟨some 40, .load none (.t 39), [], [], none, none⟩,
      ⟨some 41, .len (.t 40), [], [], none, none⟩,
      ⟨some 42, .mks (some 42) 1 8 [(.int .i64 0)] (.t 41), [], [], none, none⟩,
      ⟨some 6, .mv (.t 42), [], [], none, none⟩])
  (g_law08_TreeParts.c18)
def g_law08_TreeParts.c20 : ACode :=
  .seq (.seq (.region [3, 27] (some [3]) none
      [⟨some 26, .mv (.t 5), [], [], none, none⟩,
       ⟨some 27, .bin .neq (.t 26) (.c (.d (.int .i64 0))), [], [], none, none⟩])
   (.cond (.t 27) (.seq (.region [2] (some []) none
        (⟨some 28, .faddr 0 (.t 3), [], [], none, none⟩ ::
         ⟨some 29, .load none (.t 28), [], [], none, none⟩ ::
         ⟨some 30, .len (.t 29), [], [], none, none⟩ ::
         ⟨some 31, .faddr 1 (.t 3), [], [], none, none⟩ ::
         ⟨some 32, .load none (.t 31), [], [], none, none⟩ ::
         ⟨some 33, .len (.t 32), [], [], none, none⟩ ::
         ⟨some 34, .bin .add (.t 30) (.t 33), [], [], none, none⟩ ::
         ⟨some 35, .bin .eql (.t 34) (.c (.d (.int .i64 0))), [], [], none, none⟩ ::
         ⟨some 36, .mv (.t 35), [], [], none, (some ([36], (some [])))⟩ ::
         g_law08_TreeParts.o0))
     (g_law08_TreeParts.c0))
    (.skip)))
  (g_law08_TreeParts.c19)
def g_law08_TreeParts.c21 : ACode :=
  .seq (.region [3, 5] (some [3]) none
     [⟨some 21, .mv (.t 0), [], [], none, none⟩,
      ⟨some 22, .call 144 [(.t 21)], [], [], none, none⟩,
      ⟨some 20, .mv (.t 22), [], [], none, none⟩,
      ⟨some 23, .ext (.t 20) 0, [], [], none, none⟩,
      ⟨some 24, .ext (.t 20) 1, [], [], none, none⟩,
      ⟨some 25, .ext (.t 20) 2, [], [], none, none⟩,
      ⟨some 3, .alloc 3 [.cap0, .cap0], [], [], none, none⟩,
      ⟨none, .store 2 (.t 3) (.t 23), [], [], none, none⟩,
      ⟨some 4, .mv (.t 24), [], [], none, none⟩,
      ⟨some 5, .mv (.t 25), [], [], none, none⟩])
  (g_law08_TreeParts.c20)
def g_law08_TreeParts.code : ACode :=
  .seq (.region [0] (some []) none
     [⟨some 2, .mv (.c (.d (.bool false))), [], [], none, none⟩])
  (.seq (.seq (.region [0, 18] (some []) none
       [⟨some 16, .mv (.t 0), [], [], none, none⟩,
        ⟨some 17, .lenS (.t 16), [], [], none, none⟩,
        ⟨some 18, .bin .gtr (.t 17) (.c (.d (.int .i64 600))), [], [], none, none⟩])
    (.cond (.t 18) (.seq (.region [2] (some []) none
         [⟨some 19, .call 143 [], [], [], none, none⟩,
          ⟨some 2, .mv (.t 19), [], [], none, none⟩])
      (.ret))
     (.skip)))
   (g_law08_TreeParts.c21))
def g_law08_TreeParts : AFn := { N := 140, res := [.slot 2], own := [], frz := [], code := g_law08_TreeParts.code }

end Pay
