/- The program's functions as abstract code. -/
import Derived.Test.YtmglkghngkbioaaGreatDoorPayBa1
set_option maxRecDepth 20000
namespace Pay
def g_law09_ShowExprs.o1 : List AOper :=
  [oo 32 (.pick (.t 27) (.c (.d (.bool true))) (.t 31))]
def g_law09_ShowExprs.o0F (R_o1 : List AOper) : List AOper :=
  (og 28 (.faddr 1 (.t 5)) (2, 27, false) ::
    og 29 (.load none (.t 28)) (2, 27, false) ::
    og 30 (.len (.t 29)) (2, 27, false) ::
    ow 31 (.bin .eql (.t 30) (.c (.d (.int .i64 0)))) (2, 27, false) [1, 5, 27, 31] [5] ::
    R_o1)
def g_law09_ShowExprs.o0 : List AOper := g_law09_ShowExprs.o0F g_law09_ShowExprs.o1
def g_law09_ShowExprs.o3 : List AOper :=
  [oo 39 (.pick (.t 37) (.t 38) (.c (.d (.bool false)))),
    om 4 39]
def g_law09_ShowExprs.o2F (R_o3 : List AOper) : List AOper :=
  (ow 38 (.call 172 []) (4, 37, true) [37, 38] [] ::
    R_o3)
def g_law09_ShowExprs.o2 : List AOper := g_law09_ShowExprs.o2F g_law09_ShowExprs.o3
def g_law09_ShowExprs.c0 : ACode :=
  .ret
def g_law09_ShowExprs.c1F (R_o2 : List AOper) (R_c0 : ACode) : ACode :=
  .cond (.t 32) (.seq (.region [4] (some []) none
     (oo 33 (.faddr 1 (.t 5)) ::
      oo 34 (.load none (.t 33)) ::
      oo 35 (.len (.t 34)) ::
      oo 36 (.bin .eql (.t 35) (.c (.d (.int .i64 0)))) ::
      oz 37 (.mv (.t 36)) [37] [] ::
      R_o2))
  (R_c0))
 (.skip)
def g_law09_ShowExprs.c1 : ACode := g_law09_ShowExprs.c1F g_law09_ShowExprs.o2 g_law09_ShowExprs.c0
def g_law09_ShowExprs.o15 : List AOper :=
  [oo 100 (.pick (.t 98) (.t 99) (.c (.d (.bool false)))),
    om 4 100]
def g_law09_ShowExprs.o14F (R_o15 : List AOper) : List AOper :=
  (ow 99 (.call 172 []) (30, 98, true) [98, 99] [] ::
    R_o15)
def g_law09_ShowExprs.o14 : List AOper := g_law09_ShowExprs.o14F g_law09_ShowExprs.o15
def g_law09_ShowExprs.o13F (R_o14 : List AOper) : List AOper :=
  (oo 97 (.pick (.t 89) (.t 96) (.c (.d (.bool false)))) ::
    oz 98 (.mv (.t 97)) [98] [] ::
    R_o14)
def g_law09_ShowExprs.o13 : List AOper := g_law09_ShowExprs.o13F g_law09_ShowExprs.o14
def g_law09_ShowExprs.o12F (R_o13 : List AOper) : List AOper :=
  (og 90 (.faddr 1 (.t 10)) (21, 89, true) ::
    og 91 (.load none (.t 90)) (21, 89, true) ::
    og 92 (.len (.t 91)) (21, 89, true) ::
    og 93 (.faddr 1 (.t 5)) (21, 89, true) ::
    og 94 (.load none (.t 93)) (21, 89, true) ::
    og 95 (.len (.t 94)) (21, 89, true) ::
    ow 96 (.bin .leq (.t 92) (.t 95)) (21, 89, true) [89, 96] [] ::
    R_o13)
def g_law09_ShowExprs.o12 : List AOper := g_law09_ShowExprs.o12F g_law09_ShowExprs.o13
def g_law09_ShowExprs.o11F (R_o12 : List AOper) : List AOper :=
  (oo 88 (.pick (.t 83) (.t 87) (.c (.d (.bool false)))) ::
    oz 89 (.mv (.t 88)) [5, 10, 89] [5, 10] ::
    R_o12)
def g_law09_ShowExprs.o11 : List AOper := g_law09_ShowExprs.o11F g_law09_ShowExprs.o12
def g_law09_ShowExprs.o10F (R_o11 : List AOper) : List AOper :=
  (og 84 (.faddr 0 (.t 10)) (15, 83, true) ::
    og 85 (.load none (.t 84)) (15, 83, true) ::
    og 86 (.len (.t 85)) (15, 83, true) ::
    ow 87 (.bin .eql (.t 86) (.c (.d (.int .i64 1)))) (15, 83, true) [5, 10, 83, 87] [5, 10] ::
    R_o11)
def g_law09_ShowExprs.o10 : List AOper := g_law09_ShowExprs.o10F g_law09_ShowExprs.o11
def g_law09_ShowExprs.o9F (R_o10 : List AOper) : List AOper :=
  (oo 82 (.pick (.t 78) (.t 81) (.c (.d (.bool false)))) ::
    oz 83 (.mv (.t 82)) [5, 10, 83] [5, 10] ::
    R_o10)
def g_law09_ShowExprs.o9 : List AOper := g_law09_ShowExprs.o9F g_law09_ShowExprs.o10
def g_law09_ShowExprs.o8F (R_o9 : List AOper) : List AOper :=
  (og 79 (.mv (.t 13)) (10, 78, true) ::
    og 80 (.mv (.t 8)) (10, 78, true) ::
    ow 81 (.bin .eql (.t 79) (.t 80)) (10, 78, true) [5, 10, 78, 81] [5, 10] ::
    R_o9)
def g_law09_ShowExprs.o8 : List AOper := g_law09_ShowExprs.o8F g_law09_ShowExprs.o9
def g_law09_ShowExprs.o7F (R_o8 : List AOper) : List AOper :=
  (oo 77 (.pick (.t 74) (.t 76) (.c (.d (.bool false)))) ::
    oz 78 (.mv (.t 77)) [5, 8, 10, 13, 78] [5, 10] ::
    R_o8)
def g_law09_ShowExprs.o7 : List AOper := g_law09_ShowExprs.o7F g_law09_ShowExprs.o8
def g_law09_ShowExprs.o6F (R_o7 : List AOper) : List AOper :=
  (og 75 (.mv (.t 14)) (6, 74, true) ::
    ow 76 (.bin .eql (.t 75) (.c (.d (.int .i64 0)))) (6, 74, true) [5, 8, 10, 13, 74, 76] [5, 10] ::
    R_o7)
def g_law09_ShowExprs.o6 : List AOper := g_law09_ShowExprs.o6F g_law09_ShowExprs.o7
def g_law09_ShowExprs.o5F (R_o6 : List AOper) : List AOper :=
  (oo 73 (.pick (.t 70) (.t 72) (.c (.d (.bool false)))) ::
    oz 74 (.mv (.t 73)) [5, 8, 10, 13, 14, 74] [5, 10] ::
    R_o6)
def g_law09_ShowExprs.o5 : List AOper := g_law09_ShowExprs.o5F g_law09_ShowExprs.o6
def g_law09_ShowExprs.o4F (R_o5 : List AOper) : List AOper :=
  (og 71 (.mv (.t 12)) (2, 70, true) ::
    ow 72 (.bin .eql (.t 71) (.c (.d (.int .i64 0)))) (2, 70, true) [5, 8, 10, 13, 14, 70, 72] [5, 10] ::
    R_o5)
def g_law09_ShowExprs.o4 : List AOper := g_law09_ShowExprs.o4F g_law09_ShowExprs.o5
def g_law09_ShowExprs.c2 : ACode :=
  .ret
def g_law09_ShowExprs.c3F (R_o4 : List AOper) (R_c2 : ACode) : ACode :=
  .seq (.region [4] (some []) none
    (om 68 9 ::
     oo 69 (.bin .eql (.t 68) (.c (.d (.int .i64 0)))) ::
     oz 70 (.mv (.t 69)) [5, 8, 10, 12, 13, 14, 70] [5, 10] ::
     R_o4))
 (R_c2)
def g_law09_ShowExprs.c3 : ACode := g_law09_ShowExprs.c3F g_law09_ShowExprs.o4 g_law09_ShowExprs.c2
def g_law09_ShowExprs.c4F (R_c3 : ACode) : ACode :=
  .seq (.region [5, 8, 9, 10, 12, 13, 14] (some [5, 10]) none
    [oo 60 (.load (some 2) (.t 10)),
     oo 61 (.faddr 1 (.t 10)),
     oo 62 (.load none (.t 61)),
     oo 63 (.len (.t 62)),
     oo 64 (.bin .sub (.t 63) (.c (.d (.int .i64 1)))),
     oo 65 (.call 175 [(.t 60), (.t 64)]),
     om 59 65,
     oo 66 (.ext (.t 59) 0),
     oo 67 (.ext (.t 59) 1),
     om 13 66,
     om 14 67])
 (R_c3)
def g_law09_ShowExprs.c4 : ACode := g_law09_ShowExprs.c4F g_law09_ShowExprs.c3
def g_law09_ShowExprs.c5F (R_c4 : ACode) : ACode :=
  .seq (.region [5, 8, 9, 10, 12] (some [5, 10]) none
    [om 52 8,
     oo 53 (.bin .add (.c (.d (.str [108, 101, 116, 32, 120, 32, 61, 32]))) (.t 52)),
     oo 54 (.bin .add (.t 53) (.c (.d (.str [59])))),
     oo 55 (.call 144 [(.t 54)]),
     om 51 55,
     oo 56 (.ext (.t 51) 0),
     oo 57 (.ext (.t 51) 1),
     oo 58 (.ext (.t 51) 2),
     oo 10 (.alloc 10 [.cap0, .cap0]),
     ⟨none, .store 2 (.t 10) (.t 56), [], [], none, none⟩,
     om 11 57,
     om 12 58])
 (R_c4)
def g_law09_ShowExprs.c5 : ACode := g_law09_ShowExprs.c5F g_law09_ShowExprs.c4
def g_law09_ShowExprs.c6F (R_c5 : ACode) : ACode :=
  .seq (.region [5, 8, 9] (some [5]) (some ([0, 1, 2, 3, 4, 5, 6, 7, 8, 9, 10, 11, 12], .done))
    [oo 41 (.load (some 2) (.t 5)),
     om 42 1,
     ⟨some 43, .conv .i64 (.t 42), [], [1], none, none⟩,
     oo 44 (.faddr 1 (.t 5)),
     ⟨some 45, .load none (.t 44), [], [3], none, none⟩,
     ⟨some 46, .len (.t 45), [], [4], none, none⟩,
     ⟨some 47, .bin .rem (.t 43) (.t 46), [], [2, 5], none, none⟩,
     ⟨some 48, .call 175 [(.t 41), (.t 47)], [], [0, 6], none, none⟩,
     ⟨some 40, .mv (.t 48), [], [7], none, none⟩,
     ⟨some 49, .ext (.t 40) 0, [], [8], none, none⟩,
     ⟨some 50, .ext (.t 40) 1, [], [8], none, none⟩,
     ⟨some 8, .mv (.t 49), [], [9, 7, 0, 1, 2, 3, 4, 5, 6, 7, 8, 9], none, none⟩,
     ⟨some 9, .mv (.t 50), [], [10, 11, 0, 1, 2, 3, 4, 5, 6, 7, 8, 9, 10, 11], none, none⟩])
 (R_c5)
def g_law09_ShowExprs.c6 : ACode := g_law09_ShowExprs.c6F g_law09_ShowExprs.c5
def g_law09_ShowExprs.c7F (R_o0 : List AOper) (R_c1 : ACode) (R_c6 : ACode) : ACode :=
  .seq (.seq (.region [1, 5, 32] (some [5]) none
     (om 25 7 ::
      oo 26 (.bin .neq (.t 25) (.c (.d (.int .i64 0)))) ::
      oz 27 (.mv (.t 26)) [1, 5, 27] [5] ::
      R_o0))
  (R_c1))
 (R_c6)
def g_law09_ShowExprs.c7 : ACode := g_law09_ShowExprs.c7F g_law09_ShowExprs.o0 g_law09_ShowExprs.c1 g_law09_ShowExprs.c6
def g_law09_ShowExprs.c8F (R_c7 : ACode) : ACode :=
  .seq (.region [1, 5, 7] (some [5]) none
    [om 20 0,
     oo 21 (.call 144 [(.t 20)]),
     om 19 21,
     oo 22 (.ext (.t 19) 0),
     oo 23 (.ext (.t 19) 1),
     oo 24 (.ext (.t 19) 2),
     oo 5 (.alloc 5 [.cap0, .cap0]),
     ⟨none, .store 2 (.t 5) (.t 22), [], [], none, none⟩,
     om 6 23,
     om 7 24])
 (R_c7)
def g_law09_ShowExprs.c8 : ACode := g_law09_ShowExprs.c8F g_law09_ShowExprs.c7
def g_law09_ShowExprs.codeF (R_c8 : ACode) : ACode :=
  .seq (.region [0, 1] (some []) none
    [oo 4 (.mv (.c (.d (.bool false))))])
 (.seq (.seq (.region [0, 1, 17] (some []) none
      [om 15 0,
       oo 16 (.lenS (.t 15)),
       oo 17 (.bin .gtr (.t 16) (.c (.d (.int .i64 400))))])
   (.cond (.t 17) (.seq (.region [4] (some []) none
        [oo 18 (.call 172 []),
         om 4 18])
     (.ret))
    (.skip)))
  (R_c8))
def g_law09_ShowExprs.code : ACode := g_law09_ShowExprs.codeF g_law09_ShowExprs.c8
def g_law09_ShowExprs : AFn := { N := 101, res := [.slot 4], own := [], frz := [], code := g_law09_ShowExprs.code }

end Pay
