/- The program's functions as abstract code. -/
import Derived.Test.YtmglkghngkbioaaGreatDoorPayBa1
set_option maxRecDepth 20000
namespace Pay
def g_law10_CheckKinds.o3 : List AOper :=
  [oo 27 (.pick (.t 23) (.c (.d (.bool true))) (.t 26))]
def g_law10_CheckKinds.o2F (R_o3 : List AOper) : List AOper :=
  (og 24 (.mv (.t 2)) (10, 23, false) ::
    og 25 (.len (.t 24)) (10, 23, false) ::
    ow 26 (.bin .gtr (.t 25) (.c (.d (.int .i64 60)))) (10, 23, false) [1, 2, 3, 23, 26] [3] ::
    R_o3)
def g_law10_CheckKinds.o2 : List AOper := g_law10_CheckKinds.o2F g_law10_CheckKinds.o3
def g_law10_CheckKinds.o1F (R_o2 : List AOper) : List AOper :=
  (oo 22 (.pick (.t 17) (.c (.d (.bool true))) (.t 21)) ::
    oz 23 (.mv (.t 22)) [1, 2, 3, 23] [3] ::
    R_o2)
def g_law10_CheckKinds.o1 : List AOper := g_law10_CheckKinds.o1F g_law10_CheckKinds.o2
def g_law10_CheckKinds.o0F (R_o1 : List AOper) : List AOper :=
  (og 18 (.load (some 2) (.t 3)) (4, 17, false) ::
    og 19 (.call 160 [(.t 18)]) (4, 17, false) ::
    og 20 (.call 161 [(.t 19)]) (4, 17, false) ::
    ow 21 (.un .not (.t 20)) (4, 17, false) [1, 2, 3, 17, 21] [3] ::
    R_o1)
def g_law10_CheckKinds.o0 : List AOper := g_law10_CheckKinds.o0F g_law10_CheckKinds.o1
def g_law10_CheckKinds.c0 : ACode :=
  .cond (.t 27) (.seq (.region [6] (some []) none
     [oo 28 (.call 162 []),
      om 6 28])
  (.ret))
 (.skip)
def g_law10_CheckKinds.o9 : List AOper :=
  [oo 62 (.pick (.t 60) (.t 61) (.c (.d (.bool false)))),
    om 6 62]
def g_law10_CheckKinds.o8F (R_o9 : List AOper) : List AOper :=
  (ow 61 (.call 162 []) (13, 60, true) [60, 61] [] ::
    R_o9)
def g_law10_CheckKinds.o8 : List AOper := g_law10_CheckKinds.o8F g_law10_CheckKinds.o9
def g_law10_CheckKinds.o7F (R_o8 : List AOper) : List AOper :=
  (oo 59 (.pick (.t 55) (.t 58) (.c (.d (.bool false)))) ::
    oz 60 (.mv (.t 59)) [60] [] ::
    R_o8)
def g_law10_CheckKinds.o7 : List AOper := g_law10_CheckKinds.o7F g_law10_CheckKinds.o8
def g_law10_CheckKinds.o6F (R_o7 : List AOper) : List AOper :=
  (og 56 (.mv (.t 9)) (8, 55, true) ::
    og 57 (.mv (.t 12)) (8, 55, true) ::
    ow 58 (.bin .eql (.t 56) (.t 57)) (8, 55, true) [55, 58] [] ::
    R_o7)
def g_law10_CheckKinds.o6 : List AOper := g_law10_CheckKinds.o6F g_law10_CheckKinds.o7
def g_law10_CheckKinds.o5F (R_o6 : List AOper) : List AOper :=
  (oo 54 (.pick (.t 50) (.t 53) (.c (.d (.bool false)))) ::
    oz 55 (.mv (.t 54)) [9, 12, 55] [] ::
    R_o6)
def g_law10_CheckKinds.o5 : List AOper := g_law10_CheckKinds.o5F g_law10_CheckKinds.o6
def g_law10_CheckKinds.o4F (R_o5 : List AOper) : List AOper :=
  (og 51 (.mv (.t 8)) (3, 50, true) ::
    og 52 (.mv (.t 11)) (3, 50, true) ::
    ow 53 (.bin .eql (.t 51) (.t 52)) (3, 50, true) [9, 12, 50, 53] [] ::
    R_o5)
def g_law10_CheckKinds.o4 : List AOper := g_law10_CheckKinds.o4F g_law10_CheckKinds.o5
def g_law10_CheckKinds.c1 : ACode :=
  .ret
def g_law10_CheckKinds.c2F (R_o4 : List AOper) (R_c1 : ACode) : ACode :=
  .seq (.region [6] (some []) none
    (om 47 7 ::
     om 48 10 ::
     oo 49 (.bin .eql (.t 47) (.t 48)) ::
     oz 50 (.mv (.t 49)) [8, 9, 11, 12, 50] [] ::
     R_o4))
 (R_c1)
def g_law10_CheckKinds.c2 : ACode := g_law10_CheckKinds.c2F g_law10_CheckKinds.o4 g_law10_CheckKinds.c1
def g_law10_CheckKinds.c3F (R_c2 : ACode) : ACode :=
  .seq (.region [7, 8, 9, 10, 11, 12] (some []) none
    [oo 38 (.load (some 2) (.t 3)),
     oo 39 (.call 160 [(.t 38)]),
     om 40 1,
     om 41 2,
     oo 42 (.call 164 [(.t 41)]),
     oo 43 (.call 165 [(.t 39), (.t 40), (.t 42)]),
     om 37 43,
     oo 44 (.ext (.t 37) 0),
     oo 45 (.ext (.t 37) 1),
     oo 46 (.ext (.t 37) 2),
     om 10 44,
     om 11 45,
     om 12 46])
 (R_c2)
def g_law10_CheckKinds.c3 : ACode := g_law10_CheckKinds.c3F g_law10_CheckKinds.c2
def g_law10_CheckKinds.c4F (R_c3 : ACode) : ACode :=
  .seq (.region [1, 2, 3, 7, 8, 9] (some [3]) none
    [oo 30 (.load (some 2) (.t 3)),
     om 31 1,
     om 32 2,
     oo 33 (.call 163 [(.t 30), (.t 31), (.t 32)]),
     om 29 33,
     oo 34 (.ext (.t 29) 0),
     oo 35 (.ext (.t 29) 1),
     oo 36 (.ext (.t 29) 2),
     om 7 34,
     om 8 35,
     om 9 36])
 (R_c3)
def g_law10_CheckKinds.c4 : ACode := g_law10_CheckKinds.c4F g_law10_CheckKinds.c3
def g_law10_CheckKinds.codeF (R_o0 : List AOper) (R_c0 : ACode) (R_c4 : ACode) : ACode :=
  .seq (.region [1, 2, 3] (some [3]) none
    [oo 3 (.box 3 2 (.t 0)),
     oo 6 (.mv (.c (.d (.bool false))))])
 (.seq (.seq (.region [1, 2, 3, 27] (some [3]) none
      (oo 13 (.faddr 1 (.t 3)) ::
       oo 14 (.load none (.t 13)) ::
       oo 15 (.len (.t 14)) ::
       oo 16 (.bin .gtr (.t 15) (.c (.d (.int .i64 300)))) ::
       oz 17 (.mv (.t 16)) [1, 2, 3, 17] [3] ::
       R_o0))
   (R_c0))
  (R_c4))
def g_law10_CheckKinds.code : ACode := g_law10_CheckKinds.codeF g_law10_CheckKinds.o0 g_law10_CheckKinds.c0 g_law10_CheckKinds.c4
def g_law10_CheckKinds : AFn := { N := 63, res := [.slot 6], own := [], frz := [], code := g_law10_CheckKinds.code }
def g_ref10_Kind.c0 : ACode :=
  .region [1, 2, 3, 9, 11, 12, 13, 14, 15] (some [3, 13, 14, 26]) none
   [om 47 15,
    oo 48 (.bin .add (.t 47) (.c (.d (.int .i64 1)))),
    om 15 48]
def g_ref10_Kind.c1F (R_c0 : ACode) : ACode :=
  .seq (.block 3 [1, 2, 3, 9, 11, 12, 13, 14, 15] (some [3, 13, 14, 26]) (.region [1, 2, 3, 9, 11, 12, 13, 14, 15] (some [3, 13, 14, 26]) none
     [om 49 15,
      om 50 11,
      oo 51 (.load (some 6) (.t 13)),
      om 52 15,
      oo 53 (.call 190 [(.t 51), (.t 52)]),
      oo 54 (.iaddr 1 (.t 50) (.t 53)),
      oo 55 (.load none (.t 54)),
      oo 56 (.iaddrA 3 1 (.t 14) (.t 49)),
      ⟨none, .store 1 (.t 56) (.t 55), [], [], none, none⟩]))
 (R_c0)
def g_ref10_Kind.c1 : ACode := g_ref10_Kind.c1F g_ref10_Kind.c0
def g_ref10_Kind.l1F (R_c1 : ACode) : ACode :=
  .loop [1, 2, 3, 9, 11, 12, 13, 14, 15] (some [3, 13, 14, 26]) (.seq (.seq (.region [1, 2, 3, 9, 11, 12, 13, 14, 15, 46] (some [3, 13, 14, 26]) none
     [om 42 15,
      oo 43 (.faddr 0 (.t 13)),
      oo 44 (.load none (.t 43)),
      oo 45 (.call 189 [(.t 44)]),
      oo 46 (.bin .lss (.t 42) (.t 45))])
  (.cond (.t 46) (.skip)
   (.exit 2)))
 (R_c1))
def g_ref10_Kind.l1 : ACode := g_ref10_Kind.l1F g_ref10_Kind.c1
def g_ref10_Kind.o1 : List AOper :=
  [oo 83 (.pick (.t 77) (.t 82) (.c (.d (.bool false))))]
def g_ref10_Kind.o0F (R_o1 : List AOper) : List AOper :=
  (og 78 (.mv (.t 2)) (3, 77, true) ::
    og 79 (.faddr 1 (.t 13)) (3, 77, true) ::
    og 80 (.load none (.t 79)) (3, 77, true) ::
    og 81 (.call 192 [(.t 78), (.t 80)]) (3, 77, true) ::
    ow 82 (.bin .lss (.t 81) (.c (.d (.int .i64 0)))) (3, 77, true) [12, 77, 82] [] ::
    R_o1)
def g_ref10_Kind.o0 : List AOper := g_ref10_Kind.o0F g_ref10_Kind.o1
def g_ref10_Kind.c2 : ACode :=
  .cond (.t 83) (.seq (.region [6, 7, 8] (some []) none
     [om 84 12,
      oo 6 (.mv (.c (.d (.int .i64 0)))),
      om 7 84,
      oo 8 (.mv (.c (.d (.int .i64 5))))])
  (.ret))
 (.skip)
def g_ref10_Kind.c3 : ACode :=
  .seq (.region [6, 7, 8] (some []) none
    [om 85 12,
     oo 6 (.mv (.c (.d (.int .i64 0)))),
     om 7 85,
     oo 8 (.mv (.c (.d (.int .i64 7))))])
 (.ret)
def g_ref10_Kind.c4F (R_o0 : List AOper) (R_c2 : ACode) (R_c3 : ACode) : ACode :=
  .seq (.region [1, 2, 3, 9, 11, 12, 13, 73] (some [3, 13, 26]) none
    [om 69 11,
     om 70 12,
     oo 71 (.iaddr 1 (.t 69) (.t 70)),
     oo 72 (.load none (.t 71)),
     oo 73 (.bin .eql (.t 72) (.c (.d (.int .i64 0))))])
 (.cond (.t 73) (.seq (.seq (.region [12, 83] (some []) none
       (oo 74 (.faddr 0 (.t 13)) ::
        oo 75 (.load none (.t 74)) ::
        oo 76 (.bin .eql (.t 75) (.c (.d (.str [110, 97, 109, 101])))) ::
        oz 77 (.mv (.t 76)) [2, 12, 13, 77] [13] ::
        R_o0))
    (R_c2))
   (R_c3))
  (.skip))
def g_ref10_Kind.c4 : ACode := g_ref10_Kind.c4F g_ref10_Kind.o0 g_ref10_Kind.c2 g_ref10_Kind.c3
def g_ref10_Kind.c5F (R_c4 : ACode) : ACode :=
  .seq (.region [1, 2, 3, 9, 11, 12, 13] (some [3, 13, 26]) none
    [om 57 11,
     om 58 12,
     oo 59 (.load (some 6) (.t 13)),
     oo 60 (.iaddrA 3 1 (.t 14) (.c (.d (.int .i64 0)))),
     oo 61 (.load none (.t 60)),
     oo 62 (.iaddrA 3 1 (.t 14) (.c (.d (.int .i64 1)))),
     oo 63 (.load none (.t 62)),
     oo 64 (.iaddrA 3 1 (.t 14) (.c (.d (.int .i64 2)))),
     oo 65 (.load none (.t 64)),
     om 66 2,
     oo 67 (.call 191 [(.t 59), (.t 61), (.t 63), (.t 65), (.t 66)]),
     oo 68 (.iaddr 1 (.t 57) (.t 58)),
     ⟨none, .store 1 (.t 68) (.t 67), [], [], none, none⟩])
 (R_c4)
def g_ref10_Kind.c5 : ACode := g_ref10_Kind.c5F g_ref10_Kind.c4
def g_ref10_Kind.c6F (R_l1 : ACode) (R_c5 : ACode) : ACode :=
  .seq (.region [1, 2, 3, 9, 11, 12, 13, 14] (some [3, 13, 14, 26]) none
    [oo 14 (.alloc 14 [.d (.int .i64 0), .d (.int .i64 0), .d (.int .i64 0)])])
 (.seq (.seq (.region [1, 2, 3, 9, 11, 12, 13, 14, 15] (some [3, 13, 14, 26]) none
      [oo 15 (.mv (.c (.d (.int .i64 0))))])
   (.block 2 [1, 2, 3, 9, 11, 12, 13, 14] (some [3, 13, 14, 26]) (R_l1)))
  (R_c5))
def g_ref10_Kind.c6 : ACode := g_ref10_Kind.c6F g_ref10_Kind.l1 g_ref10_Kind.c5
def g_ref10_Kind.c7F (R_c6 : ACode) : ACode :=
  .seq (.region [1, 2, 3, 9, 11, 12, 13] (some [3, 13, 26]) none
    [oo 37 (.faddr 1 (.t 3)),
     oo 38 (.load none (.t 37)),
     om 39 12,
     oo 40 (.iaddr 6 (.t 38) (.t 39)),
     oo 41 (.load (some 6) (.t 40)),
     oo 13 (.alloc 13 [.d (.str []), .d (.str []), .d (.int .i64 0), .d (.int .i64 0), .d (.int .i64 0), .d (.int .i64 0)]),
     ⟨none, .store 6 (.t 13) (.t 41), [], [], none, none⟩])
 (R_c6)
def g_ref10_Kind.c7 : ACode := g_ref10_Kind.c7F g_ref10_Kind.c6
def g_ref10_Kind.c8 : ACode :=
  .region [1, 2, 3, 9, 11, 12] (some [3, 26]) none
   [om 30 12,
    oo 31 (.bin .add (.t 30) (.c (.d (.int .i64 1)))),
    om 12 31]
def g_ref10_Kind.l0F (R_c7 : ACode) (R_c8 : ACode) : ACode :=
  .loop [1, 2, 3, 9, 11, 12] (some [3, 26]) (.seq (.seq (.region [1, 2, 3, 9, 11, 12, 29] (some [3, 26]) none
     [om 27 12,
      om 28 1,
      oo 29 (.bin .leq (.t 27) (.t 28))])
  (.cond (.t 29) (.skip)
   (.exit 0)))
 (.seq (.block 1 [1, 2, 3, 9, 11, 12] (some [3, 26]) (.seq (.seq (.region [1, 2, 3, 9, 11, 12, 36] (some [3, 26]) none
        [om 32 9,
         om 33 12,
         oo 34 (.iaddr 1 (.t 32) (.t 33)),
         oo 35 (.load none (.t 34)),
         oo 36 (.un .not (.t 35))])
     (.cond (.t 36) (.exit 1)
      (.skip)))
    (R_c7)))
  (R_c8)))
def g_ref10_Kind.l0 : ACode := g_ref10_Kind.l0F g_ref10_Kind.c7 g_ref10_Kind.c8
def g_ref10_Kind.c9 : ACode :=
  .seq (.region [6, 7, 8] (some []) none
    [om 86 11,
     om 87 1,
     oo 88 (.iaddr 1 (.t 86) (.t 87)),
     oo 89 (.load none (.t 88)),
     om 6 89,
     oo 7 (.mv (.c (.d (.int .i64 0)))),
     oo 8 (.mv (.c (.d (.int .i64 0))))])
 (.ret)
def g_ref10_Kind.c10F (R_l0 : ACode) (R_c9 : ACode) : ACode :=
  .seq (.seq (.region [1, 2, 3, 9, 11, 12] (some [3, 26]) none
     [oo 12 (.mv (.c (.d (.int .i64 0))))])
  (.block 0 [1, 11] (some [26]) (R_l0)))
 (R_c9)
def g_ref10_Kind.c10 : ACode := g_ref10_Kind.c10F g_ref10_Kind.l0 g_ref10_Kind.c9
def g_ref10_Kind.c11F (R_c10 : ACode) : ACode :=
  .seq (.region [1, 2, 3, 9, 11] (some [3, 26]) none
    [om 24 1,
     oo 25 (.bin .add (.t 24) (.c (.d (.int .i64 1)))),
     oo 26 (.mks (some 26) 1 8 [(.int .i64 0)] (.t 25)),
     om 11 26])
 (R_c10)
def g_ref10_Kind.c11 : ACode := g_ref10_Kind.c11F g_ref10_Kind.c10
def g_ref10_Kind.c12F (R_c11 : ACode) : ACode :=
  .seq (.seq (.region [1, 2, 3, 9, 23] (some [3]) none
     [om 22 10,
      oo 23 (.un .not (.t 22))])
  (.cond (.t 23) (.seq (.region [6, 7, 8] (some []) none
       [oo 6 (.mv (.c (.d (.int .i64 0)))),
        oo 7 (.mv (.c (.d (.int .i64 0)))),
        oo 8 (.mv (.c (.d (.int .i64 1))))])
    (.ret))
   (.skip)))
 (R_c11)
def g_ref10_Kind.c12 : ACode := g_ref10_Kind.c12F g_ref10_Kind.c11
def g_ref10_Kind.c13F (R_c12 : ACode) : ACode :=
  .seq (.region [1, 2, 3, 9, 10] (some [3]) none
    [oo 17 (.load (some 2) (.t 3)),
     om 18 1,
     oo 19 (.call 188 [(.t 17), (.t 18)]),
     om 16 19,
     oo 20 (.ext (.t 16) 0),
     oo 21 (.ext (.t 16) 1),
     om 9 20,
     om 10 21])
 (R_c12)
def g_ref10_Kind.c13 : ACode := g_ref10_Kind.c13F g_ref10_Kind.c12
def g_ref10_Kind.codeF (R_c13 : ACode) : ACode :=
  .seq (.region [1, 2, 3] (some [3]) none
    [oo 3 (.box 3 2 (.t 0)),
     oo 6 (.mv (.c (.d (.int .i64 0)))),
     oo 7 (.mv (.c (.d (.int .i64 0)))),
     oo 8 (.mv (.c (.d (.int .i64 0))))])
 (R_c13)
def g_ref10_Kind.code : ACode := g_ref10_Kind.codeF g_ref10_Kind.c13
def g_ref10_Kind : AFn := { N := 90, res := [.slot 6, .slot 7, .slot 8], own := [], frz := [], code := g_ref10_Kind.code }
def g_law10_refs.c0 : ACode :=
  .region [3, 6, 7, 8] (some [15]) none
   [om 12 3,
    oo 13 (.load (some 2) (.t 5)),
    oo 14 (.bsl none 2 [] 1 [(0, (.t 13))]),
    oo 15 (.app (some 15) 2 24 (.t 12) (.t 14)),
    om 3 15]
def g_law10_refs.c1 : ACode :=
  .region [3, 6, 7, 8] (some [15]) none
   [oo 16 (.bin .add (.t 8) (.c (.d (.int .i64 1)))),
    om 8 16]
def g_law10_refs.l0F (R_c0 : ACode) (R_c1 : ACode) : ACode :=
  .loop [3, 6, 7, 8] (some [15]) (.seq (.region [3, 6, 7, 8, 9] (some [15]) none
    [oo 9 (.bin .lss (.t 8) (.t 7))])
 (.seq (.cond (.t 9) (.skip)
   (.exit 0))
  (.seq (.block 1 [3, 6, 7, 8] (some [15]) (.seq (.region [3, 5, 6, 7, 8] (some [5, 15]) none
        [oo 10 (.iaddr 2 (.t 6) (.t 8)),
         oo 11 (.load (some 2) (.t 10)),
         oo 5 (.alloc 5 [.d (.str []), .d (.int .i64 0)]),
         ⟨none, .store 2 (.t 5) (.t 11), [], [], none, none⟩])
     (R_c0)))
   (R_c1))))
def g_law10_refs.l0 : ACode := g_law10_refs.l0F g_law10_refs.c0 g_law10_refs.c1
def g_law10_refs.c2 : ACode :=
  .seq (.region [2] (some [15]) none
    [om 17 3,
     om 2 17])
 (.ret)
def g_law10_refs.codeF (R_l0 : ACode) (R_c2 : ACode) : ACode :=
  .seq (.region [0] (some []) none
    [oo 2 (.mv (.c (.cap0)))])
 (.seq (.region [0, 3] (some [15]) none
     [oo 3 (.mv (.c (.cap0)))])
  (.seq (.seq (.region [3, 6, 7, 8] (some [15]) none
       [om 6 0,
        oo 7 (.len (.t 6)),
        oo 8 (.mv (.c (.d (.int .i64 0))))])
    (.block 0 [3] (some [15]) (R_l0)))
   (R_c2)))
def g_law10_refs.code : ACode := g_law10_refs.codeF g_law10_refs.l0 g_law10_refs.c2
def g_law10_refs : AFn := { N := 18, res := [.slot 2], own := [], frz := [2], code := g_law10_refs.code }
def g_ref10_Made.o1 : List AOper :=
  [oo 19 (.pick (.t 13) (.c (.d (.bool true))) (.t 18))]
def g_ref10_Made.o0F (R_o1 : List AOper) : List AOper :=
  (og 14 (.mv (.t 1)) (2, 13, false) ::
    og 15 (.faddr 1 (.t 2)) (2, 13, false) ::
    og 16 (.load none (.t 15)) (2, 13, false) ::
    og 17 (.len (.t 16)) (2, 13, false) ::
    ow 18 (.bin .geq (.t 14) (.t 17)) (2, 13, false) [1, 2, 13, 18] [2] ::
    R_o1)
def g_ref10_Made.o0 : List AOper := g_ref10_Made.o0F g_ref10_Made.o1
def g_ref10_Made.c0 : ACode :=
  .cond (.t 19) (.seq (.region [4, 5] (some [22]) none
     [oo 4 (.mv (.c (.cap0))),
      oo 5 (.mv (.c (.d (.bool false))))])
  (.ret))
 (.skip)
def g_ref10_Made.o3 : List AOper :=
  [oo 49 (.pick (.t 43) (.t 48) (.c (.d (.bool false))))]
def g_ref10_Made.o2F (R_o3 : List AOper) : List AOper :=
  (og 44 (.mv (.t 9)) (4, 43, true) ::
    og 45 (.faddr 0 (.t 8)) (4, 43, true) ::
    og 46 (.load none (.t 45)) (4, 43, true) ::
    og 47 (.call 189 [(.t 46)]) (4, 43, true) ::
    ow 48 (.bin .lss (.t 44) (.t 47)) (4, 43, true) [1, 2, 6, 7, 8, 9, 43, 48] [2, 8, 22] ::
    R_o3)
def g_ref10_Made.o2 : List AOper := g_ref10_Made.o2F g_ref10_Made.o3
def g_ref10_Made.c1 : ACode :=
  .cond (.t 49) (.skip)
 (.exit 2)
def g_ref10_Made.o5 : List AOper :=
  [oo 61 (.pick (.t 57) (.c (.d (.bool true))) (.t 60))]
def g_ref10_Made.o4F (R_o5 : List AOper) : List AOper :=
  (og 58 (.mv (.t 10)) (2, 57, false) ::
    og 59 (.mv (.t 7)) (2, 57, false) ::
    ow 60 (.bin .geq (.t 58) (.t 59)) (2, 57, false) [1, 2, 6, 7, 8, 9, 10, 57, 60] [2, 8, 22] ::
    R_o5)
def g_ref10_Made.o4 : List AOper := g_ref10_Made.o4F g_ref10_Made.o5
def g_ref10_Made.c2 : ACode :=
  .cond (.t 61) (.seq (.region [4, 5] (some [22]) none
     [oo 4 (.mv (.c (.cap0))),
      oo 5 (.mv (.c (.d (.bool false))))])
  (.ret))
 (.skip)
def g_ref10_Made.c3 : ACode :=
  .region [1, 2, 6, 7, 8, 9] (some [2, 8, 22]) none
   [om 62 6,
    om 63 10,
    oo 64 (.iaddr 1 (.t 62) (.t 63)),
    ⟨none, .store 1 (.t 64) (.c (.d (.bool true))), [], [], none, none⟩]
def g_ref10_Made.c4F (R_o4 : List AOper) (R_c2 : ACode) (R_c3 : ACode) : ACode :=
  .seq (.seq (.region [1, 2, 6, 7, 8, 9, 10, 61] (some [2, 8, 22]) none
     (om 55 10 ::
      oo 56 (.bin .lss (.t 55) (.c (.d (.int .i64 0)))) ::
      oz 57 (.mv (.t 56)) [1, 2, 6, 7, 8, 9, 10, 57] [2, 8, 22] ::
      R_o4))
  (R_c2))
 (R_c3)
def g_ref10_Made.c4 : ACode := g_ref10_Made.c4F g_ref10_Made.o4 g_ref10_Made.c2 g_ref10_Made.c3
def g_ref10_Made.c5 : ACode :=
  .region [1, 2, 6, 7, 8, 9] (some [2, 8, 22]) none
   [om 50 9,
    oo 51 (.bin .add (.t 50) (.c (.d (.int .i64 1)))),
    om 9 51]
def g_ref10_Made.c6F (R_c4 : ACode) (R_c5 : ACode) : ACode :=
  .seq (.block 3 [1, 2, 6, 7, 8, 9] (some [2, 8, 22]) (.seq (.region [1, 2, 6, 7, 8, 9, 10] (some [2, 8, 22]) none
      [oo 52 (.load (some 6) (.t 8)),
       om 53 9,
       oo 54 (.call 190 [(.t 52), (.t 53)]),
       om 10 54])
   (R_c4)))
 (R_c5)
def g_ref10_Made.c6 : ACode := g_ref10_Made.c6F g_ref10_Made.c4 g_ref10_Made.c5
def g_ref10_Made.l1F (R_o2 : List AOper) (R_c1 : ACode) (R_c6 : ACode) : ACode :=
  .loop [1, 2, 6, 7, 8, 9] (some [2, 8, 22]) (.seq (.seq (.region [1, 2, 6, 7, 8, 9, 49] (some [2, 8, 22]) none
     (om 39 6 ::
      om 40 7 ::
      oo 41 (.iaddr 1 (.t 39) (.t 40)) ::
      oo 42 (.load none (.t 41)) ::
      oz 43 (.mv (.t 42)) [1, 2, 6, 7, 8, 9, 43] [2, 8, 22] ::
      R_o2))
  (R_c1))
 (R_c6))
def g_ref10_Made.l1 : ACode := g_ref10_Made.l1F g_ref10_Made.o2 g_ref10_Made.c1 g_ref10_Made.c6
def g_ref10_Made.c7F (R_l1 : ACode) : ACode :=
  .seq (.region [1, 2, 6, 7, 8, 9] (some [2, 8, 22]) none
    [oo 9 (.mv (.c (.d (.int .i64 0))))])
 (.block 2 [1, 2, 6, 7] (some [2, 22]) (R_l1))
def g_ref10_Made.c7 : ACode := g_ref10_Made.c7F g_ref10_Made.l1
def g_ref10_Made.c8F (R_c7 : ACode) : ACode :=
  .seq (.region [1, 2, 6, 7, 8] (some [2, 8, 22]) none
    [oo 34 (.faddr 1 (.t 2)),
     oo 35 (.load none (.t 34)),
     om 36 7,
     oo 37 (.iaddr 6 (.t 35) (.t 36)),
     oo 38 (.load (some 6) (.t 37)),
     oo 8 (.alloc 8 [.d (.str []), .d (.str []), .d (.int .i64 0), .d (.int .i64 0), .d (.int .i64 0), .d (.int .i64 0)]),
     ⟨none, .store 6 (.t 8) (.t 38), [], [], none, none⟩])
 (R_c7)
def g_ref10_Made.c8 : ACode := g_ref10_Made.c8F g_ref10_Made.c7
def g_ref10_Made.c9 : ACode :=
  .region [1, 2, 6, 7] (some [2, 22]) none
   [om 26 7,
    oo 27 (.bin .sub (.t 26) (.c (.d (.int .i64 1)))),
    om 7 27]
def g_ref10_Made.l0F (R_c8 : ACode) (R_c9 : ACode) : ACode :=
  .loop [1, 2, 6, 7] (some [2, 22]) (.seq (.seq (.region [1, 2, 6, 7, 25] (some [2, 22]) none
     [om 24 7,
      oo 25 (.bin .geq (.t 24) (.c (.d (.int .i64 0))))])
  (.cond (.t 25) (.skip)
   (.exit 0)))
 (.seq (.block 1 [1, 2, 6, 7] (some [2, 22]) (.seq (.seq (.region [1, 2, 6, 7, 30] (some [2, 22]) none
        [om 28 7,
         om 29 1,
         oo 30 (.bin .eql (.t 28) (.t 29))])
     (.cond (.t 30) (.region [1, 2, 6, 7] (some [2, 22]) none
         [om 31 6,
          om 32 7,
          oo 33 (.iaddr 1 (.t 31) (.t 32)),
          ⟨none, .store 1 (.t 33) (.c (.d (.bool true))), [], [], none, none⟩])
      (.skip)))
    (R_c8)))
  (R_c9)))
def g_ref10_Made.l0 : ACode := g_ref10_Made.l0F g_ref10_Made.c8 g_ref10_Made.c9
def g_ref10_Made.c10 : ACode :=
  .seq (.region [4, 5] (some [22]) none
    [om 65 6,
     om 4 65,
     oo 5 (.mv (.c (.d (.bool true))))])
 (.ret)
def g_ref10_Made.c11F (R_l0 : ACode) (R_c10 : ACode) : ACode :=
  .seq (.seq (.region [1, 2, 6, 7] (some [2, 22]) none
     [om 23 1,
      om 7 23])
  (.block 0 [6] (some [22]) (R_l0)))
 (R_c10)
def g_ref10_Made.c11 : ACode := g_ref10_Made.c11F g_ref10_Made.l0 g_ref10_Made.c10
def g_ref10_Made.c12F (R_c11 : ACode) : ACode :=
  .seq (.region [1, 2, 6] (some [2, 22]) none
    [om 20 1,
     oo 21 (.bin .add (.t 20) (.c (.d (.int .i64 1)))),
     oo 22 (.mks (some 22) 1 1 [(.bool false)] (.t 21)),
     om 6 22])
 (R_c11)
def g_ref10_Made.c12 : ACode := g_ref10_Made.c12F g_ref10_Made.c11
def g_ref10_Made.codeF (R_o0 : List AOper) (R_c0 : ACode) (R_c12 : ACode) : ACode :=
  .seq (.region [1, 2] (some [2]) none
    [oo 2 (.box 2 2 (.t 0)),
     oo 4 (.mv (.c (.cap0))),
     oo 5 (.mv (.c (.d (.bool false))))])
 (.seq (.seq (.region [1, 2, 19] (some [2]) none
      (om 11 1 ::
       oo 12 (.bin .lss (.t 11) (.c (.d (.int .i64 0)))) ::
       oz 13 (.mv (.t 12)) [1, 2, 13] [2] ::
       R_o0))
   (R_c0))
  (R_c12))
def g_ref10_Made.code : ACode := g_ref10_Made.codeF g_ref10_Made.o0 g_ref10_Made.c0 g_ref10_Made.c12
def g_ref10_Made : AFn := { N := 66, res := [.slot 4, .slot 5], own := [], frz := [4], code := g_ref10_Made.code }
def g_ref10_Many.c0 : ACode :=
  .cond (.t 4) (.seq (.region [2] (some []) none
     [oo 2 (.mv (.c (.d (.int .i64 0))))])
  (.ret))
 (.seq (.region [3, 9] (some []) none
     [oo 10 (.bin .eql (.t 3) (.c (.d (.str [110, 101, 103])))),
      om 9 10])
  (.cond (.t 9) (.seq (.region [2] (some []) none
       [oo 2 (.mv (.c (.d (.int .i64 1))))])
    (.ret))
   (.seq (.region [11] (some []) none
       [oo 12 (.bin .eql (.t 3) (.c (.d (.str [105, 102])))),
        om 11 12])
    (.cond (.t 11) (.seq (.region [2] (some []) none
         [oo 2 (.mv (.c (.d (.int .i64 3))))])
      (.ret))
     (.skip)))))
def g_ref10_Many.c1 : ACode :=
  .seq (.region [2] (some []) none
    [oo 2 (.mv (.c (.d (.int .i64 2))))])
 (.ret)
def g_ref10_Many.codeF (R_c0 : ACode) (R_c1 : ACode) : ACode :=
  .seq (.region [0] (some []) none
    [oo 2 (.mv (.c (.d (.int .i64 0))))])
 (.seq (.seq (.region [3] (some []) none
      [om 3 0])
   (.block 0 [] (some []) (.seq (.seq (.region [3, 4] (some []) none
         [oo 5 (.bin .eql (.t 3) (.c (.d (.str [119, 104, 111, 108, 101])))),
          om 4 5])
      (.cond (.t 4) (.skip)
       (.seq (.region [3, 4] (some []) none
           [oo 6 (.bin .eql (.t 3) (.c (.d (.str [97, 109, 111, 117, 110, 116])))),
            om 4 6])
        (.cond (.t 4) (.skip)
         (.seq (.region [3, 4] (some []) none
             [oo 7 (.bin .eql (.t 3) (.c (.d (.str [114, 97, 116, 101])))),
              om 4 7])
          (.cond (.t 4) (.skip)
           (.region [3, 4] (some []) none
              [oo 8 (.bin .eql (.t 3) (.c (.d (.str [110, 97, 109, 101])))),
               om 4 8])))))))
     (R_c0))))
  (R_c1))
def g_ref10_Many.code : ACode := g_ref10_Many.codeF g_ref10_Many.c0 g_ref10_Many.c1
def g_ref10_Many : AFn := { N := 13, res := [.slot 2], own := [], frz := [], code := g_ref10_Many.code }
def g_ref10_Part.c0 : ACode :=
  .seq (.region [4] (some []) none
    [oo 13 (.faddr 5 (.t 2)),
     oo 14 (.load none (.t 13)),
     om 4 14])
 (.ret)
def g_ref10_Part.c1F (R_c0 : ACode) : ACode :=
  .seq (.seq (.region [2, 10] (some [2]) none
     [om 9 1,
      oo 10 (.bin .eql (.t 9) (.c (.d (.int .i64 1))))])
  (.cond (.t 10) (.seq (.region [4] (some []) none
       [oo 11 (.faddr 4 (.t 2)),
        oo 12 (.load none (.t 11)),
        om 4 12])
    (.ret))
   (.skip)))
 (R_c0)
def g_ref10_Part.c1 : ACode := g_ref10_Part.c1F g_ref10_Part.c0
def g_ref10_Part.codeF (R_c1 : ACode) : ACode :=
  .seq (.region [1, 2] (some [2]) none
    [oo 2 (.box 2 6 (.t 0)),
     oo 4 (.mv (.c (.d (.int .i64 0))))])
 (.seq (.seq (.region [1, 2, 6] (some [2]) none
      [om 5 1,
       oo 6 (.bin .eql (.t 5) (.c (.d (.int .i64 0))))])
   (.cond (.t 6) (.seq (.region [4] (some []) none
        [oo 7 (.faddr 3 (.t 2)),
         oo 8 (.load none (.t 7)),
         om 4 8])
     (.ret))
    (.skip)))
  (R_c1))
def g_ref10_Part.code : ACode := g_ref10_Part.codeF g_ref10_Part.c1
def g_ref10_Part : AFn := { N := 15, res := [.slot 4], own := [], frz := [], code := g_ref10_Part.code }
def g_ref10_of.o3 : List AOper :=
  [oo 45 (.pick (.t 38) (.c (.d (.bool true))) (.t 44))]
def g_ref10_of.o2F (R_o3 : List AOper) : List AOper :=
  (og 39 (.mv (.t 4)) (10, 38, false) ::
    og 40 (.mv (.t 11)) (10, 38, false) ::
    og 41 (.iaddr 2 (.t 39) (.t 40)) (10, 38, false) ::
    og 42 (.faddr 1 (.t 41)) (10, 38, false) ::
    og 43 (.load none (.t 42)) (10, 38, false) ::
    ow 44 (.bin .gtr (.t 43) (.c (.d (.int .i64 4)))) (10, 38, false) [4, 11, 38, 44] [] ::
    R_o3)
def g_ref10_of.o2 : List AOper := g_ref10_of.o2F g_ref10_of.o3
def g_ref10_of.o1F (R_o2 : List AOper) : List AOper :=
  (oo 37 (.pick (.t 30) (.c (.d (.bool true))) (.t 36)) ::
    oz 38 (.mv (.t 37)) [4, 11, 38] [] ::
    R_o2)
def g_ref10_of.o1 : List AOper := g_ref10_of.o1F g_ref10_of.o2
def g_ref10_of.o0F (R_o1 : List AOper) : List AOper :=
  (og 31 (.mv (.t 4)) (2, 30, false) ::
    og 32 (.mv (.t 11)) (2, 30, false) ::
    og 33 (.iaddr 2 (.t 31) (.t 32)) (2, 30, false) ::
    og 34 (.faddr 1 (.t 33)) (2, 30, false) ::
    og 35 (.load none (.t 34)) (2, 30, false) ::
    ow 36 (.bin .lss (.t 35) (.c (.d (.int .i64 1)))) (2, 30, false) [4, 11, 30, 36] [] ::
    R_o1)
def g_ref10_of.o0 : List AOper := g_ref10_of.o0F g_ref10_of.o1
def g_ref10_of.c0 : ACode :=
  .cond (.t 45) (.seq (.region [10] (some []) none
     [oo 10 (.mv (.c (.d (.int .i64 0))))])
  (.ret))
 (.skip)
def g_ref10_of.c1 : ACode :=
  .seq (.region [10] (some []) none
    [om 46 4,
     om 47 11,
     oo 48 (.iaddr 2 (.t 46) (.t 47)),
     oo 49 (.faddr 1 (.t 48)),
     oo 50 (.load none (.t 49)),
     om 10 50])
 (.ret)
def g_ref10_of.c2F (R_o0 : List AOper) (R_c0 : ACode) (R_c1 : ACode) : ACode :=
  .seq (.seq (.region [4, 11, 45] (some []) none
     (om 28 11 ::
      oo 29 (.bin .lss (.t 28) (.c (.d (.int .i64 0)))) ::
      oz 30 (.mv (.t 29)) [4, 11, 30] [] ::
      R_o0))
  (R_c0))
 (R_c1)
def g_ref10_of.c2 : ACode := g_ref10_of.c2F g_ref10_of.o0 g_ref10_of.c0 g_ref10_of.c1
def g_ref10_of.o5 : List AOper :=
  [oo 58 (.pick (.t 55) (.c (.d (.bool true))) (.t 57))]
def g_ref10_of.o4F (R_o5 : List AOper) : List AOper :=
  (og 56 (.mv (.t 1)) (2, 55, false) ::
    ow 57 (.bin .eql (.t 56) (.c (.d (.int .i64 3)))) (2, 55, false) [1, 55, 57] [] ::
    R_o5)
def g_ref10_of.o4 : List AOper := g_ref10_of.o4F g_ref10_of.o5
def g_ref10_of.c3 : ACode :=
  .cond (.t 58) (.seq (.region [10] (some []) none
     [om 59 1,
      om 10 59])
  (.ret))
 (.skip)
def g_ref10_of.c4 : ACode :=
  .seq (.region [10] (some []) none
    [oo 10 (.mv (.c (.d (.int .i64 0))))])
 (.ret)
def g_ref10_of.o7 : List AOper :=
  [oo 68 (.pick (.t 64) (.t 67) (.c (.d (.bool false))))]
def g_ref10_of.o6F (R_o7 : List AOper) : List AOper :=
  (og 65 (.mv (.t 2)) (2, 64, true) ::
    og 66 (.mv (.t 3)) (2, 64, true) ::
    ow 67 (.bin .eql (.t 65) (.t 66)) (2, 64, true) [2, 64, 67] [] ::
    R_o7)
def g_ref10_of.o6 : List AOper := g_ref10_of.o6F g_ref10_of.o7
def g_ref10_of.c5 : ACode :=
  .cond (.t 68) (.seq (.region [10] (some []) none
     [om 69 2,
      om 10 69])
  (.ret))
 (.skip)
def g_ref10_of.c6 : ACode :=
  .seq (.region [10] (some []) none
    [oo 10 (.mv (.c (.d (.int .i64 0))))])
 (.ret)
def g_ref10_of.o9 : List AOper :=
  [oo 89 (.pick (.t 83) (.t 88) (.c (.d (.bool false))))]
def g_ref10_of.o8F (R_o9 : List AOper) : List AOper :=
  (og 84 (.mv (.t 13)) (5, 83, true) ::
    og 85 (.iaddr 1 (.t 84) (.c (.d (.int .i64 1)))) (5, 83, true) ::
    og 86 (.load none (.t 85)) (5, 83, true) ::
    og 87 (.mv (.t 2)) (5, 83, true) ::
    ow 88 (.bin .eql (.t 86) (.t 87)) (5, 83, true) [1, 2, 13, 72, 73, 74, 83, 88] [] ::
    R_o9)
def g_ref10_of.o8 : List AOper := g_ref10_of.o8F g_ref10_of.o9
def g_ref10_of.c7 : ACode :=
  .cond (.t 89) (.seq (.region [10] (some []) none
     [om 90 13,
      oo 91 (.iaddr 1 (.t 90) (.c (.d (.int .i64 2)))),
      oo 92 (.load none (.t 91)),
      om 10 92])
  (.ret))
 (.skip)
def g_ref10_of.c8 : ACode :=
  .region [1, 2, 72, 73, 74] (some []) none
   [oo 93 (.bin .add (.t 74) (.c (.d (.int .i64 1)))),
    om 74 93]
def g_ref10_of.l0F (R_o8 : List AOper) (R_c7 : ACode) (R_c8 : ACode) : ACode :=
  .loop [1, 2, 72, 73, 74] (some []) (.seq (.region [1, 2, 72, 73, 74, 75] (some []) none
    [oo 75 (.bin .lss (.t 74) (.t 73))])
 (.seq (.cond (.t 75) (.skip)
   (.exit 1))
  (.seq (.block 2 [1, 2, 72, 73, 74] (some []) (.seq (.region [1, 2, 13, 72, 73, 74] (some []) none
        [oo 76 (.iaddr 1 (.t 72) (.t 74)),
         oo 77 (.load none (.t 76)),
         om 13 77])
     (.seq (.region [1, 2, 13, 72, 73, 74, 89] (some []) none
         (om 78 13 ::
          oo 79 (.iaddr 1 (.t 78) (.c (.d (.int .i64 0)))) ::
          oo 80 (.load none (.t 79)) ::
          om 81 1 ::
          oo 82 (.bin .eql (.t 80) (.t 81)) ::
          oz 83 (.mv (.t 82)) [1, 2, 13, 72, 73, 74, 83] [] ::
          R_o8))
      (R_c7))))
   (R_c8))))
def g_ref10_of.l0 : ACode := g_ref10_of.l0F g_ref10_of.o8 g_ref10_of.c7 g_ref10_of.c8
def g_ref10_of.c9F (R_l0 : ACode) : ACode :=
  .block 1 [] (some []) (R_l0)
def g_ref10_of.c9 : ACode := g_ref10_of.c9F g_ref10_of.l0
def g_ref10_of.c10 : ACode :=
  .seq (.region [10] (some []) none
    [oo 10 (.mv (.c (.d (.int .i64 0))))])
 (.ret)
def g_ref10_of.c11F (R_c9 : ACode) (R_c10 : ACode) : ACode :=
  .seq (.seq (.region [1, 2, 72, 73, 74] (some []) none
     [oo 70 (.faddr 0 (.t 5)),
      oo 71 (.load none (.t 70)),
      oo 72 (.call 207 [(.t 71)]),
      oo 73 (.len (.t 72)),
      oo 74 (.mv (.c (.d (.int .i64 0))))])
  (R_c9))
 (R_c10)
def g_ref10_of.c11 : ACode := g_ref10_of.c11F g_ref10_of.c9 g_ref10_of.c10
def g_ref10_of.codeF (R_c2 : ACode) (R_o4 : List AOper) (R_c3 : ACode) (R_c4 : ACode) (R_o6 : List AOper) (R_c5 : ACode) (R_c6 : ACode) (R_c11 : ACode) : ACode :=
  .seq (.region [1, 2, 3, 4, 5] (some [5]) none
    [oo 5 (.box 5 6 (.t 0)),
     oo 10 (.mv (.c (.d (.int .i64 0))))])
 (.seq (.seq (.region [1, 2, 3, 4, 5, 15] (some [5]) none
      [oo 14 (.faddr 0 (.t 5)),
       oo 15 (.load none (.t 14))])
   (.block 0 [1, 2, 5] (some [5]) (.seq (.region [1, 2, 3, 4, 5, 15, 16] (some [5]) none
        [oo 17 (.bin .eql (.t 15) (.c (.d (.str [119, 104, 111, 108, 101])))),
         om 16 17])
     (.cond (.t 16) (.seq (.region [10] (some []) none
          [oo 10 (.mv (.c (.d (.int .i64 3))))])
       (.ret))
      (.seq (.region [1, 2, 3, 4, 5, 15, 18] (some [5]) none
          [oo 19 (.bin .eql (.t 15) (.c (.d (.str [97, 109, 111, 117, 110, 116])))),
           om 18 19])
       (.cond (.t 18) (.seq (.region [10] (some []) none
            [oo 10 (.mv (.c (.d (.int .i64 1))))])
         (.ret))
        (.seq (.region [1, 2, 3, 4, 5, 15, 20] (some [5]) none
            [oo 21 (.bin .eql (.t 15) (.c (.d (.str [114, 97, 116, 101])))),
             om 20 21])
         (.cond (.t 20) (.seq (.region [10] (some []) none
              [oo 10 (.mv (.c (.d (.int .i64 2))))])
           (.ret))
          (.seq (.region [1, 2, 3, 4, 5, 15, 22] (some [5]) none
              [oo 23 (.bin .eql (.t 15) (.c (.d (.str [110, 97, 109, 101])))),
               om 22 23])
           (.cond (.t 22) (.seq (.region [4, 11] (some []) none
                [om 24 4,
                 oo 25 (.faddr 1 (.t 5)),
                 oo 26 (.load none (.t 25)),
                 oo 27 (.call 192 [(.t 24), (.t 26)]),
                 om 11 27])
             (R_c2))
            (.seq (.region [1, 2, 3, 5, 15, 51] (some [5]) none
                [oo 52 (.bin .eql (.t 15) (.c (.d (.str [110, 101, 103])))),
                 om 51 52])
             (.cond (.t 51) (.seq (.seq (.region [1, 58] (some []) none
                   (om 53 1 ::
                    oo 54 (.bin .eql (.t 53) (.c (.d (.int .i64 1)))) ::
                    oz 55 (.mv (.t 54)) [1, 55] [] ::
                    R_o4))
                (R_c3))
               (R_c4))
              (.seq (.region [1, 2, 3, 5, 60] (some [5]) none
                  [oo 61 (.bin .eql (.t 15) (.c (.d (.str [105, 102])))),
                   om 60 61])
               (.cond (.t 60) (.seq (.seq (.region [2, 68] (some []) none
                     (om 62 1 ::
                      oo 63 (.bin .eql (.t 62) (.c (.d (.int .i64 4)))) ::
                      oz 64 (.mv (.t 63)) [2, 3, 64] [] ::
                      R_o6))
                  (R_c5))
                 (R_c6))
                (.skip)))))))))))))))
  (R_c11))
def g_ref10_of.code : ACode := g_ref10_of.codeF g_ref10_of.c2 g_ref10_of.o4 g_ref10_of.c3 g_ref10_of.c4 g_ref10_of.o6 g_ref10_of.c5 g_ref10_of.c6 g_ref10_of.c11
def g_ref10_of : AFn := { N := 94, res := [.slot 10], own := [], frz := [], code := g_ref10_of.code }
def g_ref10_find.c0 : ACode :=
  .region [0, 1, 5] (some []) none
   [om 10 5,
    oo 11 (.bin .add (.t 10) (.c (.d (.int .i64 1)))),
    om 5 11]
def g_ref10_find.c1F (R_c0 : ACode) : ACode :=
  .seq (.block 1 [0, 1, 5] (some []) (.seq (.region [0, 1, 5, 18] (some []) none
      [om 12 0,
       om 13 5,
       oo 14 (.iaddr 2 (.t 12) (.t 13)),
       oo 15 (.faddr 0 (.t 14)),
       oo 16 (.load none (.t 15)),
       om 17 1,
       oo 18 (.bin .eql (.t 16) (.t 17))])
   (.cond (.t 18) (.seq (.region [4] (some []) none
        [om 19 5,
         om 4 19])
     (.ret))
    (.skip))))
 (R_c0)
def g_ref10_find.c1 : ACode := g_ref10_find.c1F g_ref10_find.c0
def g_ref10_find.l0F (R_c1 : ACode) : ACode :=
  .loop [0, 1, 5] (some []) (.seq (.seq (.region [0, 1, 5, 9] (some []) none
     [om 6 5,
      om 7 0,
      oo 8 (.len (.t 7)),
      oo 9 (.bin .lss (.t 6) (.t 8))])
  (.cond (.t 9) (.skip)
   (.exit 0)))
 (R_c1))
def g_ref10_find.l0 : ACode := g_ref10_find.l0F g_ref10_find.c1
def g_ref10_find.c2 : ACode :=
  .seq (.region [4] (some []) none
    [oo 4 (.mv (.c (.d (.int .i64 (-1)))))])
 (.ret)
def g_ref10_find.codeF (R_l0 : ACode) (R_c2 : ACode) : ACode :=
  .seq (.region [0, 1] (some []) none
    [oo 4 (.mv (.c (.d (.int .i64 0))))])
 (.seq (.seq (.region [0, 1, 5] (some []) none
      [oo 5 (.mv (.c (.d (.int .i64 0))))])
   (.block 0 [] (some []) (R_l0)))
  (R_c2))
def g_ref10_find.code : ACode := g_ref10_find.codeF g_ref10_find.l0 g_ref10_find.c2
def g_ref10_find : AFn := { N := 20, res := [.slot 4], own := [], frz := [], code := g_ref10_find.code }
def g_ref10_table.c0 : ACode :=
  .cond (.t 33) (.seq (.region [2] (some []) none
     [oo 38 (.bsl none 1 [] 3 [(0, (.c (.d (.int .i64 1)))), (1, (.c (.d (.int .i64 1)))), (2, (.c (.d (.int .i64 4))))]),
      oo 39 (.bsl none 1 [] 3 [(0, (.c (.d (.int .i64 2)))), (1, (.c (.d (.int .i64 2)))), (2, (.c (.d (.int .i64 4))))]),
      oo 40 (.bsl none 1 [] 3 [(0, (.c (.d (.int .i64 3)))), (1, (.c (.d (.int .i64 3)))), (2, (.c (.d (.int .i64 4))))]),
      oo 41 (.bsl none 1 [] 3 [(0, (.t 38)), (1, (.t 39)), (2, (.t 40))]),
      om 2 41])
  (.ret))
 (.skip)
def g_ref10_table.c1F (R_c0 : ACode) : ACode :=
  .cond (.t 25) (.seq (.region [2] (some []) none
     [oo 28 (.bsl none 1 [] 3 [(0, (.c (.d (.int .i64 1)))), (1, (.c (.d (.int .i64 1)))), (2, (.c (.d (.int .i64 4))))]),
      oo 29 (.bsl none 1 [] 3 [(0, (.c (.d (.int .i64 2)))), (1, (.c (.d (.int .i64 2)))), (2, (.c (.d (.int .i64 4))))]),
      oo 30 (.bsl none 1 [] 3 [(0, (.c (.d (.int .i64 3)))), (1, (.c (.d (.int .i64 3)))), (2, (.c (.d (.int .i64 4))))]),
      oo 31 (.bsl none 1 [] 3 [(0, (.c (.d (.int .i64 4)))), (1, (.c (.d (.int .i64 4)))), (2, (.c (.d (.int .i64 4))))]),
      oo 32 (.bsl none 1 [] 4 [(0, (.t 28)), (1, (.t 29)), (2, (.t 30)), (3, (.t 31))]),
      om 2 32])
  (.ret))
 (.seq (.seq (.region [3, 33] (some []) none
      [oo 34 (.bin .eql (.t 3) (.c (.d (.str [60])))),
       om 33 34])
   (.cond (.t 33) (.skip)
    (.seq (.region [3, 33] (some []) none
        [oo 35 (.bin .eql (.t 3) (.c (.d (.str [60, 61])))),
         om 33 35])
     (.cond (.t 33) (.skip)
      (.seq (.region [3, 33] (some []) none
          [oo 36 (.bin .eql (.t 3) (.c (.d (.str [62])))),
           om 33 36])
       (.cond (.t 33) (.skip)
        (.region [33] (some []) none
           [oo 37 (.bin .eql (.t 3) (.c (.d (.str [62, 61])))),
            om 33 37])))))))
  (R_c0))
def g_ref10_table.c1 : ACode := g_ref10_table.c1F g_ref10_table.c0
def g_ref10_table.c2F (R_c1 : ACode) : ACode :=
  .cond (.t 18) (.seq (.region [2] (some []) none
     [oo 21 (.bsl none 1 [] 3 [(0, (.c (.d (.int .i64 1)))), (1, (.c (.d (.int .i64 1)))), (2, (.c (.d (.int .i64 1))))]),
      oo 22 (.bsl none 1 [] 3 [(0, (.c (.d (.int .i64 2)))), (1, (.c (.d (.int .i64 2)))), (2, (.c (.d (.int .i64 2))))]),
      oo 23 (.bsl none 1 [] 3 [(0, (.c (.d (.int .i64 3)))), (1, (.c (.d (.int .i64 3)))), (2, (.c (.d (.int .i64 3))))]),
      oo 24 (.bsl none 1 [] 3 [(0, (.t 21)), (1, (.t 22)), (2, (.t 23))]),
      om 2 24])
  (.ret))
 (.seq (.seq (.region [3, 25] (some []) none
      [oo 26 (.bin .eql (.t 3) (.c (.d (.str [61])))),
       om 25 26])
   (.cond (.t 25) (.skip)
    (.region [3, 25] (some []) none
       [oo 27 (.bin .eql (.t 3) (.c (.d (.str [60, 62])))),
        om 25 27])))
  (R_c1))
def g_ref10_table.c2 : ACode := g_ref10_table.c2F g_ref10_table.c1
def g_ref10_table.c3F (R_c2 : ACode) : ACode :=
  .cond (.t 4) (.seq (.region [2] (some []) none
     [oo 7 (.bsl none 1 [] 3 [(0, (.c (.d (.int .i64 1)))), (1, (.c (.d (.int .i64 1)))), (2, (.c (.d (.int .i64 1))))]),
      oo 8 (.bsl none 1 [] 3 [(0, (.c (.d (.int .i64 3)))), (1, (.c (.d (.int .i64 3)))), (2, (.c (.d (.int .i64 3))))]),
      oo 9 (.bsl none 1 [] 2 [(0, (.t 7)), (1, (.t 8))]),
      om 2 9])
  (.ret))
 (.seq (.region [3, 10] (some []) none
     [oo 11 (.bin .eql (.t 3) (.c (.d (.str [42])))),
      om 10 11])
  (.cond (.t 10) (.seq (.region [2] (some []) none
       [oo 12 (.bsl none 1 [] 3 [(0, (.c (.d (.int .i64 3)))), (1, (.c (.d (.int .i64 3)))), (2, (.c (.d (.int .i64 3))))]),
        oo 13 (.bsl none 1 [] 3 [(0, (.c (.d (.int .i64 1)))), (1, (.c (.d (.int .i64 3)))), (2, (.c (.d (.int .i64 1))))]),
        oo 14 (.bsl none 1 [] 3 [(0, (.c (.d (.int .i64 3)))), (1, (.c (.d (.int .i64 1)))), (2, (.c (.d (.int .i64 1))))]),
        oo 15 (.bsl none 1 [] 3 [(0, (.c (.d (.int .i64 1)))), (1, (.c (.d (.int .i64 2)))), (2, (.c (.d (.int .i64 1))))]),
        oo 16 (.bsl none 1 [] 3 [(0, (.c (.d (.int .i64 2)))), (1, (.c (.d (.int .i64 1)))), (2, (.c (.d (.int .i64 1))))]),
        oo 17 (.bsl none 1 [] 5 [(0, (.t 12)), (1, (.t 13)), (2, (.t 14)), (3, (.t 15)), (4, (.t 16))]),
        om 2 17])
    (.ret))
   (.seq (.seq (.region [3, 18] (some []) none
        [oo 19 (.bin .eql (.t 3) (.c (.d (.str [109, 105, 110])))),
         om 18 19])
     (.cond (.t 18) (.skip)
      (.region [3, 18] (some []) none
         [oo 20 (.bin .eql (.t 3) (.c (.d (.str [109, 97, 120])))),
          om 18 20])))
    (R_c2))))
def g_ref10_table.c3 : ACode := g_ref10_table.c3F g_ref10_table.c2
def g_ref10_table.c4 : ACode :=
  .seq (.region [2] (some []) none
    [oo 2 (.mv (.c (.cap0)))])
 (.ret)
def g_ref10_table.codeF (R_c3 : ACode) (R_c4 : ACode) : ACode :=
  .seq (.region [0] (some []) none
    [oo 2 (.mv (.c (.cap0)))])
 (.seq (.seq (.region [3] (some []) none
      [om 3 0])
   (.block 0 [] (some []) (.seq (.seq (.region [3, 4] (some []) none
         [oo 5 (.bin .eql (.t 3) (.c (.d (.str [43])))),
          om 4 5])
      (.cond (.t 4) (.skip)
       (.region [3, 4] (some []) none
          [oo 6 (.bin .eql (.t 3) (.c (.d (.str [45])))),
           om 4 6])))
     (R_c3))))
  (R_c4))
def g_ref10_table.code : ACode := g_ref10_table.codeF g_ref10_table.c3 g_ref10_table.c4
def g_ref10_table : AFn := { N := 42, res := [.slot 2], own := [], frz := [], code := g_ref10_table.code }

end Pay
