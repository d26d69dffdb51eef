/- The program's functions as abstract code. -/
import Derived.Test.YtmglkghngkbioaaGreatDoorPayBa1
set_option maxRecDepth 20000
namespace Pay
def g_law09_ShowWrong.o1 : List AOper :=
 [oo 26 (.pick (.t 22) (.c (.d (.bool true))) (.t 25))]
def g_law09_ShowWrong.o0F (R_o1 : List AOper) : List AOper :=
 (og 23 (.mv (.t 3)) (3, 22, false) ::
 og 24 (.lenS (.t 23)) (3, 22, false) ::
 ow 25 (.bin .gtr (.t 24) (.c (.d (.int .i64 20)))) (3, 22, false) [0, 1, 2, 3, 22, 25] [] ::
 R_o1)
def g_law09_ShowWrong.o0 : List AOper := g_law09_ShowWrong.o0F g_law09_ShowWrong.o1
def g_law09_ShowWrong.c0 : ACode :=
 .cond (.t 26) (.seq (.region [8] (some []) none
 [oo 27 (.call 172 []),
 om 8 27])
 (.ret))
 (.skip)
def g_law09_ShowWrong.o3 : List AOper :=
 [oo 41 (.pick (.t 36) (.c (.d (.bool true))) (.t 40))]
def g_law09_ShowWrong.o2F (R_o3 : List AOper) : List AOper :=
 (og 37 (.faddr 1 (.t 9)) (2, 36, false) ::
 og 38 (.load none (.t 37)) (2, 36, false) ::
 og 39 (.len (.t 38)) (2, 36, false) ::
 ow 40 (.bin .eql (.t 39) (.c (.d (.int .i64 0)))) (2, 36, false) [1, 2, 3, 9, 36, 40] [9] ::
 R_o3)
def g_law09_ShowWrong.o2 : List AOper := g_law09_ShowWrong.o2F g_law09_ShowWrong.o3
def g_law09_ShowWrong.o5 : List AOper :=
 [oo 48 (.pick (.t 46) (.t 47) (.c (.d (.bool false)))),
 om 8 48]
def g_law09_ShowWrong.o4F (R_o5 : List AOper) : List AOper :=
 (ow 47 (.call 172 []) (4, 46, true) [46, 47] [] ::
 R_o5)
def g_law09_ShowWrong.o4 : List AOper := g_law09_ShowWrong.o4F g_law09_ShowWrong.o5
def g_law09_ShowWrong.c1 : ACode :=
 .ret
def g_law09_ShowWrong.c2F (R_o4 : List AOper) (R_c1 : ACode) : ACode :=
 .cond (.t 41) (.seq (.region [8] (some []) none
 (oo 42 (.faddr 1 (.t 9)) ::
 oo 43 (.load none (.t 42)) ::
 oo 44 (.len (.t 43)) ::
 oo 45 (.bin .eql (.t 44) (.c (.d (.int .i64 0)))) ::
 oz 46 (.mv (.t 45)) [46] [] ::
 R_o4))
 (R_c1))
 (.skip)
def g_law09_ShowWrong.c2 : ACode := g_law09_ShowWrong.c2F g_law09_ShowWrong.o4 g_law09_ShowWrong.c1
def g_law09_ShowWrong.o9 : List AOper :=
 [oo 132 (.pick (.t 130) (.t 131) (.c (.d (.bool false)))),
 om 8 132]
def g_law09_ShowWrong.o8F (R_o9 : List AOper) : List AOper :=
 (ow 131 (.call 172 []) (6, 130, true) [130, 131] [] ::
 R_o9)
def g_law09_ShowWrong.o8 : List AOper := g_law09_ShowWrong.o8F g_law09_ShowWrong.o9
def g_law09_ShowWrong.o7F (R_o8 : List AOper) : List AOper :=
 (oo 129 (.pick (.t 126) (.t 128) (.c (.d (.bool false)))) ::
 oz 130 (.mv (.t 129)) [130] [] ::
 R_o8)
def g_law09_ShowWrong.o7 : List AOper := g_law09_ShowWrong.o7F g_law09_ShowWrong.o8
def g_law09_ShowWrong.o6F (R_o7 : List AOper) : List AOper :=
 (og 127 (.mv (.t 15)) (2, 126, true) ::
 ow 128 (.bin .eql (.t 127) (.c (.d (.int .i64 1)))) (2, 126, true) [126, 128] [] ::
 R_o7)
def g_law09_ShowWrong.o6 : List AOper := g_law09_ShowWrong.o6F g_law09_ShowWrong.o7
def g_law09_ShowWrong.c3 : ACode :=
 .ret
def g_law09_ShowWrong.a10 : List AOper :=
 [om 139 18,
 ⟨some 140, .bin .eql (.t 139) (.c (.d (.int .i64 0))), [], [0], none, none⟩,
 ⟨some 141, .mv (.t 140), [], [1], none, none⟩,
 ⟨some 142, .load (some 2) (.t 12), [], [2], (some (2, 141, true)), none⟩,
 ⟨some 143, .call 179 [(.t 142)], [], [3, 2, 2], (some (2, 141, true)), none⟩,
 ⟨some 144, .load (some 2) (.t 16), [], [2], (some (2, 141, true)), none⟩,
 ⟨some 145, .call 179 [(.t 144)], [], [5, 4, 2], (some (2, 141, true)), none⟩,
 ⟨some 146, .call 147 [(.t 143), (.t 145)], [], [4, 6, 6, 2], (some (2, 141, true)), none⟩,
 ⟨some 147, .pick (.t 141) (.t 146) (.c (.d (.bool false))), [], [2, 7], none, none⟩,
 ⟨some 148, .mv (.t 147), [], [8, 7], none, none⟩,
 ⟨some 149, .call 172 [], [], [9, 9], (some (9, 148, true)), none⟩,
 ⟨some 150, .pick (.t 148) (.t 149) (.c (.d (.bool false))), [], [9, 10], none, none⟩,
 ⟨some 8, .mv (.t 150), [], [11, 10, 0, 1, 2, 3, 4, 5, 6, 7, 8, 9, 10, 11], none, none⟩]
def g_law09_ShowWrong.i22 : List Nat := 12 :: []
def g_law09_ShowWrong.i21 : List Nat := 11 :: g_law09_ShowWrong.i22
def g_law09_ShowWrong.i20 : List Nat := 10 :: g_law09_ShowWrong.i21
def g_law09_ShowWrong.i19 : List Nat := 9 :: g_law09_ShowWrong.i20
def g_law09_ShowWrong.i18 : List Nat := 8 :: g_law09_ShowWrong.i19
def g_law09_ShowWrong.i17 : List Nat := 7 :: g_law09_ShowWrong.i18
def g_law09_ShowWrong.i16 : List Nat := 6 :: g_law09_ShowWrong.i17
def g_law09_ShowWrong.i15 : List Nat := 2005 :: g_law09_ShowWrong.i16
def g_law09_ShowWrong.i14 : List Nat := 4 :: g_law09_ShowWrong.i15
def g_law09_ShowWrong.i13 : List Nat := 2003 :: g_law09_ShowWrong.i14
def g_law09_ShowWrong.i12 : List Nat := 2 :: g_law09_ShowWrong.i13
def g_law09_ShowWrong.i11 : List Nat := 1 :: g_law09_ShowWrong.i12
def g_law09_ShowWrong.c4 : ACode :=
 .ret
def g_law09_ShowWrong.c5F (R_i11 : List Nat) (R_c4 : ACode) : ACode :=
 .seq (.region [8] (some []) (some (0 :: R_i11, .done)) g_law09_ShowWrong.a10)
 (R_c4)
def g_law09_ShowWrong.c5 : ACode := g_law09_ShowWrong.c5F g_law09_ShowWrong.i11 g_law09_ShowWrong.c4
def g_law09_ShowWrong.c6F (R_c5 : ACode) : ACode :=
 .seq (.region [12, 16, 18] (some [12, 16, 51, 54]) none
 [om 134 14,
 oo 135 (.call 144 [(.t 134)]),
 om 133 135,
 oo 136 (.ext (.t 133) 0),
 oo 137 (.ext (.t 133) 1),
 oo 138 (.ext (.t 133) 2),
 oo 16 (.alloc 16 [.cap0, .cap0]),
 ⟨none, .store 2 (.t 16) (.t 136), [], [], none, none⟩,
 om 17 137,
 om 18 138])
 (R_c5)
def g_law09_ShowWrong.c6 : ACode := g_law09_ShowWrong.c6F g_law09_ShowWrong.c5
def g_law09_ShowWrong.c7F (R_o6 : List AOper) (R_c3 : ACode) (R_c6 : ACode) : ACode :=
 .seq (.seq (.region [12, 14, 15, 123] (some [12, 51, 54]) none
 [om 122 15,
 oo 123 (.bin .neq (.t 122) (.c (.d (.int .i64 0))))])
 (.cond (.t 123) (.seq (.region [8] (some []) none
 (om 124 14 ::
 oo 125 (.bin .eql (.t 124) (.c (.d (.str [])))) ::
 oz 126 (.mv (.t 125)) [15, 126] [] ::
 R_o6))
 (R_c3))
 (.skip)))
 (R_c6)
def g_law09_ShowWrong.c7 : ACode := g_law09_ShowWrong.c7F g_law09_ShowWrong.o6 g_law09_ShowWrong.c3 g_law09_ShowWrong.c6
def g_law09_ShowWrong.c8F (R_c7 : ACode) : ACode :=
 .seq (.region [12, 14, 15] (some [12, 51, 54]) none
 [oo 118 (.load (some 2) (.t 12)),
 ⟨some 119, .call 174 [(.t 118)], [118], [], none, none⟩,
 om 117 119,
 oo 120 (.ext (.t 117) 0),
 oo 121 (.ext (.t 117) 1),
 om 14 120,
 om 15 121])
 (R_c7)
def g_law09_ShowWrong.c8 : ACode := g_law09_ShowWrong.c8F g_law09_ShowWrong.c7
def g_law09_ShowWrong.c9F (R_c8 : ACode) : ACode :=
 .seq (.region [12] (some [12, 51, 54]) (some ([2000, 2001, 2, 3, 2004, 2005, 2006, 7, 2008, 2009], .one 10 (.done)))
 [oo 107 (.faddr 1 (.t 12)),
 ⟨some 108, .load none (.t 107), [], [0], none, none⟩,
 om 109 1,
 ⟨some 110, .conv .i64 (.t 109), [], [2], none, none⟩,
 oo 111 (.faddr 1 (.t 12)),
 ⟨some 112, .load none (.t 111), [], [4], none, none⟩,
 ⟨some 113, .len (.t 112), [], [5], none, none⟩,
 ⟨some 114, .bin .rem (.t 110) (.t 113), [], [3, 6], none, none⟩,
 oo 115 (.load (some 6) (.t 13)),
 ⟨some 116, .iaddr 6 (.t 108) (.t 114), [], [1, 7, 0, 1, 2, 3, 4, 5, 6, 7, 8], none, none⟩,
 ⟨none, .store 6 (.t 116) (.t 115), [], [9, 8, 0, 1, 2, 3, 4, 5, 6, 7, 8], none, none⟩])
 (R_c8)
def g_law09_ShowWrong.c9 : ACode := g_law09_ShowWrong.c9F g_law09_ShowWrong.c8
def g_law09_ShowWrong.c10F (R_c9 : ACode) : ACode :=
 .seq (.seq (.region [1, 2, 3, 12, 13, 68] (some [12, 13, 51, 54]) none
 [om 66 1,
 oo 67 (.bin .quo (.t 66) (.c (.d (.int .u16 256)))),
 oo 68 (.bin .rem (.t 67) (.c (.d (.int .u16 6))))])
 (.block 0 [1, 12, 13] (some [12, 13, 51, 54]) (.seq (.region [1, 2, 3, 12, 13, 68, 71] (some [12, 13, 51, 54]) none
 [oo 72 (.bin .eql (.t 68) (.c (.d (.int .u16 0)))),
 om 71 72])
 (.cond (.t 71) (.region [1, 12, 13] (some [12, 13, 51, 54]) none
 [oo 73 (.faddr 3 (.t 13)),
 oo 74 (.load none (.t 73)),
 om 75 2,
 oo 76 (.conv .i64 (.t 75)),
 oo 77 (.bin .add (.t 74) (.t 76)),
 oo 78 (.faddr 3 (.t 13)),
 ⟨none, .store 1 (.t 78) (.t 77), [], [], none, none⟩])
 (.seq (.region [1, 2, 3, 12, 13, 68, 79] (some [12, 13, 51, 54]) none
 [oo 80 (.bin .eql (.t 68) (.c (.d (.int .u16 1)))),
 om 79 80])
 (.cond (.t 79) (.region [1, 12, 13] (some [12, 13, 51, 54]) none
 [oo 81 (.faddr 4 (.t 13)),
 oo 82 (.load none (.t 81)),
 om 83 2,
 oo 84 (.conv .i64 (.t 83)),
 oo 85 (.bin .add (.t 82) (.t 84)),
 oo 86 (.faddr 4 (.t 13)),
 ⟨none, .store 1 (.t 86) (.t 85), [], [], none, none⟩])
 (.seq (.region [1, 2, 3, 12, 13, 68, 87] (some [12, 13, 51, 54]) none
 [oo 88 (.bin .eql (.t 68) (.c (.d (.int .u16 2)))),
 om 87 88])
 (.cond (.t 87) (.region [1, 12, 13] (some [12, 13, 51, 54]) none
 [oo 89 (.faddr 5 (.t 13)),
 oo 90 (.load none (.t 89)),
 om 91 2,
 oo 92 (.conv .i64 (.t 91)),
 oo 93 (.bin .add (.t 90) (.t 92)),
 oo 94 (.faddr 5 (.t 13)),
 ⟨none, .store 1 (.t 94) (.t 93), [], [], none, none⟩])
 (.seq (.region [1, 2, 3, 12, 13, 68, 95] (some [12, 13, 51, 54]) none
 [oo 96 (.bin .eql (.t 68) (.c (.d (.int .u16 3)))),
 om 95 96])
 (.cond (.t 95) (.region [1, 12, 13] (some [12, 13, 51, 54]) none
 [oo 97 (.faddr 2 (.t 13)),
 oo 98 (.load none (.t 97)),
 om 99 2,
 oo 100 (.conv .i64 (.t 99)),
 oo 101 (.bin .add (.t 98) (.t 100)),
 oo 102 (.faddr 2 (.t 13)),
 ⟨none, .store 1 (.t 102) (.t 101), [], [], none, none⟩])
 (.seq (.region [1, 3, 12, 13, 103] (some [12, 13, 51, 54]) none
 [oo 104 (.bin .eql (.t 68) (.c (.d (.int .u16 4)))),
 om 103 104])
 (.cond (.t 103) (.region [1, 12, 13] (some [12, 13, 51, 54]) none
 [om 105 3,
 oo 106 (.faddr 1 (.t 13)),
 ⟨none, .store 1 (.t 106) (.t 105), [], [], none, none⟩])
 (.region [1, 12, 13] (some [12, 13, 51, 54]) none
 [om 69 3,
 oo 70 (.faddr 0 (.t 13)),
 ⟨none, .store 1 (.t 70) (.t 69), [], [], none, none⟩])))))))))))))
 (R_c9)
def g_law09_ShowWrong.c10 : ACode := g_law09_ShowWrong.c10F g_law09_ShowWrong.c9
def g_law09_ShowWrong.c11F (R_c10 : ACode) : ACode :=
 .seq (.region [1, 2, 3, 12, 13] (some [12, 13, 51, 54]) (some ([2000, 2001, 2, 3, 2004, 2005, 2006, 7, 2008, 2009], .one 10 (.one 11 (.done))))
 [oo 56 (.faddr 1 (.t 12)),
 ⟨some 57, .load none (.t 56), [], [0], none, none⟩,
 om 58 1,
 ⟨some 59, .conv .i64 (.t 58), [], [2], none, none⟩,
 oo 60 (.faddr 1 (.t 12)),
 ⟨some 61, .load none (.t 60), [], [4], none, none⟩,
 ⟨some 62, .len (.t 61), [], [5], none, none⟩,
 ⟨some 63, .bin .rem (.t 59) (.t 62), [], [3, 6], none, none⟩,
 ⟨some 64, .iaddr 6 (.t 57) (.t 63), [], [1, 7], none, none⟩,
 ⟨some 65, .load (some 6) (.t 64), [], [8], none, none⟩,
 oo 13 (.alloc 13 [.d (.str []), .d (.str []), .d (.int .i64 0), .d (.int .i64 0), .d (.int .i64 0), .d (.int .i64 0)]),
 ⟨none, .store 6 (.t 13) (.t 65), [], [10, 9, 0, 1, 2, 3, 4, 5, 6, 7, 8, 9, 10], none, none⟩])
 (R_c10)
def g_law09_ShowWrong.c11 : ACode := g_law09_ShowWrong.c11F g_law09_ShowWrong.c10
def g_law09_ShowWrong.c12F (R_c11 : ACode) : ACode :=
 .seq (.region [1, 2, 3, 12] (some [12, 51, 54]) (some ([0, 1, 2, 3, 4], .two 5 (.two 6 (.one 7 (.one 8 (.done))) (.one 7 (.one 6 (.one 8 (.done))))) (.one 7 (.one 5 (.one 6 (.one 8 (.done)))))))
 [oo 49 (.faddr 0 (.t 9)),
 ⟨some 50, .load none (.t 49), [], [0], none, none⟩,
 oo 51 (.bsl (some 51) 6 [] 0 []),
 oo 52 (.faddr 1 (.t 9)),
 ⟨some 53, .load none (.t 52), [], [3], none, none⟩,
 ⟨some 54, .app (some 54) 6 64 (.t 51) (.t 53), [], [2, 4], none, none⟩,
 ⟨some 55, .build [.cap0, .cap0] [(0, 1, (.t 50)), (1, 1, (.t 54))], [], [1, 5], none, none⟩,
 oo 12 (.alloc 12 [.cap0, .cap0]),
 ⟨none, .store 2 (.t 12) (.t 55), [], [7, 6, 5, 0, 1, 2, 3, 4, 5, 6, 7], none, none⟩])
 (R_c11)
def g_law09_ShowWrong.c12 : ACode := g_law09_ShowWrong.c12F g_law09_ShowWrong.c11
def g_law09_ShowWrong.c13F (R_o2 : List AOper) (R_c2 : ACode) (R_c12 : ACode) : ACode :=
 .seq (.seq (.region [1, 2, 3, 9, 41] (some [9]) none
 (om 34 11 ::
 oo 35 (.bin .neq (.t 34) (.c (.d (.int .i64 0)))) ::
 oz 36 (.mv (.t 35)) [1, 2, 3, 9, 36] [9] ::
 R_o2))
 (R_c2))
 (R_c12)
def g_law09_ShowWrong.c13 : ACode := g_law09_ShowWrong.c13F g_law09_ShowWrong.o2 g_law09_ShowWrong.c2 g_law09_ShowWrong.c12
def g_law09_ShowWrong.c14F (R_c13 : ACode) : ACode :=
 .seq (.region [1, 2, 3, 9, 11] (some [9]) none
 [om 29 0,
 oo 30 (.call 144 [(.t 29)]),
 om 28 30,
 oo 31 (.ext (.t 28) 0),
 oo 32 (.ext (.t 28) 1),
 oo 33 (.ext (.t 28) 2),
 oo 9 (.alloc 9 [.cap0, .cap0]),
 ⟨none, .store 2 (.t 9) (.t 31), [], [], none, none⟩,
 om 10 32,
 om 11 33])
 (R_c13)
def g_law09_ShowWrong.c14 : ACode := g_law09_ShowWrong.c14F g_law09_ShowWrong.c13
def g_law09_ShowWrong.codeF (R_o0 : List AOper) (R_c0 : ACode) (R_c14 : ACode) : ACode :=
 .seq (.region [0, 1, 2, 3] (some []) none
 [oo 8 (.mv (.c (.d (.bool false))))])
 (.seq (.seq (.region [0, 1, 2, 3, 26] (some []) none
 (om 19 0 ::
 oo 20 (.lenS (.t 19)) ::
 oo 21 (.bin .gtr (.t 20) (.c (.d (.int .i64 300)))) ::
 oz 22 (.mv (.t 21)) [0, 1, 2, 3, 22] [] ::
 R_o0))
 (R_c0))
 (R_c14))
def g_law09_ShowWrong.code : ACode := g_law09_ShowWrong.codeF g_law09_ShowWrong.o0 g_law09_ShowWrong.c0 g_law09_ShowWrong.c14
def g_law09_ShowWrong : AFn := { N := 151, res := [.slot 8], own := [], frz := [], code := g_law09_ShowWrong.code }
def g_law09_awake.o7 : List AOper :=
 [oo 49 (.pick (.t 46) (.t 48) (.c (.d (.bool false)))),
 om 0 49]
def g_law09_awake.o6F (R_o7 : List AOper) : List AOper :=
 (og 47 (.mv (.t 9)) (14, 46, true) ::
 ow 48 (.bin .eql (.t 47) (.c (.d (.int .i64 0)))) (14, 46, true) [46, 48] [] ::
 R_o7)
def g_law09_awake.o6 : List AOper := g_law09_awake.o6F g_law09_awake.o7
def g_law09_awake.o5F (R_o6 : List AOper) : List AOper :=
 (oo 45 (.pick (.t 42) (.t 44) (.c (.d (.bool false)))) ::
 oz 46 (.mv (.t 45)) [9, 46] [] ::
 R_o6)
def g_law09_awake.o5 : List AOper := g_law09_awake.o5F g_law09_awake.o6
def g_law09_awake.o4F (R_o5 : List AOper) : List AOper :=
 (og 43 (.mv (.t 8)) (10, 42, true) ::
 ow 44 (.bin .eql (.t 43) (.c (.d (.str [49, 32, 43, 32, 50])))) (10, 42, true) [9, 42, 44] [] ::
 R_o5)
def g_law09_awake.o4 : List AOper := g_law09_awake.o4F g_law09_awake.o5
def g_law09_awake.o3F (R_o4 : List AOper) : List AOper :=
 (oo 41 (.pick (.t 38) (.t 40) (.c (.d (.bool false)))) ::
 oz 42 (.mv (.t 41)) [8, 9, 42] [] ::
 R_o4)
def g_law09_awake.o3 : List AOper := g_law09_awake.o3F g_law09_awake.o4
def g_law09_awake.o2F (R_o3 : List AOper) : List AOper :=
 (og 39 (.mv (.t 7)) (6, 38, true) ::
 ow 40 (.bin .eql (.t 39) (.c (.d (.int .i64 1)))) (6, 38, true) [8, 9, 38, 40] [] ::
 R_o3)
def g_law09_awake.o2 : List AOper := g_law09_awake.o2F g_law09_awake.o3
def g_law09_awake.o1F (R_o2 : List AOper) : List AOper :=
 (oo 37 (.pick (.t 34) (.t 36) (.c (.d (.bool false)))) ::
 oz 38 (.mv (.t 37)) [7, 8, 9, 38] [] ::
 R_o2)
def g_law09_awake.o1 : List AOper := g_law09_awake.o1F g_law09_awake.o2
def g_law09_awake.o0F (R_o1 : List AOper) : List AOper :=
 (og 35 (.mv (.t 5)) (2, 34, true) ::
 ow 36 (.bin .eql (.t 35) (.c (.d (.int .i64 0)))) (2, 34, true) [7, 8, 9, 34, 36] [] ::
 R_o1)
def g_law09_awake.o0 : List AOper := g_law09_awake.o0F g_law09_awake.o1
def g_law09_awake.c0 : ACode :=
 .ret
def g_law09_awake.c1F (R_o0 : List AOper) (R_c0 : ACode) : ACode :=
 .seq (.region [0] (some []) none
 (om 32 4 ::
 oo 33 (.bin .eql (.t 32) (.c (.d (.str [108, 101, 116, 32, 97, 32, 61, 32, 40, 49, 32, 43, 32, 50, 41, 32, 42, 32, 98, 59, 10])))) ::
 oz 34 (.mv (.t 33)) [5, 7, 8, 9, 34] [] ::
 R_o0))
 (R_c0)
def g_law09_awake.c1 : ACode := g_law09_awake.c1F g_law09_awake.o0 g_law09_awake.c0
def g_law09_awake.c2F (R_c1 : ACode) : ACode :=
 .seq (.region [4, 5, 7, 8, 9] (some []) none
 [oo 28 (.load (some 2) (.t 1)),
 oo 29 (.call 175 [(.t 28), (.c (.d (.int .i64 2)))]),
 om 27 29,
 oo 30 (.ext (.t 27) 0),
 oo 31 (.ext (.t 27) 1),
 om 8 30,
 om 9 31])
 (R_c1)
def g_law09_awake.c2 : ACode := g_law09_awake.c2F g_law09_awake.c1
def g_law09_awake.c3F (R_c2 : ACode) : ACode :=
 .seq (.region [1, 4, 5, 7] (some [1]) none
 [oo 21 (.build [.d (.str []), .d (.str []), .d (.int .i64 0)] []),
 oo 22 (.bsl none 3 [] 1 [(0, (.t 21))]),
 oo 23 (.build [.cap0, .cap0] [(0, 1, (.t 22))]),
 oo 24 (.call 174 [(.t 23)]),
 om 20 24,
 oo 25 (.ext (.t 20) 0),
 oo 26 (.ext (.t 20) 1),
 om 6 25,
 om 7 26])
 (R_c2)
def g_law09_awake.c3 : ACode := g_law09_awake.c3F g_law09_awake.c2
def g_law09_awake.c4F (R_c3 : ACode) : ACode :=
 .seq (.region [1, 4, 5] (some [1]) none
 [oo 16 (.load (some 2) (.t 1)),
 oo 17 (.call 174 [(.t 16)]),
 om 15 17,
 oo 18 (.ext (.t 15) 0),
 oo 19 (.ext (.t 15) 1),
 om 4 18,
 om 5 19])
 (R_c3)
def g_law09_awake.c4 : ACode := g_law09_awake.c4F g_law09_awake.c3
def g_law09_awake.codeF (R_c4 : ACode) : ACode :=
 .seq (.region [] (some []) none
 [oo 0 (.mv (.c (.d (.bool false))))])
 (.seq (.region [1] (some [1]) none
 [oo 11 (.call 144 [(.c (.d (.str [108, 101, 116, 32, 97, 61, 40, 49, 43, 50, 41, 42, 98, 59])))]),
 om 10 11,
 oo 12 (.ext (.t 10) 0),
 oo 13 (.ext (.t 10) 1),
 oo 14 (.ext (.t 10) 2),
 oo 1 (.alloc 1 [.cap0, .cap0]),
 ⟨none, .store 2 (.t 1) (.t 12), [], [], none, none⟩,
 om 2 13,
 om 3 14])
 (R_c4))
def g_law09_awake.code : ACode := g_law09_awake.codeF g_law09_awake.c4
def g_law09_awake : AFn := { N := 50, res := [.slot 0], own := [], frz := [], code := g_law09_awake.code }
def g_tree_Parse.o1 : List AOper :=
 [oo 38 (.pick (.t 32) (.t 37) (.c (.d (.bool false))))]
def g_tree_Parse.o0F (R_o1 : List AOper) : List AOper :=
 (og 33 (.mv (.t 8)) (7, 32, true) ::
 og 34 (.nilc (.t 33)) (7, 32, true) ::
 og 35 (.faddr 5 (.t 34)) (7, 32, true) ::
 og 36 (.load none (.t 35)) (7, 32, true) ::
 ⟨some 37, .bin .eql (.t 36) (.c (.d (.int .i64 0))), [], [], (some (7, 32, true)), (some ([2, 5, 8, 32, 37], none))⟩ ::
 R_o1)
def g_tree_Parse.o0 : List AOper := g_tree_Parse.o0F g_tree_Parse.o1
def g_tree_Parse.c0 : ACode :=
 .cond (.t 38) (.skip)
 (.exit 0)
def g_tree_Parse.c1 : ACode :=
 .block 1 [2, 5, 8] none (.region [2, 5, 8] none none
 [om 39 8,
 oo 40 (.call 153 [(.t 39)])])
def g_tree_Parse.l0F (R_o0 : List AOper) (R_c0 : ACode) (R_c1 : ACode) : ACode :=
 .loop [2, 5, 8] none (.seq (.seq (.region [2, 5, 8, 38] none none
 (om 25 8 ::
 oo 26 (.nilc (.t 25)) ::
 oo 27 (.faddr 2 (.t 26)) ::
 oo 28 (.load none (.t 27)) ::
 om 29 5 ::
 oo 30 (.len (.t 29)) ::
 oo 31 (.bin .lss (.t 28) (.t 30)) ::
 ⟨some 32, .mv (.t 31), [], [], none, (some ([2, 5, 8, 32], none))⟩ ::
 R_o0))
 (R_c0))
 (R_c1))
def g_tree_Parse.l0 : ACode := g_tree_Parse.l0F g_tree_Parse.o0 g_tree_Parse.c0 g_tree_Parse.c1
def g_tree_Parse.c2 : ACode :=
 .seq (.region [2, 3, 4] none none
 [om 55 8,
 oo 56 (.nilc (.t 55)),
 oo 57 (.faddr 3 (.t 56)),
 oo 58 (.load (some 2) (.t 57)),
 ⟨none, .store 2 (.t 2) (.t 58), [], [], none, none⟩,
 oo 3 (.mv (.c (.d (.int .i64 0)))),
 oo 4 (.mv (.c (.d (.int .i64 0))))])
 (.ret)
def g_tree_Parse.c3F (R_c2 : ACode) : ACode :=
 .seq (.seq (.region [2, 8, 45] none none
 [om 41 8,
 oo 42 (.nilc (.t 41)),
 oo 43 (.faddr 5 (.t 42)),
 oo 44 (.load none (.t 43)),
 oo 45 (.bin .neq (.t 44) (.c (.d (.int .i64 0))))])
 (.cond (.t 45) (.seq (.region [2, 3, 4] none (some ([0, 1, 2, 3, 1004, 5, 6, 7, 1008], .one 9 (.one 10 (.one 11 (.done)))))
 [oo 46 (.build [.cap0, .cap0] []),
 om 47 8,
 ⟨some 48, .nilc (.t 47), [], [1], none, none⟩,
 ⟨some 49, .faddr 6 (.t 48), [], [2], none, none⟩,
 ⟨some 50, .load none (.t 49), [], [3], none, none⟩,
 om 51 8,
 ⟨some 52, .nilc (.t 51), [], [5], none, none⟩,
 ⟨some 53, .faddr 5 (.t 52), [], [6], none, none⟩,
 ⟨some 54, .load none (.t 53), [], [7], none, none⟩,
 ⟨none, .store 2 (.t 2) (.t 46), [], [0, 0], none, none⟩,
 ⟨some 3, .mv (.t 50), [], [4, 9, 0, 1, 2, 3, 4, 9], none, none⟩,
 ⟨some 4, .mv (.t 54), [], [8, 10, 0, 1, 2, 3, 4, 5, 6, 7, 8, 9, 10], none, none⟩])
 (.ret))
 (.skip)))
 (R_c2)
def g_tree_Parse.c3 : ACode := g_tree_Parse.c3F g_tree_Parse.c2
def g_tree_Parse.c4F (R_l0 : ACode) (R_c3 : ACode) : ACode :=
 .seq (.block 0 [2, 8] none (R_l0))
 (R_c3)
def g_tree_Parse.c4 : ACode := g_tree_Parse.c4F g_tree_Parse.l0 g_tree_Parse.c3
def g_tree_Parse.c5F (R_c4 : ACode) : ACode :=
 .seq (.region [2, 5, 8] none none
 [om 20 5,
 om 21 0,
 oo 22 (.lenS (.t 21)),
 oo 23 (.build [.cap0, .d (.int .i64 0), .d (.int .i64 0), .cap0, .cap0, .d (.int .i64 0), .d (.int .i64 0)] [(0, 1, (.t 20)), (1, 1, (.t 22))]),
 oo 24 (.box 24 7 (.t 23)),
 om 8 24])
 (R_c4)
def g_tree_Parse.c5 : ACode := g_tree_Parse.c5F g_tree_Parse.c4
def g_tree_Parse.c6F (R_c5 : ACode) : ACode :=
 .seq (.seq (.region [0, 2, 5, 6, 7, 16] none none
 [om 15 7,
 oo 16 (.bin .neq (.t 15) (.c (.d (.int .i64 0))))])
 (.cond (.t 16) (.seq (.region [2, 3, 4] none none
 [oo 17 (.build [.cap0, .cap0] []),
 om 18 6,
 om 19 7,
 ⟨none, .store 2 (.t 2) (.t 17), [], [], none, none⟩,
 om 3 18,
 om 4 19])
 (.ret))
 (.skip)))
 (R_c5)
def g_tree_Parse.c6 : ACode := g_tree_Parse.c6F g_tree_Parse.c5
def g_tree_Parse.codeF (R_c6 : ACode) : ACode :=
 .seq (.region [0, 2] none none
 [oo 2 (.alloc 2 [.cap0, .cap0]),
 oo 3 (.mv (.c (.d (.int .i64 0)))),
 oo 4 (.mv (.c (.d (.int .i64 0))))])
 (.seq (.region [0, 2, 5, 6, 7] none none
 [om 10 0,
 oo 11 (.call 74 [(.t 10)]),
 om 9 11,
 oo 12 (.ext (.t 9) 0),
 oo 13 (.ext (.t 9) 1),
 oo 14 (.ext (.t 9) 2),
 om 5 12,
 om 6 13,
 om 7 14])
 (R_c6))
def g_tree_Parse.code : ACode := g_tree_Parse.codeF g_tree_Parse.c6
def g_tree_Parse : AFn := { N := 59, res := [.cell 2 (some 2), .slot 3, .slot 4], own := [], frz := [2], code := g_tree_Parse.code }
def g_show_Text.o1 : List AOper :=
 [oo 26 (.pick (.t 21) (.c (.d (.bool true))) (.t 25))]
def g_show_Text.o0F (R_o1 : List AOper) : List AOper :=
 (og 22 (.load (some 2) (.t 1)) (2, 21, false) ::
 og 23 (.load (some 2) (.t 5)) (2, 21, false) ::
 og 24 (.call 199 [(.t 22), (.t 23)]) (2, 21, false) ::
 ow 25 (.un .not (.t 24)) (2, 21, false) [4, 21, 25] [] ::
 R_o1)
def g_show_Text.o0 : List AOper := g_show_Text.o0F g_show_Text.o1
def g_show_Text.c0 : ACode :=
 .cond (.t 26) (.seq (.region [2, 3] (some []) none
 [oo 2 (.mv (.c (.d (.str [])))),
 oo 3 (.mv (.c (.d (.int .i64 1))))])
 (.ret))
 (.skip)
def g_show_Text.c1 : ACode :=
 .seq (.region [2, 3] (some []) none
 [om 27 4,
 om 2 27,
 oo 3 (.mv (.c (.d (.int .i64 0))))])
 (.ret)
def g_show_Text.c2F (R_o0 : List AOper) (R_c0 : ACode) (R_c1 : ACode) : ACode :=
 .seq (.seq (.region [4, 26] (some []) none
 (om 19 7 ::
 oo 20 (.bin .neq (.t 19) (.c (.d (.int .i64 0)))) ::
 oz 21 (.mv (.t 20)) [1, 4, 5, 21] [1, 5] ::
 R_o0))
 (R_c0))
 (R_c1)
def g_show_Text.c2 : ACode := g_show_Text.c2F g_show_Text.o0 g_show_Text.c0 g_show_Text.c1
def g_show_Text.c3F (R_c2 : ACode) : ACode :=
 .seq (.region [1, 4] (some [1]) none
 [oo 11 (.load (some 2) (.t 1)),
 oo 12 (.call 198 [(.t 11)]),
 om 4 12])
 (.seq (.region [1, 4, 5, 7] (some [1, 5]) none
 [om 14 4,
 oo 15 (.call 144 [(.t 14)]),
 om 13 15,
 oo 16 (.ext (.t 13) 0),
 oo 17 (.ext (.t 13) 1),
 oo 18 (.ext (.t 13) 2),
 oo 5 (.alloc 5 [.cap0, .cap0]),
 ⟨none, .store 2 (.t 5) (.t 16), [], [], none, none⟩,
 om 6 17,
 om 7 18])
 (R_c2))
def g_show_Text.c3 : ACode := g_show_Text.c3F g_show_Text.c2
def g_show_Text.codeF (R_c3 : ACode) : ACode :=
 .seq (.region [1] (some [1]) none
 [oo 1 (.box 1 2 (.t 0)),
 oo 2 (.mv (.c (.d (.str [])))),
 oo 3 (.mv (.c (.d (.int .i64 0))))])
 (.seq (.seq (.region [1, 10] (some [1]) none
 [oo 8 (.load (some 2) (.t 1)),
 oo 9 (.call 197 [(.t 8)]),
 oo 10 (.un .not (.t 9))])
 (.cond (.t 10) (.seq (.region [2, 3] (some []) none
 [oo 2 (.mv (.c (.d (.str [])))),
 oo 3 (.mv (.c (.d (.int .i64 1))))])
 (.ret))
 (.skip)))
 (R_c3))
def g_show_Text.code : ACode := g_show_Text.codeF g_show_Text.c3
def g_show_Text : AFn := { N := 28, res := [.slot 2, .slot 3], own := [], frz := [], code := g_show_Text.code }
def g_show_Expr.o3 : List AOper :=
 [oo 25 (.pick (.t 19) (.c (.d (.bool true))) (.t 24))]
def g_show_Expr.o2F (R_o3 : List AOper) : List AOper :=
 (og 20 (.mv (.t 1)) (6, 19, false) ::
 og 21 (.faddr 1 (.t 2)) (6, 19, false) ::
 og 22 (.load none (.t 21)) (6, 19, false) ::
 og 23 (.len (.t 22)) (6, 19, false) ::
 ow 24 (.bin .geq (.t 20) (.t 23)) (6, 19, false) [1, 2, 19, 24] [2] ::
 R_o3)
def g_show_Expr.o2 : List AOper := g_show_Expr.o2F g_show_Expr.o3
def g_show_Expr.o1F (R_o2 : List AOper) : List AOper :=
 (oo 18 (.pick (.t 15) (.c (.d (.bool true))) (.t 17)) ::
 oz 19 (.mv (.t 18)) [1, 2, 19] [2] ::
 R_o2)
def g_show_Expr.o1 : List AOper := g_show_Expr.o1F g_show_Expr.o2
def g_show_Expr.o0F (R_o1 : List AOper) : List AOper :=
 (og 16 (.mv (.t 1)) (2, 15, false) ::
 ow 17 (.bin .lss (.t 16) (.c (.d (.int .i64 0)))) (2, 15, false) [1, 2, 15, 17] [2] ::
 R_o1)
def g_show_Expr.o0 : List AOper := g_show_Expr.o0F g_show_Expr.o1
def g_show_Expr.c0 : ACode :=
 .cond (.t 25) (.seq (.region [4, 5] (some []) none
 [oo 4 (.mv (.c (.d (.str [])))),
 oo 5 (.mv (.c (.d (.int .i64 1))))])
 (.ret))
 (.skip)
def g_show_Expr.c1F (R_o0 : List AOper) (R_c0 : ACode) : ACode :=
 .seq (.region [1, 2, 25] (some [2]) none
 (om 13 7 ::
 oo 14 (.bin .neq (.t 13) (.c (.d (.int .i64 0)))) ::
 oz 15 (.mv (.t 14)) [1, 2, 15] [2] ::
 R_o0))
 (R_c0)
def g_show_Expr.c1 : ACode := g_show_Expr.c1F g_show_Expr.o0 g_show_Expr.c0
def g_show_Expr.c2 : ACode :=
 .seq (.region [4, 5] (some []) none
 [oo 26 (.load (some 2) (.t 2)),
 om 27 1,
 oo 28 (.call 200 [(.t 26), (.t 27)]),
 om 4 28,
 oo 5 (.mv (.c (.d (.int .i64 0))))])
 (.ret)
def g_show_Expr.codeF (R_c1 : ACode) (R_c2 : ACode) : ACode :=
 .seq (.region [1, 2] (some [2]) none
 [oo 2 (.box 2 2 (.t 0)),
 oo 4 (.mv (.c (.d (.str [])))),
 oo 5 (.mv (.c (.d (.int .i64 0))))])
 (.seq (.seq (.region [1, 2, 7] (some [2]) none
 [oo 9 (.load (some 2) (.t 2)),
 oo 10 (.call 174 [(.t 9)]),
 om 8 10,
 oo 11 (.ext (.t 8) 0),
 oo 12 (.ext (.t 8) 1),
 om 6 11,
 om 7 12])
 (R_c1))
 (R_c2))
def g_show_Expr.code : ACode := g_show_Expr.codeF g_show_Expr.c1 g_show_Expr.c2
def g_show_Expr : AFn := { N := 29, res := [.slot 4, .slot 5], own := [], frz := [], code := g_show_Expr.code }
def g_ref08_Same.o1 : List AOper :=
 [oo 22 (.pick (.t 14) (.c (.d (.bool true))) (.t 21))]
def g_ref08_Same.o0F (R_o1 : List AOper) : List AOper :=
 (og 15 (.faddr 1 (.t 2)) (7, 14, false) ::
 og 16 (.load none (.t 15)) (7, 14, false) ::
 og 17 (.len (.t 16)) (7, 14, false) ::
 og 18 (.faddr 1 (.t 3)) (7, 14, false) ::
 og 19 (.load none (.t 18)) (7, 14, false) ::
 og 20 (.len (.t 19)) (7, 14, false) ::
 ow 21 (.bin .neq (.t 17) (.t 20)) (7, 14, false) [2, 3, 14, 21] [2, 3] ::
 R_o1)
def g_ref08_Same.o0 : List AOper := g_ref08_Same.o0F g_ref08_Same.o1
def g_ref08_Same.c0 : ACode :=
 .cond (.t 22) (.seq (.region [4] (some []) none
 [oo 4 (.mv (.c (.d (.bool false))))])
 (.ret))
 (.skip)
def g_ref08_Same.c1 : ACode :=
 .region [2, 3, 5] (some [2, 3]) none
 [om 28 5,
 oo 29 (.bin .add (.t 28) (.c (.d (.int .i64 1)))),
 om 5 29]
def g_ref08_Same.c2F (R_c1 : ACode) : ACode :=
 .seq (.block 1 [2, 3, 5] (some [2, 3]) (.seq (.region [2, 3, 5, 40] (some [2, 3]) (some ([0, 1, 2, 3, 4, 5, 6, 7, 8, 9, 10], .done))
 [oo 30 (.faddr 0 (.t 2)),
 ⟨some 31, .load none (.t 30), [], [0], none, none⟩,
 om 32 5,
 ⟨some 33, .iaddr 3 (.t 31) (.t 32), [], [1, 2], none, none⟩,
 ⟨some 34, .load (some 3) (.t 33), [], [3], none, none⟩,
 oo 35 (.faddr 0 (.t 3)),
 ⟨some 36, .load none (.t 35), [], [5], none, none⟩,
 om 37 5,
 ⟨some 38, .iaddr 3 (.t 36) (.t 37), [], [6, 7], none, none⟩,
 ⟨some 39, .load (some 3) (.t 38), [], [8], none, none⟩,
 ⟨some 40, .eqs true [2, 2, 0] (.t 34) (.t 39), [], [4, 9], none, none⟩])
 (.cond (.t 40) (.seq (.region [4] (some []) none
 [oo 4 (.mv (.c (.d (.bool false))))])
 (.ret))
 (.skip))))
 (R_c1)
def g_ref08_Same.c2 : ACode := g_ref08_Same.c2F g_ref08_Same.c1
def g_ref08_Same.l0F (R_c2 : ACode) : ACode :=
 .loop [2, 3, 5] (some [2, 3]) (.seq (.seq (.region [2, 3, 5, 27] (some [2, 3]) none
 [om 23 5,
 oo 24 (.faddr 0 (.t 2)),
 oo 25 (.load none (.t 24)),
 oo 26 (.len (.t 25)),
 oo 27 (.bin .lss (.t 23) (.t 26))])
 (.cond (.t 27) (.skip)
 (.exit 0)))
 (R_c2))
def g_ref08_Same.l0 : ACode := g_ref08_Same.l0F g_ref08_Same.c2
def g_ref08_Same.c3 : ACode :=
 .region [2, 3, 6] (some [2, 3]) none
 [om 46 6,
 oo 47 (.bin .add (.t 46) (.c (.d (.int .i64 1)))),
 om 6 47]
def g_ref08_Same.c4F (R_c3 : ACode) : ACode :=
 .seq (.block 3 [2, 3, 6] (some [2, 3]) (.seq (.region [2, 3, 6, 58] (some [2, 3]) (some ([0, 1, 2, 3, 4, 5, 6, 7, 8, 9, 10], .done))
 [oo 48 (.faddr 1 (.t 2)),
 ⟨some 49, .load none (.t 48), [], [0], none, none⟩,
 om 50 6,
 ⟨some 51, .iaddr 6 (.t 49) (.t 50), [], [1, 2], none, none⟩,
 ⟨some 52, .load (some 6) (.t 51), [], [3], none, none⟩,
 oo 53 (.faddr 1 (.t 3)),
 ⟨some 54, .load none (.t 53), [], [5], none, none⟩,
 om 55 6,
 ⟨some 56, .iaddr 6 (.t 54) (.t 55), [], [6, 7], none, none⟩,
 ⟨some 57, .load (some 6) (.t 56), [], [8], none, none⟩,
 ⟨some 58, .eqs true [2, 2, 0, 0, 0, 0] (.t 52) (.t 57), [], [4, 9], none, none⟩])
 (.cond (.t 58) (.seq (.region [4] (some []) none
 [oo 4 (.mv (.c (.d (.bool false))))])
 (.ret))
 (.skip))))
 (R_c3)
def g_ref08_Same.c4 : ACode := g_ref08_Same.c4F g_ref08_Same.c3
def g_ref08_Same.l1F (R_c4 : ACode) : ACode :=
 .loop [2, 3, 6] (some [2, 3]) (.seq (.seq (.region [2, 3, 6, 45] (some [2, 3]) none
 [om 41 6,
 oo 42 (.faddr 1 (.t 2)),
 oo 43 (.load none (.t 42)),
 oo 44 (.len (.t 43)),
 oo 45 (.bin .lss (.t 41) (.t 44))])
 (.cond (.t 45) (.skip)
 (.exit 2)))
 (R_c4))
def g_ref08_Same.l1 : ACode := g_ref08_Same.l1F g_ref08_Same.c4
def g_ref08_Same.c5 : ACode :=
 .seq (.region [4] (some []) none
 [oo 4 (.mv (.c (.d (.bool true))))])
 (.ret)
def g_ref08_Same.c6F (R_l1 : ACode) (R_c5 : ACode) : ACode :=
 .seq (.seq (.region [2, 3, 6] (some [2, 3]) none
 [oo 6 (.mv (.c (.d (.int .i64 0))))])
 (.block 2 [] (some []) (R_l1)))
 (R_c5)
def g_ref08_Same.c6 : ACode := g_ref08_Same.c6F g_ref08_Same.l1 g_ref08_Same.c5
def g_ref08_Same.c7F (R_l0 : ACode) (R_c6 : ACode) : ACode :=
 .seq (.seq (.region [2, 3, 5] (some [2, 3]) none
 [oo 5 (.mv (.c (.d (.int .i64 0))))])
 (.block 0 [2, 3] (some [2, 3]) (R_l0)))
 (R_c6)
def g_ref08_Same.c7 : ACode := g_ref08_Same.c7F g_ref08_Same.l0 g_ref08_Same.c6
def g_ref08_Same.codeF (R_o0 : List AOper) (R_c0 : ACode) (R_c7 : ACode) : ACode :=
 .seq (.region [2, 3] (some [2, 3]) none
 [oo 2 (.box 2 2 (.t 0)),
 oo 3 (.box 3 2 (.t 1)),
 oo 4 (.mv (.c (.d (.bool false))))])
 (.seq (.seq (.region [2, 3, 22] (some [2, 3]) none
 (oo 7 (.faddr 0 (.t 2)) ::
 oo 8 (.load none (.t 7)) ::
 oo 9 (.len (.t 8)) ::
 oo 10 (.faddr 0 (.t 3)) ::
 oo 11 (.load none (.t 10)) ::
 oo 12 (.len (.t 11)) ::
 oo 13 (.bin .neq (.t 9) (.t 12)) ::
 oz 14 (.mv (.t 13)) [2, 3, 14] [2, 3] ::
 R_o0))
 (R_c0))
 (R_c7))
def g_ref08_Same.code : ACode := g_ref08_Same.codeF g_ref08_Same.o0 g_ref08_Same.c0 g_ref08_Same.c7
def g_ref08_Same : AFn := { N := 59, res := [.slot 4], own := [], frz := [], code := g_ref08_Same.code }
def g_law09_ref.c0 : ACode :=
 .region [1, 2, 3, 9, 10, 11] (some [1, 2, 3, 19, 33]) none
 [oo 15 (.faddr 0 (.t 3)),
 oo 16 (.load none (.t 15)),
 oo 17 (.load (some 3) (.t 5)),
 oo 18 (.bsl none 3 [] 1 [(0, (.t 17))]),
 oo 19 (.app (some 19) 3 40 (.t 16) (.t 18)),
 oo 20 (.faddr 0 (.t 3)),
 ⟨none, .store 1 (.t 20) (.t 19), [], [], none, none⟩]
def g_law09_ref.c1 : ACode :=
 .region [1, 2, 3, 9, 10, 11] (some [1, 2, 3, 19, 33]) none
 [oo 21 (.bin .add (.t 11) (.c (.d (.int .i64 1)))),
 om 11 21]
def g_law09_ref.l0F (R_c0 : ACode) (R_c1 : ACode) : ACode :=
 .loop [1, 2, 3, 9, 10, 11] (some [1, 2, 3, 19, 33]) (.seq (.region [1, 2, 3, 9, 10, 11, 12] (some [1, 2, 3, 19, 33]) none
 [oo 12 (.bin .lss (.t 11) (.t 10))])
 (.seq (.cond (.t 12) (.skip)
 (.exit 0))
 (.seq (.block 1 [1, 2, 3, 9, 10, 11] (some [1, 2, 3, 19, 33]) (.seq (.region [1, 2, 3, 5, 9, 10, 11] (some [1, 2, 3, 5, 19, 33]) none
 [oo 13 (.iaddr 3 (.t 9) (.t 11)),
 oo 14 (.load (some 3) (.t 13)),
 oo 5 (.alloc 5 [.d (.str []), .d (.str []), .d (.int .i64 0)]),
 ⟨none, .store 3 (.t 5) (.t 14), [], [], none, none⟩])
 (R_c0)))
 (R_c1))))
def g_law09_ref.l0 : ACode := g_law09_ref.l0F g_law09_ref.c0 g_law09_ref.c1
def g_law09_ref.c2F (R_l0 : ACode) : ACode :=
 .block 0 [1, 2, 3] (some [1, 2, 3, 19, 33]) (R_l0)
def g_law09_ref.c2 : ACode := g_law09_ref.c2F g_law09_ref.l0
def g_law09_ref.c3 : ACode :=
 .region [2, 3, 23, 24, 25] (some [2, 3, 19, 33]) none
 [oo 29 (.faddr 1 (.t 3)),
 oo 30 (.load none (.t 29)),
 oo 31 (.load (some 6) (.t 7)),
 oo 32 (.bsl none 6 [] 1 [(0, (.t 31))]),
 oo 33 (.app (some 33) 6 64 (.t 30) (.t 32)),
 oo 34 (.faddr 1 (.t 3)),
 ⟨none, .store 1 (.t 34) (.t 33), [], [], none, none⟩]
def g_law09_ref.c4 : ACode :=
 .region [2, 3, 23, 24, 25] (some [2, 3, 19, 33]) none
 [oo 35 (.bin .add (.t 25) (.c (.d (.int .i64 1)))),
 om 25 35]
def g_law09_ref.l1F (R_c3 : ACode) (R_c4 : ACode) : ACode :=
 .loop [2, 3, 23, 24, 25] (some [2, 3, 19, 33]) (.seq (.region [2, 3, 23, 24, 25, 26] (some [2, 3, 19, 33]) none
 [oo 26 (.bin .lss (.t 25) (.t 24))])
 (.seq (.cond (.t 26) (.skip)
 (.exit 2))
 (.seq (.block 3 [2, 3, 23, 24, 25] (some [2, 3, 19, 33]) (.seq (.region [2, 3, 7, 23, 24, 25] (some [2, 3, 7, 19, 33]) none
 [oo 27 (.iaddr 6 (.t 23) (.t 25)),
 oo 28 (.load (some 6) (.t 27)),
 oo 7 (.alloc 7 [.d (.str []), .d (.str []), .d (.int .i64 0), .d (.int .i64 0), .d (.int .i64 0), .d (.int .i64 0)]),
 ⟨none, .store 6 (.t 7) (.t 28), [], [], none, none⟩])
 (R_c3)))
 (R_c4))))
def g_law09_ref.l1 : ACode := g_law09_ref.l1F g_law09_ref.c3 g_law09_ref.c4
def g_law09_ref.c5F (R_l1 : ACode) : ACode :=
 .block 2 [2, 3] (some [2, 3, 19, 33]) (R_l1)
def g_law09_ref.c5 : ACode := g_law09_ref.c5F g_law09_ref.l1
def g_law09_ref.c6 : ACode :=
 .seq (.region [2] (some [2, 19, 33]) none
 [oo 36 (.load (some 2) (.t 3)),
 ⟨none, .store 2 (.t 2) (.t 36), [], [], none, none⟩])
 (.ret)
def g_law09_ref.c7F (R_c5 : ACode) (R_c6 : ACode) : ACode :=
 .seq (.seq (.region [2, 3, 23, 24, 25] (some [2, 3, 19, 33]) none
 [oo 22 (.faddr 1 (.t 1)),
 oo 23 (.load none (.t 22)),
 oo 24 (.len (.t 23)),
 oo 25 (.mv (.c (.d (.int .i64 0))))])
 (R_c5))
 (R_c6)
def g_law09_ref.c7 : ACode := g_law09_ref.c7F g_law09_ref.c5 g_law09_ref.c6
def g_law09_ref.codeF (R_c2 : ACode) (R_c7 : ACode) : ACode :=
 .seq (.region [1, 2] (some [1, 2, 19, 33]) none
 [oo 1 (.box 1 2 (.t 0)),
 oo 2 (.alloc 2 [.cap0, .cap0])])
 (.seq (.region [1, 2, 3] (some [1, 2, 3, 19, 33]) none
 [oo 3 (.alloc 3 [.cap0, .cap0])])
 (.seq (.seq (.region [1, 2, 3, 9, 10, 11] (some [1, 2, 3, 19, 33]) none
 [oo 8 (.faddr 0 (.t 1)),
 oo 9 (.load none (.t 8)),
 oo 10 (.len (.t 9)),
 oo 11 (.mv (.c (.d (.int .i64 0))))])
 (R_c2))
 (R_c7)))
def g_law09_ref.code : ACode := g_law09_ref.codeF g_law09_ref.c2 g_law09_ref.c7
def g_law09_ref : AFn := { N := 37, res := [.cell 2 (some 2)], own := [], frz := [2], code := g_law09_ref.code }
def g_lex_All.o1 : List AOper :=
 [oo 23 (.pick (.t 18) (.c (.d (.bool true))) (.t 22))]
def g_lex_All.o0F (R_o1 : List AOper) : List AOper :=
 (og 19 (.mv (.t 0)) (4, 18, false) ::
 og 20 (.mv (.t 6)) (4, 18, false) ::
 og 21 (.idx (.t 19) (.t 20)) (4, 18, false) ::
 ow 22 (.bin .eql (.t 21) (.c (.d (.int .u8 10)))) (4, 18, false) [0, 5, 6, 18, 22] [55] ::
 R_o1)
def g_lex_All.o0 : List AOper := g_lex_All.o0F g_lex_All.o1
def g_lex_All.c0 : ACode :=
 .cond (.t 23) (.seq (.region [0, 5, 6] (some [55]) none
 [om 24 6,
 oo 25 (.bin .add (.t 24) (.c (.d (.int .i64 1)))),
 om 6 25])
 (.exit 1000000))
 (.skip)
def g_lex_All.c1 : ACode :=
 .seq (.region [0, 5, 6] (some [55]) none
 [om 56 6,
 om 57 8,
 oo 58 (.bin .add (.t 56) (.t 57)),
 om 6 58])
 (.exit 1000000)
def g_lex_All.c2F (R_c1 : ACode) : ACode :=
 .seq (.region [0, 5, 6, 8] (some [55]) none
 [om 44 5,
 om 45 7,
 om 46 0,
 om 47 6,
 om 48 6,
 om 49 8,
 oo 50 (.bin .add (.t 48) (.t 49)),
 oo 51 (.slcS (.t 46) (some (.t 47)) (some (.t 50))),
 om 52 6,
 oo 53 (.build [.d (.int .i64 0), .d (.str []), .d (.int .i64 0)] [(0, 1, (.t 45)), (1, 1, (.t 51)), (2, 1, (.t 52))]),
 oo 54 (.bsl none 3 [] 1 [(0, (.t 53))]),
 oo 55 (.app (some 55) 3 32 (.t 44) (.t 54)),
 om 5 55])
 (R_c1)
def g_lex_All.c2 : ACode := g_lex_All.c2F g_lex_All.c1
def g_lex_All.c3F (R_c2 : ACode) : ACode :=
 .seq (.seq (.region [0, 5, 6, 7, 8, 42] (some [55]) none
 [om 41 7,
 oo 42 (.bin .eql (.t 41) (.c (.d (.int .i64 0))))])
 (.cond (.t 42) (.seq (.region [2, 3, 4] (some [55]) none
 [om 43 6,
 oo 2 (.mv (.c (.cap0))),
 om 3 43,
 oo 4 (.mv (.c (.d (.int .i64 2))))])
 (.ret))
 (.skip)))
 (R_c2)
def g_lex_All.c3 : ACode := g_lex_All.c3F g_lex_All.c2
def g_lex_All.c4F (R_c3 : ACode) : ACode :=
 .seq (.region [0, 5, 6, 7, 8] (some [55]) none
 [om 36 0,
 om 37 6,
 oo 38 (.call 104 [(.t 36), (.t 37)]),
 om 35 38,
 oo 39 (.ext (.t 35) 0),
 oo 40 (.ext (.t 35) 1),
 om 7 39,
 om 8 40])
 (R_c3)
def g_lex_All.c4 : ACode := g_lex_All.c4F g_lex_All.c3
def g_lex_All.c5F (R_c4 : ACode) : ACode :=
 .seq (.seq (.region [0, 5, 6, 29] (some [55]) none
 [om 26 0,
 om 27 6,
 oo 28 (.idx (.t 26) (.t 27)),
 oo 29 (.bin .eql (.t 28) (.c (.d (.int .u8 35))))])
 (.cond (.t 29) (.seq (.region [0, 5, 6] (some [55]) none
 [om 30 6,
 om 31 0,
 om 32 6,
 oo 33 (.call 102 [(.t 31), (.t 32), (.f 103)]),
 oo 34 (.bin .add (.t 30) (.t 33)),
 om 6 34])
 (.exit 1000000))
 (.skip)))
 (R_c4)
def g_lex_All.c5 : ACode := g_lex_All.c5F g_lex_All.c4
def g_lex_All.c6F (R_o0 : List AOper) (R_c0 : ACode) (R_c5 : ACode) : ACode :=
 .seq (.seq (.region [0, 5, 6, 23] (some [55]) none
 (om 14 0 ::
 om 15 6 ::
 oo 16 (.idx (.t 14) (.t 15)) ::
 oo 17 (.bin .eql (.t 16) (.c (.d (.int .u8 32)))) ::
 oz 18 (.mv (.t 17)) [0, 5, 6, 18] [55] ::
 R_o0))
 (R_c0))
 (R_c5)
def g_lex_All.c6 : ACode := g_lex_All.c6F g_lex_All.o0 g_lex_All.c0 g_lex_All.c5
def g_lex_All.c7F (R_c6 : ACode) : ACode :=
 .seq (.seq (.region [0, 5, 6, 12] (some [55]) none
 [om 9 6,
 om 10 0,
 oo 11 (.lenS (.t 10)),
 oo 12 (.bin .geq (.t 9) (.t 11))])
 (.cond (.t 12) (.seq (.region [2, 3, 4] (some [55]) none
 [om 13 5,
 om 2 13,
 oo 3 (.mv (.c (.d (.int .i64 0)))),
 oo 4 (.mv (.c (.d (.int .i64 0))))])
 (.ret))
 (.skip)))
 (R_c6)
def g_lex_All.c7 : ACode := g_lex_All.c7F g_lex_All.c6
def g_lex_All.codeF (R_c7 : ACode) : ACode :=
 .seq (.region [0] (some []) none
 [oo 2 (.mv (.c (.cap0))),
 oo 3 (.mv (.c (.d (.int .i64 0)))),
 oo 4 (.mv (.c (.d (.int .i64 0))))])
 (.scope 0 [0, 5, 6] (some [55]) (.seq (.region [0, 5] (some [55]) none
 [oo 5 (.mv (.c (.cap0)))])
 (.seq (.region [0, 5, 6] (some [55]) none
 [oo 6 (.mv (.c (.d (.int .i64 0)))),
 oo 7 (.mv (.c (.d (.int .i64 0)))),
 oo 8 (.mv (.c (.d (.int .i64 0))))])
 (.seq (.skip)
 (R_c7))))
 (.seq .skip R_c7))
def g_lex_All.code : ACode := g_lex_All.codeF g_lex_All.c7
def g_lex_All : AFn := { N := 59, res := [.slot 2, .slot 3, .slot 4], own := [], frz := [2], code := g_lex_All.code }
def g_tree_parser_rule.a0 : List AOper :=
 [om 9 0,
 ⟨some 10, .nilc (.t 9), [], [0], none, none⟩,
 ⟨some 11, .faddr 3 (.t 10), [], [1], none, none⟩,
 ⟨some 12, .faddr 0 (.t 11), [], [2], none, none⟩,
 ⟨some 13, .load none (.t 12), [], [3], none, none⟩,
 ⟨some 14, .len (.t 13), [], [4], none, none⟩,
 ⟨some 15, .bin .geq (.t 14) (.c (.d (.int .i64 60))), [], [5], none, none⟩,
 ⟨some 16, .mv (.t 15), [], [6], none, none⟩,
 ⟨some 17, .faddr 0 (.t 2), [], [7], (some (7, 16, true)), none⟩,
 ⟨some 18, .load none (.t 17), [], [8, 7], (some (7, 16, true)), none⟩,
 ⟨some 19, .bin .eql (.t 18) (.c (.d (.int .i64 1))), [], [9, 7], (some (7, 16, true)), none⟩,
 ⟨some 20, .pick (.t 16) (.t 19) (.c (.d (.bool false))), [], [7, 10], none, none⟩,
 ⟨some 21, .mv (.t 20), [], [11, 7], none, none⟩,
 ⟨some 22, .call 157 [], [], [12, 12], (some (12, 21, true)), none⟩,
 ⟨some 23, .faddr 1 (.t 2), [], [12], (some (12, 21, true)), none⟩,
 ⟨some 24, .load none (.t 23), [], [14, 12], (some (12, 21, true)), none⟩,
 ⟨some 25, .call 155 [(.t 22), (.t 24)], [], [13, 15, 13, 12], (some (12, 21, true)), none⟩,
 ⟨some 26, .pick (.t 21) (.t 25) (.c (.d (.bool false))), [], [12, 16], none, none⟩]
def g_tree_parser_rule.t4 : Tr := .one 17 .done
def g_tree_parser_rule.t5 : Tr := .one 16 g_tree_parser_rule.t4
def g_tree_parser_rule.t6 : Tr := .one 15 g_tree_parser_rule.t5
def g_tree_parser_rule.t7 : Tr := .one 14 g_tree_parser_rule.t6
def g_tree_parser_rule.t8 : Tr := .one 13 g_tree_parser_rule.t5
def g_tree_parser_rule.t9 : Tr := .one 15 g_tree_parser_rule.t8
def g_tree_parser_rule.t10 : Tr := .two 13 g_tree_parser_rule.t6 g_tree_parser_rule.t9
def g_tree_parser_rule.t11 : Tr := .one 14 g_tree_parser_rule.t10
def g_tree_parser_rule.t12 : Tr := .two 13 g_tree_parser_rule.t7 g_tree_parser_rule.t11
def g_tree_parser_rule.t13 : Tr := .one 12 g_tree_parser_rule.t12
def g_tree_parser_rule.t14 : Tr := .one 11 g_tree_parser_rule.t13
def g_tree_parser_rule.t15 : Tr := .one 10 g_tree_parser_rule.t14
def g_tree_parser_rule.t16 : Tr := .one 9 g_tree_parser_rule.t15
def g_tree_parser_rule.t17 : Tr := .one 8 g_tree_parser_rule.t16
def g_tree_parser_rule.t18 : Tr := .one 7 g_tree_parser_rule.t17
def g_tree_parser_rule.t19 : Tr := .one 6 g_tree_parser_rule.t18
def g_tree_parser_rule.t20 : Tr := .one 5 g_tree_parser_rule.t19
def g_tree_parser_rule.t21 : Tr := .one 4 g_tree_parser_rule.t20
def g_tree_parser_rule.i3 : List Nat := 3 :: []
def g_tree_parser_rule.i2 : List Nat := 2 :: g_tree_parser_rule.i3
def g_tree_parser_rule.i1 : List Nat := 1 :: g_tree_parser_rule.i2
def g_tree_parser_rule.c0 : ACode :=
 .cond (.t 26) (.seq (.region [] none none
 [om 27 0,
 oo 28 (.call 218 [(.t 27), (.c (.d (.int .i64 9)))])])
 (.ret))
 (.skip)
def g_tree_parser_rule.o23 : List AOper :=
 [oo 49 (.pick (.t 44) (.c (.d (.bool true))) (.t 48))]
def g_tree_parser_rule.o22F (R_o23 : List AOper) : List AOper :=
 (og 45 (.faddr 1 (.t 5)) (3, 44, false) ::
 og 46 (.load none (.t 45)) (3, 44, false) ::
 og 47 (.call 158 [(.t 46)]) (3, 44, false) ::
 ⟨some 48, .un .not (.t 47), [], [], (some (3, 44, false)), (some ([0, 3, 5, 44, 48], none))⟩ ::
 R_o23)
def g_tree_parser_rule.o22 : List AOper := g_tree_parser_rule.o22F g_tree_parser_rule.o23
def g_tree_parser_rule.c1 : ACode :=
 .cond (.t 49) (.seq (.region [] none none
 [om 50 0,
 oo 51 (.call 218 [(.t 50), (.c (.d (.int .i64 2)))])])
 (.ret))
 (.skip)
def g_tree_parser_rule.a24 : List AOper :=
 [om 65 0,
 om 66 0,
 ⟨some 67, .nilc (.t 66), [], [1], none, none⟩,
 ⟨some 68, .faddr 3 (.t 67), [], [2], none, none⟩,
 ⟨some 69, .faddr 0 (.t 68), [], [3], none, none⟩,
 ⟨some 70, .load none (.t 69), [], [4], none, none⟩,
 om 71 3,
 oo 72 (.faddr 1 (.t 5)),
 ⟨some 73, .load none (.t 72), [], [7], none, none⟩,
 om 74 6,
 ⟨some 75, .build [.d (.str []), .d (.str []), .d (.int .i64 0)] [(0, 1, (.t 71)), (1, 1, (.t 73)), (2, 1, (.t 74))], [], [6, 8, 9], none, none⟩,
 ⟨some 76, .bsl none 3 [] 1 [(0, (.t 75))], [], [10], none, none⟩,
 ⟨some 77, .app (some 77) 3 40 (.t 70) (.t 76), [], [5, 11], none, (some ([], none))⟩,
 ⟨some 78, .nilc (.t 65), [], [0, 0, 1, 2, 3, 4, 5, 6, 7, 8, 9, 10, 11, 12], none, none⟩,
 ⟨some 79, .faddr 3 (.t 78), [], [13, 0, 1, 2, 3, 4, 5, 6, 7, 8, 9, 10, 11, 12], none, none⟩,
 ⟨some 80, .faddr 0 (.t 79), [], [14, 0, 1, 2, 3, 4, 5, 6, 7, 8, 9, 10, 11, 12], none, none⟩,
 ⟨none, .store 1 (.t 80) (.t 77), [], [15, 12, 12, 0, 1, 2, 3, 4, 5, 6, 7, 8, 9, 10, 11, 12], none, none⟩]
def g_tree_parser_rule.t32 : Tr := .one 16 .done
def g_tree_parser_rule.t33 : Tr := .one 15 g_tree_parser_rule.t32
def g_tree_parser_rule.t34 : Tr := .one 14 g_tree_parser_rule.t33
def g_tree_parser_rule.t35 : Tr := .one 13 g_tree_parser_rule.t34
def g_tree_parser_rule.t36 : Tr := .one 12 g_tree_parser_rule.t35
def g_tree_parser_rule.t37 : Tr := .one 11 g_tree_parser_rule.t36
def g_tree_parser_rule.t38 : Tr := .one 10 g_tree_parser_rule.t37
def g_tree_parser_rule.t39 : Tr := .one 8 g_tree_parser_rule.t38
def g_tree_parser_rule.t40 : Tr := .one 5 g_tree_parser_rule.t36
def g_tree_parser_rule.t41 : Tr := .one 11 g_tree_parser_rule.t40
def g_tree_parser_rule.t42 : Tr := .two 5 g_tree_parser_rule.t37 g_tree_parser_rule.t41
def g_tree_parser_rule.t43 : Tr := .one 10 g_tree_parser_rule.t42
def g_tree_parser_rule.t44 : Tr := .two 5 g_tree_parser_rule.t38 g_tree_parser_rule.t43
def g_tree_parser_rule.t45 : Tr := .one 8 g_tree_parser_rule.t44
def g_tree_parser_rule.t46 : Tr := .two 5 g_tree_parser_rule.t39 g_tree_parser_rule.t45
def g_tree_parser_rule.i31 : List Nat := 9 :: []
def g_tree_parser_rule.i30 : List Nat := 7 :: g_tree_parser_rule.i31
def g_tree_parser_rule.i29 : List Nat := 6 :: g_tree_parser_rule.i30
def g_tree_parser_rule.i28 : List Nat := 4 :: g_tree_parser_rule.i29
def g_tree_parser_rule.i27 : List Nat := 3 :: g_tree_parser_rule.i28
def g_tree_parser_rule.i26 : List Nat := 2 :: g_tree_parser_rule.i27
def g_tree_parser_rule.i25 : List Nat := 1 :: g_tree_parser_rule.i26
def g_tree_parser_rule.c2F (R_i25 : List Nat) (R_t46 : Tr) : ACode :=
 .seq (.region [0, 3, 5] none none
 [om 59 0,
 oo 60 (.call 220 [(.t 59), (.c (.d (.str [61])))])])
 (.seq (.region [0, 3, 5, 6] none none
 [om 61 0,
 oo 62 (.call 221 [(.t 61), (.c (.d (.int .i64 1)))]),
 om 6 62])
 (.seq (.region [0, 3, 5, 6] none none
 [om 63 0,
 oo 64 (.call 220 [(.t 63), (.c (.d (.str [59])))])])
 (.region [] none (some (0 :: R_i25, R_t46)) g_tree_parser_rule.a24)))
def g_tree_parser_rule.c2 : ACode := g_tree_parser_rule.c2F g_tree_parser_rule.i25 g_tree_parser_rule.t46
def g_tree_parser_rule.c3F (R_c2 : ACode) : ACode :=
 .seq (.region [0, 3, 5] none none
 [om 52 0,
 oo 53 (.nilc (.t 52)),
 oo 54 (.faddr 2 (.t 53)),
 oo 55 (.load none (.t 54)),
 oo 56 (.bin .add (.t 55) (.c (.d (.int .i64 1)))),
 oo 57 (.nilc (.t 52)),
 oo 58 (.faddr 2 (.t 57)),
 ⟨none, .store 1 (.t 58) (.t 56), [], [], none, none⟩])
 (R_c2)
def g_tree_parser_rule.c3 : ACode := g_tree_parser_rule.c3F g_tree_parser_rule.c2
def g_tree_parser_rule.c4F (R_o22 : List AOper) (R_c1 : ACode) (R_c3 : ACode) : ACode :=
 .seq (.seq (.region [0, 3, 5, 49] none none
 (oo 41 (.faddr 0 (.t 5)) ::
 oo 42 (.load none (.t 41)) ::
 oo 43 (.bin .neq (.t 42) (.c (.d (.int .i64 1)))) ::
 ⟨some 44, .mv (.t 43), [], [], none, (some ([0, 3, 5, 44], none))⟩ ::
 R_o22))
 (R_c1))
 (R_c3)
def g_tree_parser_rule.c4 : ACode := g_tree_parser_rule.c4F g_tree_parser_rule.o22 g_tree_parser_rule.c1 g_tree_parser_rule.c3
def g_tree_parser_rule.c5F (R_c4 : ACode) : ACode :=
 .seq (.region [0, 3, 5] none none
 [om 39 0,
 oo 40 (.call 217 [(.t 39)]),
 oo 5 (.alloc 5 [.d (.int .i64 0), .d (.str []), .d (.int .i64 0)]),
 ⟨none, .store 3 (.t 5) (.t 40), [], [], none, none⟩])
 (R_c4)
def g_tree_parser_rule.c5 : ACode := g_tree_parser_rule.c5F g_tree_parser_rule.c4
def g_tree_parser_rule.c6F (R_c5 : ACode) : ACode :=
 .seq (.seq (.region [0, 3, 36] none none
 [om 35 4,
 oo 36 (.un .not (.t 35))])
 (.cond (.t 36) (.seq (.region [] none none
 [om 37 0,
 oo 38 (.call 218 [(.t 37), (.c (.d (.int .i64 2)))])])
 (.ret))
 (.skip)))
 (R_c5)
def g_tree_parser_rule.c6 : ACode := g_tree_parser_rule.c6F g_tree_parser_rule.c5
def g_tree_parser_rule.c7F (R_c6 : ACode) : ACode :=
 .seq (.region [0, 3, 4] none none
 [om 30 0,
 oo 31 (.call 157 []),
 oo 32 (.call 219 [(.t 30), (.t 31)]),
 om 29 32,
 oo 33 (.ext (.t 29) 0),
 oo 34 (.ext (.t 29) 1),
 om 3 33,
 om 4 34])
 (R_c6)
def g_tree_parser_rule.c7 : ACode := g_tree_parser_rule.c7F g_tree_parser_rule.c6
def g_tree_parser_rule.c8F (R_i1 : List Nat) (R_t21 : Tr) (R_c0 : ACode) (R_c7 : ACode) : ACode :=
 .seq (.seq (.region [0, 26] none (some (0 :: R_i1, R_t21)) g_tree_parser_rule.a0)
 (R_c0))
 (R_c7)
def g_tree_parser_rule.c8 : ACode := g_tree_parser_rule.c8F g_tree_parser_rule.i1 g_tree_parser_rule.t21 g_tree_parser_rule.c0 g_tree_parser_rule.c7
def g_tree_parser_rule.codeF (R_c8 : ACode) : ACode :=
 .seq (.region [0, 2] none none
 [om 7 0,
 oo 8 (.call 217 [(.t 7)]),
 oo 2 (.alloc 2 [.d (.int .i64 0), .d (.str []), .d (.int .i64 0)]),
 ⟨none, .store 3 (.t 2) (.t 8), [], [], none, none⟩])
 (R_c8)
def g_tree_parser_rule.code : ACode := g_tree_parser_rule.codeF g_tree_parser_rule.c8
def g_tree_parser_rule : AFn := { N := 81, res := [], own := [], frz := [], code := g_tree_parser_rule.code }
def g_show_sound.o1 : List AOper :=
 [oo 36 (.pick (.t 31) (.c (.d (.bool true))) (.t 35))]
def g_show_sound.o0F (R_o1 : List AOper) : List AOper :=
 (og 32 (.mv (.t 6)) (2, 31, false) ::
 og 33 (.mv (.t 3)) (2, 31, false) ::
 og 34 (.mm true [(.t 33), (.c (.d (.int .i64 1)))]) (2, 31, false) ::
 ow 35 (.bin .geq (.t 32) (.t 34)) (2, 31, false) [1, 3, 4, 10, 11, 12, 23, 24, 25, 31, 35] [1, 4] ::
 R_o1)
def g_show_sound.o0 : List AOper := g_show_sound.o0F g_show_sound.o1
def g_show_sound.c0 : ACode :=
 .cond (.t 36) (.seq (.region [2] (some []) none
 [oo 2 (.mv (.c (.d (.bool false))))])
 (.ret))
 (.skip)
def g_show_sound.c1 : ACode :=
 .region [1, 3, 4, 10, 11, 12, 23, 24, 25] (some [1, 4]) none
 [oo 37 (.bin .add (.t 25) (.c (.d (.int .i64 1)))),
 om 25 37]
def g_show_sound.l1F (R_o0 : List AOper) (R_c0 : ACode) (R_c1 : ACode) : ACode :=
 .loop [1, 3, 4, 10, 11, 12, 23, 24, 25] (some [1, 4]) (.seq (.region [1, 3, 4, 10, 11, 12, 23, 24, 25, 26] (some [1, 4]) none
 [oo 26 (.bin .lss (.t 25) (.t 24))])
 (.seq (.cond (.t 26) (.skip)
 (.exit 2))
 (.seq (.block 3 [1, 3, 4, 10, 11, 12, 23, 24, 25] (some [1, 4]) (.seq (.region [1, 3, 4, 6, 10, 11, 12, 23, 24, 25] (some [1, 4]) none
 [oo 27 (.iaddr 1 (.t 23) (.t 25)),
 oo 28 (.load none (.t 27)),
 om 6 28])
 (.seq (.region [1, 3, 4, 10, 11, 12, 23, 24, 25, 36] (some [1, 4]) none
 (om 29 6 ::
 oo 30 (.bin .lss (.t 29) (.c (.d (.int .i64 0)))) ::
 oz 31 (.mv (.t 30)) [1, 3, 4, 6, 10, 11, 12, 23, 24, 25, 31] [1, 4] ::
 R_o0))
 (R_c0))))
 (R_c1))))
def g_show_sound.l1 : ACode := g_show_sound.l1F g_show_sound.o0 g_show_sound.c0 g_show_sound.c1
def g_show_sound.c2F (R_l1 : ACode) : ACode :=
 .block 2 [1, 4, 10, 11, 12] (some [1, 4]) (R_l1)
def g_show_sound.c2 : ACode := g_show_sound.c2F g_show_sound.l1
def g_show_sound.o3 : List AOper :=
 [oo 47 (.pick (.t 42) (.c (.d (.bool true))) (.t 46))]
def g_show_sound.o2F (R_o3 : List AOper) : List AOper :=
 (og 43 (.faddr 1 (.t 4)) (4, 42, false) ::
 og 44 (.load none (.t 43)) (4, 42, false) ::
 og 45 (.lenS (.t 44)) (4, 42, false) ::
 ow 46 (.bin .gtr (.t 45) (.c (.d (.int .i64 12)))) (4, 42, false) [1, 10, 11, 12, 42, 46] [1] ::
 R_o3)
def g_show_sound.o2 : List AOper := g_show_sound.o2F g_show_sound.o3
def g_show_sound.c3 : ACode :=
 .cond (.t 47) (.seq (.region [2] (some []) none
 [oo 2 (.mv (.c (.d (.bool false))))])
 (.ret))
 (.skip)
def g_show_sound.c4F (R_o2 : List AOper) (R_c3 : ACode) : ACode :=
 .seq (.region [1, 10, 11, 12, 47] (some [1]) none
 (oo 38 (.faddr 0 (.t 4)) ::
 oo 39 (.load none (.t 38)) ::
 oo 40 (.lenS (.t 39)) ::
 oo 41 (.bin .gtr (.t 40) (.c (.d (.int .i64 12)))) ::
 oz 42 (.mv (.t 41)) [1, 4, 10, 11, 12, 42] [1, 4] ::
 R_o2))
 (R_c3)
def g_show_sound.c4 : ACode := g_show_sound.c4F g_show_sound.o2 g_show_sound.c3
def g_show_sound.c5F (R_c2 : ACode) (R_c4 : ACode) : ACode :=
 .seq (.seq (.region [1, 3, 4, 10, 11, 12, 23, 24, 25] (some [1, 4]) none
 [oo 17 (.faddr 3 (.t 4)),
 oo 18 (.load none (.t 17)),
 oo 19 (.faddr 4 (.t 4)),
 oo 20 (.load none (.t 19)),
 oo 21 (.faddr 5 (.t 4)),
 oo 22 (.load none (.t 21)),
 oo 23 (.bsl none 1 [] 3 [(0, (.t 18)), (1, (.t 20)), (2, (.t 22))]),
 oo 24 (.len (.t 23)),
 oo 25 (.mv (.c (.d (.int .i64 0))))])
 (R_c2))
 (R_c4)
def g_show_sound.c5 : ACode := g_show_sound.c5F g_show_sound.c2 g_show_sound.c4
def g_show_sound.c6 : ACode :=
 .region [1, 10, 11, 12] (some [1]) none
 [oo 48 (.bin .add (.t 12) (.c (.d (.int .i64 1)))),
 om 12 48]
def g_show_sound.l0F (R_c5 : ACode) (R_c6 : ACode) : ACode :=
 .loop [1, 10, 11, 12] (some [1]) (.seq (.region [1, 10, 11, 12, 13] (some [1]) none
 [oo 13 (.bin .lss (.t 12) (.t 11))])
 (.seq (.cond (.t 13) (.skip)
 (.exit 0))
 (.seq (.block 1 [1, 10, 11, 12] (some [1]) (.seq (.region [1, 3, 4, 10, 11, 12] (some [1, 4]) none
 [om 14 12,
 oo 15 (.iaddr 6 (.t 10) (.t 12)),
 oo 16 (.load (some 6) (.t 15)),
 oo 4 (.alloc 4 [.d (.str []), .d (.str []), .d (.int .i64 0), .d (.int .i64 0), .d (.int .i64 0), .d (.int .i64 0)]),
 om 3 14,
 ⟨none, .store 6 (.t 4) (.t 16), [], [], none, none⟩])
 (R_c5)))
 (R_c6))))
def g_show_sound.l0 : ACode := g_show_sound.l0F g_show_sound.c5 g_show_sound.c6
def g_show_sound.c7F (R_l0 : ACode) : ACode :=
 .block 0 [1] (some [1]) (R_l0)
def g_show_sound.c7 : ACode := g_show_sound.c7F g_show_sound.l0
def g_show_sound.o9 : List AOper :=
 [oo 78 (.pick (.t 73) (.c (.d (.bool true))) (.t 77))]
def g_show_sound.o8F (R_o9 : List AOper) : List AOper :=
 (og 74 (.faddr 1 (.t 8)) (17, 73, false) ::
 og 75 (.load none (.t 74)) (17, 73, false) ::
 og 76 (.lenS (.t 75)) (17, 73, false) ::
 ow 77 (.bin .gtr (.t 76) (.c (.d (.int .i64 12)))) (17, 73, false) [1, 50, 51, 52, 73, 77] [1] ::
 R_o9)
def g_show_sound.o8 : List AOper := g_show_sound.o8F g_show_sound.o9
def g_show_sound.o7F (R_o8 : List AOper) : List AOper :=
 (oo 72 (.pick (.t 67) (.c (.d (.bool true))) (.t 71)) ::
 oz 73 (.mv (.t 72)) [1, 8, 50, 51, 52, 73] [1, 8] ::
 R_o8)
def g_show_sound.o7 : List AOper := g_show_sound.o7F g_show_sound.o8
def g_show_sound.o6F (R_o7 : List AOper) : List AOper :=
 (og 68 (.faddr 0 (.t 8)) (11, 67, false) ::
 og 69 (.load none (.t 68)) (11, 67, false) ::
 og 70 (.lenS (.t 69)) (11, 67, false) ::
 ow 71 (.bin .gtr (.t 70) (.c (.d (.int .i64 12)))) (11, 67, false) [1, 8, 50, 51, 52, 67, 71] [1, 8] ::
 R_o7)
def g_show_sound.o6 : List AOper := g_show_sound.o6F g_show_sound.o7
def g_show_sound.o5F (R_o6 : List AOper) : List AOper :=
 (oo 66 (.pick (.t 59) (.c (.d (.bool true))) (.t 65)) ::
 oz 67 (.mv (.t 66)) [1, 8, 50, 51, 52, 67] [1, 8] ::
 R_o6)
def g_show_sound.o5 : List AOper := g_show_sound.o5F g_show_sound.o6
def g_show_sound.o4F (R_o5 : List AOper) : List AOper :=
 (og 60 (.faddr 2 (.t 8)) (3, 59, false) ::
 og 61 (.load none (.t 60)) (3, 59, false) ::
 og 62 (.faddr 1 (.t 1)) (3, 59, false) ::
 og 63 (.load none (.t 62)) (3, 59, false) ::
 og 64 (.len (.t 63)) (3, 59, false) ::
 ow 65 (.bin .geq (.t 61) (.t 64)) (3, 59, false) [1, 8, 50, 51, 52, 59, 65] [1, 8] ::
 R_o5)
def g_show_sound.o4 : List AOper := g_show_sound.o4F g_show_sound.o5
def g_show_sound.c8 : ACode :=
 .cond (.t 78) (.seq (.region [2] (some []) none
 [oo 2 (.mv (.c (.d (.bool false))))])
 (.ret))
 (.skip)
def g_show_sound.c9F (R_o4 : List AOper) (R_c8 : ACode) : ACode :=
 .seq (.region [1, 50, 51, 52, 78] (some [1]) none
 (oo 56 (.faddr 2 (.t 8)) ::
 oo 57 (.load none (.t 56)) ::
 oo 58 (.bin .lss (.t 57) (.c (.d (.int .i64 0)))) ::
 oz 59 (.mv (.t 58)) [1, 8, 50, 51, 52, 59] [1, 8] ::
 R_o4))
 (R_c8)
def g_show_sound.c9 : ACode := g_show_sound.c9F g_show_sound.o4 g_show_sound.c8
def g_show_sound.c10 : ACode :=
 .region [1, 50, 51, 52] (some [1]) none
 [oo 79 (.bin .add (.t 52) (.c (.d (.int .i64 1)))),
 om 52 79]
def g_show_sound.l2F (R_c9 : ACode) (R_c10 : ACode) : ACode :=
 .loop [1, 50, 51, 52] (some [1]) (.seq (.region [1, 50, 51, 52, 53] (some [1]) none
 [oo 53 (.bin .lss (.t 52) (.t 51))])
 (.seq (.cond (.t 53) (.skip)
 (.exit 4))
 (.seq (.block 5 [1, 50, 51, 52] (some [1]) (.seq (.region [1, 8, 50, 51, 52] (some [1, 8]) none
 [oo 54 (.iaddr 3 (.t 50) (.t 52)),
 oo 55 (.load (some 3) (.t 54)),
 oo 8 (.alloc 8 [.d (.str []), .d (.str []), .d (.int .i64 0)]),
 ⟨none, .store 3 (.t 8) (.t 55), [], [], none, none⟩])
 (R_c9)))
 (R_c10))))
def g_show_sound.l2 : ACode := g_show_sound.l2F g_show_sound.c9 g_show_sound.c10
def g_show_sound.c11F (R_l2 : ACode) : ACode :=
 .block 4 [1] (some [1]) (R_l2)
def g_show_sound.c11 : ACode := g_show_sound.c11F g_show_sound.l2
def g_show_sound.c12 : ACode :=
 .seq (.region [2] (some []) none
 [oo 80 (.faddr 0 (.t 1)),
 oo 81 (.load none (.t 80)),
 oo 82 (.len (.t 81)),
 oo 83 (.bin .leq (.t 82) (.c (.d (.int .i64 60)))),
 om 2 83])
 (.ret)
def g_show_sound.c13F (R_c11 : ACode) (R_c12 : ACode) : ACode :=
 .seq (.seq (.region [1, 50, 51, 52] (some [1]) none
 [oo 49 (.faddr 0 (.t 1)),
 oo 50 (.load none (.t 49)),
 oo 51 (.len (.t 50)),
 oo 52 (.mv (.c (.d (.int .i64 0))))])
 (R_c11))
 (R_c12)
def g_show_sound.c13 : ACode := g_show_sound.c13F g_show_sound.c11 g_show_sound.c12
def g_show_sound.codeF (R_c7 : ACode) (R_c13 : ACode) : ACode :=
 .seq (.region [1] (some [1]) none
 [oo 1 (.box 1 2 (.t 0)),
 oo 2 (.mv (.c (.d (.bool false))))])
 (.seq (.seq (.region [1, 10, 11, 12] (some [1]) none
 [oo 9 (.faddr 1 (.t 1)),
 oo 10 (.load none (.t 9)),
 oo 11 (.len (.t 10)),
 oo 12 (.mv (.c (.d (.int .i64 0))))])
 (R_c7))
 (R_c13))
def g_show_sound.code : ACode := g_show_sound.codeF g_show_sound.c7 g_show_sound.c13
def g_show_sound : AFn := { N := 84, res := [.slot 2], own := [], frz := [], code := g_show_sound.code }
def g_show_text.c0 : ACode :=
 .region [1, 3, 7, 8, 9] (some [1, 3, 503]) (some ([0, 1, 2, 3, 4, 5, 6, 7, 8, 9, 10, 11, 12], .one 13 (.done)))
 [oo 13 (.faddr 0 (.t 5)),
 ⟨some 14, .load none (.t 13), [], [0], none, none⟩,
 ⟨some 15, .bin .add (.t 14) (.c (.d (.str [32]))), [], [1], none, none⟩,
 oo 16 (.faddr 1 (.t 5)),
 ⟨some 17, .load none (.t 16), [], [3], none, none⟩,
 ⟨some 18, .bin .add (.t 15) (.t 17), [], [2, 4], none, none⟩,
 ⟨some 19, .bin .add (.t 18) (.c (.d (.str [32, 61, 32]))), [], [5], none, none⟩,
 oo 20 (.load (some 2) (.t 1)),
 oo 21 (.faddr 2 (.t 5)),
 ⟨some 22, .load none (.t 21), [], [8], none, none⟩,
 ⟨some 23, .call 200 [(.t 20), (.t 22)], [], [7, 9], none, none⟩,
 ⟨some 24, .bin .add (.t 19) (.t 23), [], [6, 10], none, none⟩,
 ⟨some 25, .bin .add (.t 24) (.c (.d (.str [59, 10]))), [], [11], none, none⟩,
 ⟨some 26, .callv (.f 128) [(.t 3), (.t 25)], [], [12, 10], none, none⟩]
def g_show_text.c1 : ACode :=
 .region [1, 3, 7, 8, 9] (some [1, 3, 503]) none
 [oo 27 (.bin .add (.t 9) (.c (.d (.int .i64 1)))),
 om 9 27]
def g_show_text.l0F (R_c0 : ACode) (R_c1 : ACode) : ACode :=
 .loop [1, 3, 7, 8, 9] (some [1, 3, 503]) (.seq (.region [1, 3, 7, 8, 9, 10] (some [1, 3, 503]) none
 [oo 10 (.bin .lss (.t 9) (.t 8))])
 (.seq (.cond (.t 10) (.skip)
 (.exit 0))
 (.seq (.block 1 [1, 3, 7, 8, 9] (some [1, 3, 503]) (.seq (.region [1, 3, 5, 7, 8, 9] (some [1, 3, 5, 503]) none
 [oo 11 (.iaddr 3 (.t 7) (.t 9)),
 oo 12 (.load (some 3) (.t 11)),
 oo 5 (.alloc 5 [.d (.str []), .d (.str []), .d (.int .i64 0)]),
 ⟨none, .store 3 (.t 5) (.t 12), [], [], none, none⟩])
 (R_c0)))
 (R_c1))))
def g_show_text.l0 : ACode := g_show_text.l0F g_show_text.c0 g_show_text.c1
def g_show_text.c2F (R_l0 : ACode) : ACode :=
 .block 0 [3] (some [3, 503]) (R_l0)
def g_show_text.c2 : ACode := g_show_text.c2F g_show_text.l0
def g_show_text.c3 : ACode :=
 .seq (.region [2] (some []) none
 [oo 28 (.call 130 [(.t 3)]),
 om 2 28])
 (.ret)
def g_show_text.codeF (R_c2 : ACode) (R_c3 : ACode) : ACode :=
 .seq (.region [1] (some [1]) none
 [oo 1 (.box 1 2 (.t 0)),
 oo 2 (.mv (.c (.d (.str []))))])
 (.seq (.region [1, 3] (some [1, 3, 503]) none
 [oo 3 (.allocB 3 503)])
 (.seq (.seq (.region [1, 3, 7, 8, 9] (some [1, 3, 503]) none
 [oo 6 (.faddr 0 (.t 1)),
 oo 7 (.load none (.t 6)),
 oo 8 (.len (.t 7)),
 oo 9 (.mv (.c (.d (.int .i64 0))))])
 (R_c2))
 (R_c3)))
def g_show_text.code : ACode := g_show_text.codeF g_show_text.c2 g_show_text.c3
def g_show_text : AFn := { N := 29, res := [.slot 2], own := [], frz := [], code := g_show_text.code }
def g_show_same.o1 : List AOper :=
 [oo 22 (.pick (.t 14) (.c (.d (.bool true))) (.t 21))]
def g_show_same.o0F (R_o1 : List AOper) : List AOper :=
 (og 15 (.faddr 1 (.t 2)) (7, 14, false) ::
 og 16 (.load none (.t 15)) (7, 14, false) ::
 og 17 (.len (.t 16)) (7, 14, false) ::
 og 18 (.faddr 1 (.t 3)) (7, 14, false) ::
 og 19 (.load none (.t 18)) (7, 14, false) ::
 og 20 (.len (.t 19)) (7, 14, false) ::
 ow 21 (.bin .neq (.t 17) (.t 20)) (7, 14, false) [2, 3, 14, 21] [2, 3] ::
 R_o1)
def g_show_same.o0 : List AOper := g_show_same.o0F g_show_same.o1
def g_show_same.c0 : ACode :=
 .cond (.t 22) (.seq (.region [4] (some []) none
 [oo 4 (.mv (.c (.d (.bool false))))])
 (.ret))
 (.skip)
def g_show_same.c1 : ACode :=
 .region [2, 3, 25, 26] (some [2, 3]) none
 [oo 40 (.bin .add (.t 26) (.c (.d (.int .i64 1)))),
 om 26 40]
def g_show_same.l0F (R_c1 : ACode) : ACode :=
 .loop [2, 3, 25, 26] (some [2, 3]) (.seq (.region [2, 3, 25, 26, 27] (some [2, 3]) none
 [oo 27 (.bin .lss (.t 26) (.t 25))])
 (.seq (.cond (.t 27) (.skip)
 (.exit 0))
 (.seq (.block 1 [2, 3, 25, 26] (some [2, 3]) (.seq (.region [2, 3, 5, 25, 26] (some [2, 3]) none
 [om 28 26,
 om 5 28])
 (.seq (.region [2, 3, 25, 26, 39] (some [2, 3]) (some ([0, 1, 2, 3, 4, 5, 6, 7, 8, 9, 10], .done))
 [oo 29 (.faddr 0 (.t 2)),
 ⟨some 30, .load none (.t 29), [], [0], none, none⟩,
 om 31 5,
 ⟨some 32, .iaddr 3 (.t 30) (.t 31), [], [1, 2], none, none⟩,
 ⟨some 33, .load (some 3) (.t 32), [], [3], none, none⟩,
 oo 34 (.faddr 0 (.t 3)),
 ⟨some 35, .load none (.t 34), [], [5], none, none⟩,
 om 36 5,
 ⟨some 37, .iaddr 3 (.t 35) (.t 36), [], [6, 7], none, none⟩,
 ⟨some 38, .load (some 3) (.t 37), [], [8], none, none⟩,
 ⟨some 39, .eqs true [2, 2, 0] (.t 33) (.t 38), [], [4, 9], none, none⟩])
 (.cond (.t 39) (.seq (.region [4] (some []) none
 [oo 4 (.mv (.c (.d (.bool false))))])
 (.ret))
 (.skip)))))
 (R_c1))))
def g_show_same.l0 : ACode := g_show_same.l0F g_show_same.c1
def g_show_same.c2F (R_l0 : ACode) : ACode :=
 .block 0 [2, 3] (some [2, 3]) (R_l0)
def g_show_same.c2 : ACode := g_show_same.c2F g_show_same.l0
def g_show_same.c3 : ACode :=
 .region [2, 3, 43, 44] (some [2, 3]) none
 [oo 58 (.bin .add (.t 44) (.c (.d (.int .i64 1)))),
 om 44 58]
def g_show_same.l1F (R_c3 : ACode) : ACode :=
 .loop [2, 3, 43, 44] (some [2, 3]) (.seq (.region [2, 3, 43, 44, 45] (some [2, 3]) none
 [oo 45 (.bin .lss (.t 44) (.t 43))])
 (.seq (.cond (.t 45) (.skip)
 (.exit 2))
 (.seq (.block 3 [2, 3, 43, 44] (some [2, 3]) (.seq (.region [2, 3, 6, 43, 44] (some [2, 3]) none
 [om 46 44,
 om 6 46])
 (.seq (.region [2, 3, 43, 44, 57] (some [2, 3]) (some ([0, 1, 2, 3, 4, 5, 6, 7, 8, 9, 10], .done))
 [oo 47 (.faddr 1 (.t 2)),
 ⟨some 48, .load none (.t 47), [], [0], none, none⟩,
 om 49 6,
 ⟨some 50, .iaddr 6 (.t 48) (.t 49), [], [1, 2], none, none⟩,
 ⟨some 51, .load (some 6) (.t 50), [], [3], none, none⟩,
 oo 52 (.faddr 1 (.t 3)),
 ⟨some 53, .load none (.t 52), [], [5], none, none⟩,
 om 54 6,
 ⟨some 55, .iaddr 6 (.t 53) (.t 54), [], [6, 7], none, none⟩,
 ⟨some 56, .load (some 6) (.t 55), [], [8], none, none⟩,
 ⟨some 57, .eqs true [2, 2, 0, 0, 0, 0] (.t 51) (.t 56), [], [4, 9], none, none⟩])
 (.cond (.t 57) (.seq (.region [4] (some []) none
 [oo 4 (.mv (.c (.d (.bool false))))])
 (.ret))
 (.skip)))))
 (R_c3))))
def g_show_same.l1 : ACode := g_show_same.l1F g_show_same.c3
def g_show_same.c4F (R_l1 : ACode) : ACode :=
 .block 2 [] (some []) (R_l1)
def g_show_same.c4 : ACode := g_show_same.c4F g_show_same.l1
def g_show_same.c5 : ACode :=
 .seq (.region [4] (some []) none
 [oo 4 (.mv (.c (.d (.bool true))))])
 (.ret)
def g_show_same.c6F (R_c4 : ACode) (R_c5 : ACode) : ACode :=
 .seq (.seq (.region [2, 3, 43, 44] (some [2, 3]) none
 [oo 41 (.faddr 1 (.t 2)),
 oo 42 (.load none (.t 41)),
 oo 43 (.len (.t 42)),
 oo 44 (.mv (.c (.d (.int .i64 0))))])
 (R_c4))
 (R_c5)
def g_show_same.c6 : ACode := g_show_same.c6F g_show_same.c4 g_show_same.c5
def g_show_same.c7F (R_c2 : ACode) (R_c6 : ACode) : ACode :=
 .seq (.seq (.region [2, 3, 25, 26] (some [2, 3]) none
 [oo 23 (.faddr 0 (.t 2)),
 oo 24 (.load none (.t 23)),
 oo 25 (.len (.t 24)),
 oo 26 (.mv (.c (.d (.int .i64 0))))])
 (R_c2))
 (R_c6)
def g_show_same.c7 : ACode := g_show_same.c7F g_show_same.c2 g_show_same.c6
def g_show_same.codeF (R_o0 : List AOper) (R_c0 : ACode) (R_c7 : ACode) : ACode :=
 .seq (.region [2, 3] (some [2, 3]) none
 [oo 2 (.box 2 2 (.t 0)),
 oo 3 (.box 3 2 (.t 1)),
 oo 4 (.mv (.c (.d (.bool false))))])
 (.seq (.seq (.region [2, 3, 22] (some [2, 3]) none
 (oo 7 (.faddr 0 (.t 2)) ::
 oo 8 (.load none (.t 7)) ::
 oo 9 (.len (.t 8)) ::
 oo 10 (.faddr 0 (.t 3)) ::
 oo 11 (.load none (.t 10)) ::
 oo 12 (.len (.t 11)) ::
 oo 13 (.bin .neq (.t 9) (.t 12)) ::
 oz 14 (.mv (.t 13)) [2, 3, 14] [2, 3] ::
 R_o0))
 (R_c0))
 (R_c7))
def g_show_same.code : ACode := g_show_same.codeF g_show_same.o0 g_show_same.c0 g_show_same.c7
def g_show_same : AFn := { N := 59, res := [.slot 4], own := [], frz := [], code := g_show_same.code }
def g_show_write.o1 : List AOper :=
 [oo 23 (.pick (.t 20) (.t 22) (.c (.d (.bool false))))]
def g_show_write.o0F (R_o1 : List AOper) : List AOper :=
 (og 21 (.mv (.t 7)) (3, 20, true) ::
 ow 22 (.bin .geq (.t 21) (.c (.d (.int .i64 0)))) (3, 20, true) [2, 5, 6, 7, 20, 22] [2, 5, 13, 50, 58, 60, 63, 68, 505] ::
 R_o1)
def g_show_write.o0 : List AOper := g_show_write.o0F g_show_write.o1
def g_show_write.c0 : ACode :=
 .cond (.t 23) (.skip)
 (.exit 0)
def g_show_write.c1 : ACode :=
 .seq (.region [2, 5, 6, 7, 10] (some [2, 5, 13, 50, 58, 60, 63, 68, 505]) none
 [om 64 10,
 oo 65 (.call 212 [(.t 64)])])
 (.region [2, 5, 6, 7] (some [2, 5, 13, 50, 58, 60, 63, 68, 505]) none
 [om 66 6,
 om 67 10,
 oo 68 (.app (some 68) 3 32 (.t 66) (.t 67)),
 om 6 68])
def g_show_write.c2F (R_c1 : ACode) : ACode :=
 .seq (.region [2, 5, 6, 7, 8, 9, 10] (some [2, 5, 8, 9, 13, 50, 58, 60, 63, 68, 505]) none
 [oo 49 (.load (some 6) (.t 9)),
 oo 50 (.call 210 [(.t 49)]),
 om 10 50])
 (.seq (.seq (.region [2, 5, 6, 7, 10, 56] (some [2, 5, 13, 50, 58, 60, 63, 68, 505]) (some ([0, 1, 2, 3, 4, 5], .done))
 [oo 51 (.faddr 0 (.t 9)),
 ⟨some 52, .load none (.t 51), [], [0], none, none⟩,
 ⟨some 53, .call 211 [(.t 52)], [], [1], none, none⟩,
 oo 54 (.faddr 2 (.t 8)),
 ⟨some 55, .load none (.t 54), [], [3], none, none⟩,
 ⟨some 56, .bin .lss (.t 53) (.t 55), [], [2, 4], none, none⟩])
 (.cond (.t 56) (.region [2, 5, 6, 7, 10] (some [2, 5, 13, 50, 58, 60, 63, 68, 505]) none
 [oo 57 (.build [.d (.str []), .d (.int .i64 0), .d (.int .i64 0)] [(0, 1, (.c (.d (.str [40]))))]),
 oo 58 (.bsl (some 58) 3 [] 1 [(0, (.t 57))]),
 om 59 10,
 oo 60 (.app (some 60) 3 32 (.t 58) (.t 59)),
 oo 61 (.build [.d (.str []), .d (.int .i64 0), .d (.int .i64 0)] [(0, 1, (.c (.d (.str [41]))))]),
 oo 62 (.bsl none 3 [] 1 [(0, (.t 61))]),
 oo 63 (.app (some 63) 3 32 (.t 60) (.t 62)),
 om 10 63])
 (.skip)))
 (R_c1))
def g_show_write.c2 : ACode := g_show_write.c2F g_show_write.c1
def g_show_write.c3F (R_c2 : ACode) : ACode :=
 .seq (.region [2, 5, 6, 7, 8] (some [2, 5, 8, 13, 50, 58, 60, 63, 68, 505]) none
 [om 41 7,
 oo 42 (.bin .sub (.t 41) (.c (.d (.int .i64 1)))),
 om 7 42])
 (.seq (.region [2, 5, 6, 7, 8, 9] (some [2, 5, 8, 9, 13, 50, 58, 60, 63, 68, 505]) none
 [oo 43 (.faddr 1 (.t 2)),
 oo 44 (.load none (.t 43)),
 oo 45 (.faddr 1 (.t 8)),
 oo 46 (.load none (.t 45)),
 oo 47 (.iaddr 6 (.t 44) (.t 46)),
 oo 48 (.load (some 6) (.t 47)),
 oo 9 (.alloc 9 [.d (.str []), .d (.str []), .d (.int .i64 0), .d (.int .i64 0), .d (.int .i64 0), .d (.int .i64 0)]),
 ⟨none, .store 6 (.t 9) (.t 48), [], [], none, none⟩])
 (R_c2))
def g_show_write.c3 : ACode := g_show_write.c3F g_show_write.c2
def g_show_write.c4F (R_c3 : ACode) : ACode :=
 .seq (.seq (.region [2, 5, 6, 7, 8, 37] (some [2, 5, 8, 13, 50, 58, 60, 63, 68, 505]) none
 [oo 35 (.faddr 0 (.t 8)),
 oo 36 (.load none (.t 35)),
 oo 37 (.bin .neq (.t 36) (.c (.d (.str []))))])
 (.cond (.t 37) (.seq (.region [2, 5, 6, 7] (some [2, 5, 13, 50, 58, 60, 63, 68, 505]) none
 [oo 38 (.faddr 0 (.t 8)),
 oo 39 (.load none (.t 38)),
 oo 40 (.call 128 [(.t 5), (.t 39)])])
 (.exit 1))
 (.skip)))
 (R_c3)
def g_show_write.c4 : ACode := g_show_write.c4F g_show_write.c3
def g_show_write.c5F (R_c4 : ACode) : ACode :=
 .seq (.region [2, 5, 6, 7, 8] (some [2, 5, 8, 13, 50, 58, 60, 63, 68, 505]) none
 [om 30 6,
 om 31 6,
 oo 32 (.len (.t 31)),
 oo 33 (.bin .sub (.t 32) (.c (.d (.int .i64 1)))),
 oo 34 (.cut (.t 30) (.t 33)),
 om 6 34])
 (R_c4)
def g_show_write.c5 : ACode := g_show_write.c5F g_show_write.c4
def g_show_write.c6F (R_c5 : ACode) : ACode :=
 .block 1 [2, 5, 6, 7] (some [2, 5, 13, 50, 58, 60, 63, 68, 505]) (.seq (.region [2, 5, 6, 7, 8] (some [2, 5, 8, 13, 50, 58, 60, 63, 68, 505]) none
 [om 24 6,
 om 25 6,
 oo 26 (.len (.t 25)),
 oo 27 (.bin .sub (.t 26) (.c (.d (.int .i64 1)))),
 oo 28 (.iaddr 3 (.t 24) (.t 27)),
 oo 29 (.load (some 3) (.t 28)),
 oo 8 (.alloc 8 [.d (.str []), .d (.int .i64 0), .d (.int .i64 0)]),
 ⟨none, .store 3 (.t 8) (.t 29), [], [], none, none⟩])
 (R_c5))
def g_show_write.c6 : ACode := g_show_write.c6F g_show_write.c5
def g_show_write.l0F (R_o0 : List AOper) (R_c0 : ACode) (R_c6 : ACode) : ACode :=
 .loop [2, 5, 6, 7] (some [2, 5, 13, 50, 58, 60, 63, 68, 505]) (.seq (.seq (.region [2, 5, 6, 7, 23] (some [2, 5, 13, 50, 58, 60, 63, 68, 505]) none
 (om 17 6 ::
 oo 18 (.len (.t 17)) ::
 oo 19 (.bin .gtr (.t 18) (.c (.d (.int .i64 0)))) ::
 oz 20 (.mv (.t 19)) [2, 5, 6, 7, 20] [2, 5, 13, 50, 58, 60, 63, 68, 505] ::
 R_o0))
 (R_c0))
 (R_c6))
def g_show_write.l0 : ACode := g_show_write.l0F g_show_write.o0 g_show_write.c0 g_show_write.c6
def g_show_write.c7F (R_l0 : ACode) : ACode :=
 .block 0 [5] (some [5, 505]) (R_l0)
def g_show_write.c7 : ACode := g_show_write.c7F g_show_write.l0
def g_show_write.c8 : ACode :=
 .seq (.region [4] (some []) none
 [oo 69 (.call 130 [(.t 5)]),
 om 4 69])
 (.ret)
def g_show_write.c9F (R_c7 : ACode) (R_c8 : ACode) : ACode :=
 .seq (.seq (.region [2, 5, 6, 7] (some [2, 5, 13, 50, 58, 60, 63, 68, 505]) none
 [oo 14 (.faddr 1 (.t 2)),
 oo 15 (.load none (.t 14)),
 oo 16 (.len (.t 15)),
 om 7 16])
 (R_c7))
 (R_c8)
def g_show_write.c9 : ACode := g_show_write.c9F g_show_write.c7 g_show_write.c8
def g_show_write.codeF (R_c9 : ACode) : ACode :=
 .seq (.region [1, 2] (some [2]) none
 [oo 2 (.box 2 2 (.t 0)),
 oo 4 (.mv (.c (.d (.str []))))])
 (.seq (.region [1, 2, 5] (some [2, 5, 505]) none
 [oo 5 (.allocB 5 505)])
 (.seq (.region [2, 5, 6] (some [2, 5, 13, 50, 58, 60, 63, 68, 505]) none
 [om 11 1,
 oo 12 (.build [.d (.str []), .d (.int .i64 0), .d (.int .i64 0)] [(1, 1, (.t 11))]),
 oo 13 (.bsl (some 13) 3 [] 1 [(0, (.t 12))]),
 om 6 13])
 (R_c9)))
def g_show_write.code : ACode := g_show_write.codeF g_show_write.c9
def g_show_write : AFn := { N := 70, res := [.slot 4], own := [], frz := [], code := g_show_write.code }
def g_lex_run.o1 : List AOper :=
 [oo 19 (.pick (.t 13) (.t 18) (.c (.d (.bool false))))]
def g_lex_run.o0F (R_o1 : List AOper) : List AOper :=
 (og 14 (.mv (.t 2)) (4, 13, true) ::
 og 15 (.mv (.t 0)) (4, 13, true) ::
 og 16 (.mv (.t 7)) (4, 13, true) ::
 og 17 (.idx (.t 15) (.t 16)) (4, 13, true) ::
 ⟨some 18, .callv (.t 14) [(.t 17)], [], [], (some (4, 13, true)), (some ([0, 1, 2, 7, 13, 18], none))⟩ ::
 R_o1)
def g_lex_run.o0 : List AOper := g_lex_run.o0F g_lex_run.o1
def g_lex_run.c0 : ACode :=
 .cond (.t 19) (.skip)
 (.exit 0)
def g_lex_run.c1 : ACode :=
 .block 1 [0, 1, 2, 7] none (.region [0, 1, 2, 7] none none
 [om 20 7,
 oo 21 (.bin .add (.t 20) (.c (.d (.int .i64 1)))),
 om 7 21])
def g_lex_run.l0F (R_o0 : List AOper) (R_c0 : ACode) (R_c1 : ACode) : ACode :=
 .loop [0, 1, 2, 7] none (.seq (.seq (.region [0, 1, 2, 7, 19] none none
 (om 9 7 ::
 om 10 0 ::
 oo 11 (.lenS (.t 10)) ::
 oo 12 (.bin .lss (.t 9) (.t 11)) ::
 ⟨some 13, .mv (.t 12), [], [], none, (some ([0, 1, 2, 7, 13], none))⟩ ::
 R_o0))
 (R_c0))
 (R_c1))
def g_lex_run.l0 : ACode := g_lex_run.l0F g_lex_run.o0 g_lex_run.c0 g_lex_run.c1
def g_lex_run.c2 : ACode :=
 .seq (.region [6] none none
 [om 22 7,
 om 23 1,
 oo 24 (.bin .sub (.t 22) (.t 23)),
 om 6 24])
 (.ret)
def g_lex_run.codeF (R_l0 : ACode) (R_c2 : ACode) : ACode :=
 .seq (.region [0, 1, 2] none none
 [oo 6 (.mv (.c (.d (.int .i64 0))))])
 (.seq (.region [0, 1, 2, 7] none none
 [om 8 1,
 om 7 8])
 (.seq (.block 0 [1, 7] none (R_l0))
 (R_c2)))
def g_lex_run.code : ACode := g_lex_run.codeF g_lex_run.l0 g_lex_run.c2
def g_lex_run : AFn := { N := 25, res := [.slot 6], own := [], frz := [], code := g_lex_run.code }
def g_lex_All_1.code : ACode :=
 .seq (.region [0] (some []) none
 [oo 2 (.mv (.c (.d (.bool false))))])
 (.seq (.region [2] (some []) none
 [om 3 0,
 oo 4 (.bin .neq (.t 3) (.c (.d (.int .u8 10)))),
 om 2 4])
 (.ret))
def g_lex_All_1 : AFn := { N := 5, res := [.slot 2], own := [], frz := [], code := g_lex_All_1.code }
def g_lex_one.c0 : ACode :=
 .seq (.region [4, 5] (some []) none
 [om 21 7,
 oo 4 (.mv (.c (.d (.int .i64 1)))),
 om 5 21])
 (.ret)
def g_lex_one.c1F (R_c0 : ACode) : ACode :=
 .seq (.seq (.region [7, 20] (some []) none
 [om 19 7,
 oo 20 (.bin .gtr (.t 19) (.c (.d (.int .i64 12))))])
 (.cond (.t 20) (.seq (.region [4, 5] (some []) none
 [oo 4 (.mv (.c (.d (.int .i64 0)))),
 oo 5 (.mv (.c (.d (.int .i64 0))))])
 (.ret))
 (.skip)))
 (R_c0)
def g_lex_one.c1 : ACode := g_lex_one.c1F g_lex_one.c0
def g_lex_one.c2 : ACode :=
 .seq (.region [4, 5] (some []) none
 [om 28 0,
 om 29 1,
 om 30 1,
 om 31 8,
 oo 32 (.bin .add (.t 30) (.t 31)),
 oo 33 (.slcS (.t 28) (some (.t 29)) (some (.t 32))),
 oo 34 (.call 109 [(.t 33)]),
 om 35 8,
 om 4 34,
 om 5 35])
 (.ret)
def g_lex_one.c3F (R_c1 : ACode) (R_c2 : ACode) : ACode :=
 .block 0 [0, 1] (some []) (.seq (.region [0, 1, 6, 13] (some []) none
 [om 14 6,
 oo 15 (.call 105 [(.t 14)]),
 om 13 15])
 (.cond (.t 13) (.seq (.region [7] (some []) none
 [om 16 0,
 om 17 1,
 oo 18 (.call 102 [(.t 16), (.t 17), (.f 106)]),
 om 7 18])
 (R_c1))
 (.seq (.region [0, 1, 22] (some []) none
 [om 23 6,
 oo 24 (.call 107 [(.t 23)]),
 om 22 24])
 (.cond (.t 22) (.seq (.region [0, 1, 8] (some []) none
 [om 25 0,
 om 26 1,
 oo 27 (.call 102 [(.t 25), (.t 26), (.f 108)]),
 om 8 27])
 (R_c2))
 (.skip)))))
def g_lex_one.c3 : ACode := g_lex_one.c3F g_lex_one.c1 g_lex_one.c2
def g_lex_one.c4 : ACode :=
 .seq (.region [4, 5] (some []) none
 [om 42 9,
 oo 4 (.mv (.c (.d (.int .i64 5)))),
 om 5 42])
 (.ret)
def g_lex_one.c5F (R_c4 : ACode) : ACode :=
 .seq (.seq (.region [9, 41] (some []) none
 [om 40 9,
 oo 41 (.bin .eql (.t 40) (.c (.d (.int .i64 0))))])
 (.cond (.t 41) (.seq (.region [4, 5] (some []) none
 [oo 4 (.mv (.c (.d (.int .i64 0)))),
 oo 5 (.mv (.c (.d (.int .i64 0))))])
 (.ret))
 (.skip)))
 (R_c4)
def g_lex_one.c5 : ACode := g_lex_one.c5F g_lex_one.c4
def g_lex_one.c6F (R_c5 : ACode) : ACode :=
 .seq (.region [9] (some []) none
 [om 36 0,
 om 37 1,
 oo 38 (.slcS (.t 36) (some (.t 37)) none),
 oo 39 (.call 110 [(.t 38)]),
 om 9 39])
 (R_c5)
def g_lex_one.c6 : ACode := g_lex_one.c6F g_lex_one.c5
def g_lex_one.codeF (R_c3 : ACode) (R_c6 : ACode) : ACode :=
 .seq (.region [0, 1] (some []) none
 [oo 4 (.mv (.c (.d (.int .i64 0)))),
 oo 5 (.mv (.c (.d (.int .i64 0))))])
 (.seq (.seq (.region [0, 1, 6] (some []) none
 [om 10 0,
 om 11 1,
 oo 12 (.idx (.t 10) (.t 11)),
 om 6 12])
 (R_c3))
 (R_c6))
def g_lex_one.code : ACode := g_lex_one.codeF g_lex_one.c3 g_lex_one.c6
def g_lex_one : AFn := { N := 43, res := [.slot 4, .slot 5], own := [], frz := [], code := g_lex_one.code }
def g_tree_parser_token.c0 : ACode :=
 .seq (.region [2] none none
 [om 23 0,
 oo 24 (.nilc (.t 23)),
 oo 25 (.faddr 1 (.t 24)),
 oo 26 (.load none (.t 25)),
 oo 27 (.build [.d (.int .i64 0), .d (.str []), .d (.int .i64 0)] [(2, 1, (.t 26))]),
 ⟨none, .store 3 (.t 2) (.t 27), [], [], none, none⟩])
 (.ret)
def g_tree_parser_token.codeF (R_c0 : ACode) : ACode :=
 .seq (.region [0, 2] none none
 [oo 2 (.alloc 2 [.d (.int .i64 0), .d (.str []), .d (.int .i64 0)])])
 (.seq (.seq (.region [0, 2, 12] none (some ([0, 1, 2, 3, 4, 5, 6, 7, 8, 9], .done))
 [om 3 0,
 ⟨some 4, .nilc (.t 3), [], [0], none, none⟩,
 ⟨some 5, .faddr 2 (.t 4), [], [1], none, none⟩,
 ⟨some 6, .load none (.t 5), [], [2], none, none⟩,
 om 7 0,
 ⟨some 8, .nilc (.t 7), [], [4], none, none⟩,
 ⟨some 9, .faddr 0 (.t 8), [], [5], none, none⟩,
 ⟨some 10, .load none (.t 9), [], [6], none, none⟩,
 ⟨some 11, .len (.t 10), [], [7], none, none⟩,
 ⟨some 12, .bin .lss (.t 6) (.t 11), [], [3, 8], none, none⟩])
 (.cond (.t 12) (.seq (.region [2] none (some ([0, 1, 2, 3, 4, 5, 6, 7, 8, 9], .one 10 (.done)))
 [om 13 0,
 ⟨some 14, .nilc (.t 13), [], [0], none, none⟩,
 ⟨some 15, .faddr 0 (.t 14), [], [1], none, none⟩,
 ⟨some 16, .load none (.t 15), [], [2], none, none⟩,
 om 17 0,
 ⟨some 18, .nilc (.t 17), [], [4], none, none⟩,
 ⟨some 19, .faddr 2 (.t 18), [], [5], none, none⟩,
 ⟨some 20, .load none (.t 19), [], [6], none, none⟩,
 ⟨some 21, .iaddr 3 (.t 16) (.t 20), [], [3, 7], none, none⟩,
 ⟨some 22, .load (some 3) (.t 21), [], [8], none, none⟩,
 ⟨none, .store 3 (.t 2) (.t 22), [], [9, 0, 1, 2, 3, 4, 5, 6, 7, 8, 9], none, none⟩])
 (.ret))
 (.skip)))
 (R_c0))
def g_tree_parser_token.code : ACode := g_tree_parser_token.codeF g_tree_parser_token.c0
def g_tree_parser_token : AFn := { N := 28, res := [.cell 2 (some 3)], own := [], frz := [2], code := g_tree_parser_token.code }
def g_slices_Contains_string.code : ACode :=
 .seq (.region [0, 1] (some []) none
 [oo 4 (.mv (.c (.d (.bool false))))])
 (.seq (.region [4] (some []) none
 [om 5 0,
 om 6 1,
 oo 7 (.call 156 [(.t 5), (.t 6)]),
 oo 8 (.bin .geq (.t 7) (.c (.d (.int .i64 0)))),
 om 4 8])
 (.ret))
def g_slices_Contains_string : AFn := { N := 9, res := [.slot 4], own := [], frz := [], code := g_slices_Contains_string.code }
def g_tree_kinds.code : ACode :=
 .seq (.region [] (some []) none
 [oo 0 (.mv (.c (.cap0)))])
 (.seq (.region [0] (some [1]) none
 [oo 1 (.bsl (some 1) 1 [] 4 [(0, (.c (.d (.str [101, 97, 114, 110])))), (1, (.c (.d (.str [112, 114, 101, 116, 97, 120])))), (2, (.c (.d (.str [112, 111, 115, 116])))), (3, (.c (.d (.str [108, 101, 116]))))]),
 om 0 1])
 (.ret))
def g_tree_kinds : AFn := { N := 2, res := [.slot 0], own := [(0, 1, 1)], frz := [], code := g_tree_kinds.code }
def g_tree_parser_fail.code : ACode :=
 .seq (.region [0, 1, 8] none none
 [om 4 0,
 oo 5 (.nilc (.t 4)),
 oo 6 (.faddr 5 (.t 5)),
 oo 7 (.load none (.t 6)),
 oo 8 (.bin .eql (.t 7) (.c (.d (.int .i64 0))))])
 (.cond (.t 8) (.region [] none none
 [om 9 0,
 om 10 0,
 om 11 1,
 om 12 0,
 oo 13 (.call 217 [(.t 12)]),
 oo 14 (.fld 2 none (.t 13)),
 oo 15 (.nilc (.t 9)),
 oo 16 (.faddr 5 (.t 15)),
 ⟨none, .store 1 (.t 16) (.t 11), [], [], none, none⟩,
 oo 17 (.nilc (.t 10)),
 oo 18 (.faddr 6 (.t 17)),
 ⟨none, .store 1 (.t 18) (.t 14), [], [], none, none⟩])
 (.skip))
def g_tree_parser_fail : AFn := { N := 19, res := [], own := [], frz := [], code := g_tree_parser_fail.code }
def g_tree_parser_take.o5 : List AOper :=
 [oo 30 (.pick (.t 24) (.c (.d (.bool true))) (.t 29))]
def g_tree_parser_take.o4F (R_o5 : List AOper) : List AOper :=
 (og 25 (.mv (.t 1)) (15, 24, false) ::
 og 26 (.faddr 1 (.t 6)) (15, 24, false) ::
 og 27 (.load none (.t 26)) (15, 24, false) ::
 og 28 (.call 155 [(.t 25), (.t 27)]) (15, 24, false) ::
 ⟨some 29, .un .not (.t 28), [], [], (some (15, 24, false)), (some ([0, 6, 24, 29], none))⟩ ::
 R_o5)
def g_tree_parser_take.o4 : List AOper := g_tree_parser_take.o4F g_tree_parser_take.o5
def g_tree_parser_take.o3F (R_o4 : List AOper) : List AOper :=
 (oo 23 (.pick (.t 14) (.c (.d (.bool true))) (.t 22)) ::
 ⟨some 24, .mv (.t 23), [], [], none, (some ([0, 1, 6, 24], none))⟩ ::
 R_o4)
def g_tree_parser_take.o3 : List AOper := g_tree_parser_take.o3F g_tree_parser_take.o4
def g_tree_parser_take.o2F (R_o3 : List AOper) : List AOper :=
 (⟨some 22, .pick (.t 18) (.t 21) (.c (.d (.bool false))), [], [], (some (5, 14, false)), (some ([0, 1, 6, 14, 22], none))⟩ ::
 R_o3)
def g_tree_parser_take.o2 : List AOper := g_tree_parser_take.o2F g_tree_parser_take.o3
def g_tree_parser_take.o1F (R_o2 : List AOper) : List AOper :=
 (og 19 (.faddr 0 (.t 6)) (9, 18, true) ::
 og 20 (.load none (.t 19)) (9, 18, true) ::
 ⟨some 21, .bin .neq (.t 20) (.c (.d (.int .i64 5))), [], [], (some (9, 18, true)), (some ([0, 1, 6, 14, 18, 21], none))⟩ ::
 R_o2)
def g_tree_parser_take.o1 : List AOper := g_tree_parser_take.o1F g_tree_parser_take.o2
def g_tree_parser_take.o0F (R_o1 : List AOper) : List AOper :=
 (og 15 (.faddr 0 (.t 6)) (5, 14, false) ::
 og 16 (.load none (.t 15)) (5, 14, false) ::
 og 17 (.bin .neq (.t 16) (.c (.d (.int .i64 1)))) (5, 14, false) ::
 ⟨some 18, .mv (.t 17), [], [], (some (5, 14, false)), (some ([0, 1, 6, 14, 18], none))⟩ ::
 R_o1)
def g_tree_parser_take.o0 : List AOper := g_tree_parser_take.o0F g_tree_parser_take.o1
def g_tree_parser_take.c0 : ACode :=
 .cond (.t 30) (.seq (.region [4, 5] none none
 [oo 4 (.mv (.c (.d (.str [])))),
 oo 5 (.mv (.c (.d (.bool false))))])
 (.ret))
 (.skip)
def g_tree_parser_take.c1 : ACode :=
 .seq (.region [4, 5] none none
 [oo 38 (.faddr 1 (.t 6)),
 oo 39 (.load none (.t 38)),
 om 4 39,
 oo 5 (.mv (.c (.d (.bool true))))])
 (.ret)
def g_tree_parser_take.c2F (R_c1 : ACode) : ACode :=
 .seq (.region [6] none none
 [om 31 0,
 oo 32 (.nilc (.t 31)),
 oo 33 (.faddr 2 (.t 32)),
 oo 34 (.load none (.t 33)),
 oo 35 (.bin .add (.t 34) (.c (.d (.int .i64 1)))),
 oo 36 (.nilc (.t 31)),
 oo 37 (.faddr 2 (.t 36)),
 ⟨none, .store 1 (.t 37) (.t 35), [], [], none, none⟩])
 (R_c1)
def g_tree_parser_take.c2 : ACode := g_tree_parser_take.c2F g_tree_parser_take.c1
def g_tree_parser_take.c3F (R_o0 : List AOper) (R_c0 : ACode) (R_c2 : ACode) : ACode :=
 .seq (.seq (.region [0, 6, 30] none none
 (om 9 0 ::
 oo 10 (.nilc (.t 9)) ::
 oo 11 (.faddr 5 (.t 10)) ::
 oo 12 (.load none (.t 11)) ::
 oo 13 (.bin .neq (.t 12) (.c (.d (.int .i64 0)))) ::
 ⟨some 14, .mv (.t 13), [], [], none, (some ([0, 1, 6, 14], none))⟩ ::
 R_o0))
 (R_c0))
 (R_c2)
def g_tree_parser_take.c3 : ACode := g_tree_parser_take.c3F g_tree_parser_take.o0 g_tree_parser_take.c0 g_tree_parser_take.c2
def g_tree_parser_take.codeF (R_c3 : ACode) : ACode :=
 .seq (.region [0, 1] none none
 [oo 4 (.mv (.c (.d (.str [])))),
 oo 5 (.mv (.c (.d (.bool false))))])
 (.seq (.region [0, 1, 6] none none
 [om 7 0,
 oo 8 (.call 217 [(.t 7)]),
 oo 6 (.alloc 6 [.d (.int .i64 0), .d (.str []), .d (.int .i64 0)]),
 ⟨none, .store 3 (.t 6) (.t 8), [], [], none, none⟩])
 (R_c3))
def g_tree_parser_take.code : ACode := g_tree_parser_take.codeF g_tree_parser_take.c3
def g_tree_parser_take : AFn := { N := 40, res := [.slot 4, .slot 5], own := [], frz := [], code := g_tree_parser_take.code }
def g_tree_named.code : ACode :=
 .seq (.region [0] (some []) none
 [oo 2 (.mv (.c (.d (.bool false))))])
 (.seq (.region [2] (some []) none
 [oo 3 (.call 157 []),
 oo 4 (.bsl none 1 [] 5 [(0, (.c (.d (.str [105, 102])))), (1, (.c (.d (.str [116, 104, 101, 110])))), (2, (.c (.d (.str [101, 108, 115, 101])))), (3, (.c (.d (.str [109, 105, 110])))), (4, (.c (.d (.str [109, 97, 120]))))]),
 oo 5 (.app none 1 16 (.t 3) (.t 4)),
 om 6 0,
 oo 7 (.call 155 [(.t 5), (.t 6)]),
 oo 8 (.un .not (.t 7)),
 om 2 8])
 (.ret))
def g_tree_named : AFn := { N := 9, res := [.slot 2], own := [], frz := [], code := g_tree_named.code }
def g_tree_parser_need.c0 : ACode :=
 .seq (.region [0, 14] none none
 [om 13 5,
 oo 14 (.un .not (.t 13))])
 (.cond (.t 14) (.region [] none none
 [om 15 0,
 oo 16 (.call 218 [(.t 15), (.c (.d (.int .i64 2)))])])
 (.skip))
def g_tree_parser_need.codeF (R_c0 : ACode) : ACode :=
 .seq (.region [0, 5] none none
 [om 7 0,
 om 8 1,
 oo 9 (.bsl none 1 [] 1 [(0, (.t 8))]),
 oo 10 (.call 219 [(.t 7), (.t 9)]),
 om 6 10,
 oo 11 (.ext (.t 6) 0),
 oo 12 (.ext (.t 6) 1),
 om 4 11,
 om 5 12])
 (R_c0)
def g_tree_parser_need.code : ACode := g_tree_parser_need.codeF g_tree_parser_need.c0
def g_tree_parser_need : AFn := { N := 17, res := [], own := [], frz := [], code := g_tree_parser_need.code }
def g_tree_parser_expression.c0 : ACode :=
 .seq (.region [4] none none
 [om 46 0,
 om 47 7,
 om 48 8,
 om 49 9,
 oo 50 (.build [.d (.str []), .d (.str []), .d (.int .i64 0), .d (.int .i64 0), .d (.int .i64 0), .d (.int .i64 0)] [(0, 1, (.c (.d (.str [105, 102])))), (3, 1, (.t 47)), (4, 1, (.t 48)), (5, 1, (.t 49))]),
 oo 51 (.call 222 [(.t 46), (.t 50)]),
 om 4 51])
 (.ret)
def g_tree_parser_expression.c1F (R_c0 : ACode) : ACode :=
 .seq (.region [0, 1, 7, 8] none none
 [om 40 0,
 oo 41 (.call 220 [(.t 40), (.c (.d (.str [101, 108, 115, 101])))])])
 (.seq (.region [0, 7, 8, 9] none none
 [om 42 0,
 om 43 1,
 oo 44 (.bin .add (.t 43) (.c (.d (.int .i64 1)))),
 oo 45 (.call 221 [(.t 42), (.t 44)]),
 om 9 45])
 (R_c0))
def g_tree_parser_expression.c1 : ACode := g_tree_parser_expression.c1F g_tree_parser_expression.c0
def g_tree_parser_expression.c2F (R_c1 : ACode) : ACode :=
 .seq (.region [0, 1, 7] none none
 [om 34 0,
 oo 35 (.call 220 [(.t 34), (.c (.d (.str [116, 104, 101, 110])))])])
 (.seq (.region [0, 1, 7, 8] none none
 [om 36 0,
 om 37 1,
 oo 38 (.bin .add (.t 37) (.c (.d (.int .i64 1)))),
 oo 39 (.call 221 [(.t 36), (.t 38)]),
 om 8 39])
 (R_c1))
def g_tree_parser_expression.c2 : ACode := g_tree_parser_expression.c2F g_tree_parser_expression.c1
def g_tree_parser_expression.c3F (R_c2 : ACode) : ACode :=
 .seq (.region [0, 1, 29] none none
 [om 29 6])
 (.cond (.t 29) (.seq (.region [0, 1, 7] none none
 [om 30 0,
 om 31 1,
 oo 32 (.bin .add (.t 31) (.c (.d (.int .i64 1)))),
 oo 33 (.call 221 [(.t 30), (.t 32)]),
 om 7 33])
 (R_c2))
 (.skip))
def g_tree_parser_expression.c3 : ACode := g_tree_parser_expression.c3F g_tree_parser_expression.c2
def g_tree_parser_expression.c4 : ACode :=
 .seq (.region [4] none none
 [om 65 0,
 om 66 11,
 om 67 10,
 om 68 13,
 oo 69 (.build [.d (.str []), .d (.str []), .d (.int .i64 0), .d (.int .i64 0), .d (.int .i64 0), .d (.int .i64 0)] [(0, 1, (.t 66)), (3, 1, (.t 67)), (4, 1, (.t 68))]),
 oo 70 (.call 222 [(.t 65), (.t 69)]),
 om 4 70])
 (.ret)
def g_tree_parser_expression.c5F (R_c4 : ACode) : ACode :=
 .seq (.region [0, 1, 10, 11, 61] none none
 [om 61 12])
 (.cond (.t 61) (.seq (.region [0, 10, 11, 13] none none
 [om 62 0,
 om 63 1,
 oo 64 (.call 223 [(.t 62), (.t 63)]),
 om 13 64])
 (R_c4))
 (.skip))
def g_tree_parser_expression.c5 : ACode := g_tree_parser_expression.c5F g_tree_parser_expression.c4
def g_tree_parser_expression.c6 : ACode :=
 .seq (.region [4] none none
 [om 71 10,
 om 4 71])
 (.ret)
def g_tree_parser_expression.c7F (R_c5 : ACode) (R_c6 : ACode) : ACode :=
 .seq (.seq (.region [0, 1, 10, 11, 12] none none
 [om 56 0,
 oo 57 (.bsl none 1 [] 6 [(0, (.c (.d (.str [60])))), (1, (.c (.d (.str [60, 61])))), (2, (.c (.d (.str [61])))), (3, (.c (.d (.str [60, 62])))), (4, (.c (.d (.str [62])))), (5, (.c (.d (.str [62, 61]))))]),
 oo 58 (.call 219 [(.t 56), (.t 57)]),
 om 55 58,
 oo 59 (.ext (.t 55) 0),
 oo 60 (.ext (.t 55) 1),
 om 11 59,
 om 12 60])
 (R_c5))
 (R_c6)
def g_tree_parser_expression.c7 : ACode := g_tree_parser_expression.c7F g_tree_parser_expression.c5 g_tree_parser_expression.c6
def g_tree_parser_expression.c8F (R_c7 : ACode) : ACode :=
 .seq (.region [0, 1, 10] none none
 [om 52 0,
 om 53 1,
 oo 54 (.call 223 [(.t 52), (.t 53)]),
 om 10 54])
 (R_c7)
def g_tree_parser_expression.c8 : ACode := g_tree_parser_expression.c8F g_tree_parser_expression.c7
def g_tree_parser_expression.c9F (R_c3 : ACode) (R_c8 : ACode) : ACode :=
 .seq (.seq (.region [0, 1, 6] none none
 [om 24 0,
 oo 25 (.bsl none 1 [] 1 [(0, (.c (.d (.str [105, 102]))))]),
 oo 26 (.call 219 [(.t 24), (.t 25)]),
 om 23 26,
 oo 27 (.ext (.t 23) 0),
 oo 28 (.ext (.t 23) 1),
 om 5 27,
 om 6 28])
 (R_c3))
 (R_c8)
def g_tree_parser_expression.c9 : ACode := g_tree_parser_expression.c9F g_tree_parser_expression.c3 g_tree_parser_expression.c8
def g_tree_parser_expression.c10F (R_c9 : ACode) : ACode :=
 .seq (.seq (.region [0, 1, 22] none none
 [om 18 0,
 oo 19 (.nilc (.t 18)),
 oo 20 (.faddr 5 (.t 19)),
 oo 21 (.load none (.t 20)),
 oo 22 (.bin .neq (.t 21) (.c (.d (.int .i64 0))))])
 (.cond (.t 22) (.seq (.region [4] none none
 [oo 4 (.mv (.c (.d (.int .i64 0))))])
 (.ret))
 (.skip)))
 (R_c9)
def g_tree_parser_expression.c10 : ACode := g_tree_parser_expression.c10F g_tree_parser_expression.c9
def g_tree_parser_expression.codeF (R_c10 : ACode) : ACode :=
 .seq (.region [0, 1] none none
 [oo 4 (.mv (.c (.d (.int .i64 0))))])
 (.seq (.seq (.region [0, 1, 15] none none
 [om 14 1,
 oo 15 (.bin .gtr (.t 14) (.c (.d (.int .i64 20))))])
 (.cond (.t 15) (.region [0, 1] none none
 [om 16 0,
 oo 17 (.call 218 [(.t 16), (.c (.d (.int .i64 9)))])])
 (.skip)))
 (R_c10))
def g_tree_parser_expression.code : ACode := g_tree_parser_expression.codeF g_tree_parser_expression.c10
def g_tree_parser_expression : AFn := { N := 72, res := [.slot 4], own := [], frz := [], code := g_tree_parser_expression.code }
def g_show_parts.c0 : ACode :=
 .cond (.t 21) (.seq (.region [2] (some [11, 20, 36, 51, 70]) none
 [oo 24 (.faddr 0 (.t 1)),
 oo 25 (.load none (.t 24)),
 oo 26 (.bin .add (.t 25) (.c (.d (.str [40])))),
 oo 27 (.build [.d (.str []), .d (.int .i64 0), .d (.int .i64 0)] [(0, 1, (.t 26))]),
 oo 28 (.faddr 3 (.t 1)),
 oo 29 (.load none (.t 28)),
 oo 30 (.build [.d (.str []), .d (.int .i64 0), .d (.int .i64 0)] [(1, 1, (.t 29))]),
 oo 31 (.build [.d (.str []), .d (.int .i64 0), .d (.int .i64 0)] [(0, 1, (.c (.d (.str [44, 32]))))]),
 oo 32 (.faddr 4 (.t 1)),
 oo 33 (.load none (.t 32)),
 oo 34 (.build [.d (.str []), .d (.int .i64 0), .d (.int .i64 0)] [(1, 1, (.t 33))]),
 oo 35 (.build [.d (.str []), .d (.int .i64 0), .d (.int .i64 0)] [(0, 1, (.c (.d (.str [41]))))]),
 oo 36 (.bsl (some 36) 3 [] 5 [(0, (.t 27)), (1, (.t 30)), (2, (.t 31)), (3, (.t 34)), (4, (.t 35))]),
 om 2 36])
 (.ret))
 (.seq (.region [1, 37] (some [1]) none
 [oo 38 (.bin .eql (.t 13) (.c (.d (.str [105, 102])))),
 om 37 38])
 (.cond (.t 37) (.seq (.region [2] (some [11, 20, 36, 51, 70]) none
 [oo 39 (.build [.d (.str []), .d (.int .i64 0), .d (.int .i64 0)] [(0, 1, (.c (.d (.str [105, 102, 32]))))]),
 oo 40 (.faddr 3 (.t 1)),
 oo 41 (.load none (.t 40)),
 oo 42 (.build [.d (.str []), .d (.int .i64 0), .d (.int .i64 0)] [(1, 1, (.t 41))]),
 oo 43 (.build [.d (.str []), .d (.int .i64 0), .d (.int .i64 0)] [(0, 1, (.c (.d (.str [32, 116, 104, 101, 110, 32]))))]),
 oo 44 (.faddr 4 (.t 1)),
 oo 45 (.load none (.t 44)),
 oo 46 (.build [.d (.str []), .d (.int .i64 0), .d (.int .i64 0)] [(1, 1, (.t 45))]),
 oo 47 (.build [.d (.str []), .d (.int .i64 0), .d (.int .i64 0)] [(0, 1, (.c (.d (.str [32, 101, 108, 115, 101, 32]))))]),
 oo 48 (.faddr 5 (.t 1)),
 oo 49 (.load none (.t 48)),
 oo 50 (.build [.d (.str []), .d (.int .i64 0), .d (.int .i64 0)] [(1, 1, (.t 49))]),
 oo 51 (.bsl (some 51) 3 [] 6 [(0, (.t 39)), (1, (.t 42)), (2, (.t 43)), (3, (.t 46)), (4, (.t 47)), (5, (.t 50))]),
 om 2 51])
 (.ret))
 (.skip)))
def g_show_parts.c1 : ACode :=
 .seq (.region [2] (some [11, 20, 36, 51, 70]) none
 [oo 55 (.faddr 3 (.t 1)),
 oo 56 (.load none (.t 55)),
 om 57 4,
 oo 58 (.mm true [(.t 57), (.c (.d (.int .i64 2)))]),
 oo 59 (.build [.d (.str []), .d (.int .i64 0), .d (.int .i64 0)] [(1, 1, (.t 56)), (2, 1, (.t 58))]),
 oo 60 (.faddr 0 (.t 1)),
 oo 61 (.load none (.t 60)),
 oo 62 (.bin .add (.c (.d (.str [32]))) (.t 61)),
 oo 63 (.bin .add (.t 62) (.c (.d (.str [32])))),
 oo 64 (.build [.d (.str []), .d (.int .i64 0), .d (.int .i64 0)] [(0, 1, (.t 63))]),
 oo 65 (.faddr 4 (.t 1)),
 oo 66 (.load none (.t 65)),
 om 67 4,
 oo 68 (.bin .add (.t 67) (.c (.d (.int .i64 1)))),
 oo 69 (.build [.d (.str []), .d (.int .i64 0), .d (.int .i64 0)] [(1, 1, (.t 66)), (2, 1, (.t 68))]),
 oo 70 (.bsl (some 70) 3 [] 3 [(0, (.t 59)), (1, (.t 64)), (2, (.t 69))]),
 om 2 70])
 (.ret)
def g_show_parts.c2F (R_c1 : ACode) : ACode :=
 .seq (.region [1, 4] (some [1]) none
 [oo 52 (.faddr 0 (.t 1)),
 oo 53 (.load none (.t 52)),
 oo 54 (.call 211 [(.t 53)]),
 om 4 54])
 (R_c1)
def g_show_parts.c2 : ACode := g_show_parts.c2F g_show_parts.c1
def g_show_parts.c3F (R_c0 : ACode) (R_c2 : ACode) : ACode :=
 .seq (.seq (.region [1, 13] (some [1]) none
 [oo 12 (.faddr 0 (.t 1)),
 oo 13 (.load none (.t 12))])
 (.block 0 [1] (some [1]) (.seq (.region [1, 13, 14] (some [1]) none
 [oo 15 (.bin .eql (.t 13) (.c (.d (.str [110, 101, 103])))),
 om 14 15])
 (.cond (.t 14) (.seq (.region [2] (some [11, 20, 36, 51, 70]) none
 [oo 16 (.build [.d (.str []), .d (.int .i64 0), .d (.int .i64 0)] [(0, 1, (.c (.d (.str [45]))))]),
 oo 17 (.faddr 3 (.t 1)),
 oo 18 (.load none (.t 17)),
 oo 19 (.build [.d (.str []), .d (.int .i64 0), .d (.int .i64 0)] [(1, 1, (.t 18)), (2, 1, (.c (.d (.int .i64 4))))]),
 oo 20 (.bsl (some 20) 3 [] 2 [(0, (.t 16)), (1, (.t 19))]),
 om 2 20])
 (.ret))
 (.seq (.seq (.region [1, 13, 21] (some [1]) none
 [oo 22 (.bin .eql (.t 13) (.c (.d (.str [109, 105, 110])))),
 om 21 22])
 (.cond (.t 21) (.skip)
 (.region [1, 13, 21] (some [1]) none
 [oo 23 (.bin .eql (.t 13) (.c (.d (.str [109, 97, 120])))),
 om 21 23])))
 (R_c0))))))
 (R_c2)
def g_show_parts.c3 : ACode := g_show_parts.c3F g_show_parts.c0 g_show_parts.c2
def g_show_parts.codeF (R_c3 : ACode) : ACode :=
 .seq (.region [1] (some [1]) none
 [oo 1 (.box 1 6 (.t 0)),
 oo 2 (.mv (.c (.cap0)))])
 (.seq (.seq (.region [1, 3] (some [1]) none
 [oo 5 (.load (some 6) (.t 1)),
 oo 6 (.call 216 [(.t 5)]),
 om 3 6])
 (.seq (.region [1, 3, 8] (some [1]) none
 [om 7 3,
 oo 8 (.bin .neq (.t 7) (.c (.d (.str []))))])
 (.cond (.t 8) (.seq (.region [2] (some [11, 20, 36, 51, 70]) none
 [om 9 3,
 oo 10 (.build [.d (.str []), .d (.int .i64 0), .d (.int .i64 0)] [(0, 1, (.t 9))]),
 oo 11 (.bsl (some 11) 3 [] 1 [(0, (.t 10))]),
 om 2 11])
 (.ret))
 (.skip))))
 (R_c3))
def g_show_parts.code : ACode := g_show_parts.codeF g_show_parts.c3
def g_show_parts : AFn := { N := 71, res := [.slot 2], own := [(2, 70, 3)], frz := [], code := g_show_parts.code }
def g_show_level.c0 : ACode :=
 .cond (.t 13) (.seq (.region [2] (some []) none
 [oo 2 (.mv (.c (.d (.int .i64 2))))])
 (.ret))
 (.seq (.region [16] (some []) none
 [oo 17 (.bin .eql (.t 3) (.c (.d (.str [42])))),
 om 16 17])
 (.cond (.t 16) (.seq (.region [2] (some []) none
 [oo 2 (.mv (.c (.d (.int .i64 3))))])
 (.ret))
 (.skip)))
def g_show_level.c1F (R_c0 : ACode) : ACode :=
 .cond (.t 6) (.seq (.region [2] (some []) none
 [oo 2 (.mv (.c (.d (.int .i64 1))))])
 (.ret))
 (.seq (.seq (.region [3, 13] (some []) none
 [oo 14 (.bin .eql (.t 3) (.c (.d (.str [43])))),
 om 13 14])
 (.cond (.t 13) (.skip)
 (.region [3, 13] (some []) none
 [oo 15 (.bin .eql (.t 3) (.c (.d (.str [45])))),
 om 13 15])))
 (R_c0))
def g_show_level.c1 : ACode := g_show_level.c1F g_show_level.c0
def g_show_level.c2 : ACode :=
 .seq (.region [2] (some []) none
 [oo 2 (.mv (.c (.d (.int .i64 4))))])
 (.ret)
def g_show_level.codeF (R_c1 : ACode) (R_c2 : ACode) : ACode :=
 .seq (.region [0] (some []) none
 [oo 2 (.mv (.c (.d (.int .i64 0))))])
 (.seq (.seq (.region [3] (some []) none
 [om 3 0])
 (.block 0 [] (some []) (.seq (.region [3, 4] (some []) none
 [oo 5 (.bin .eql (.t 3) (.c (.d (.str [105, 102])))),
 om 4 5])
 (.cond (.t 4) (.seq (.region [2] (some []) none
 [oo 2 (.mv (.c (.d (.int .i64 0))))])
 (.ret))
 (.seq (.seq (.region [3, 6] (some []) none
 [oo 7 (.bin .eql (.t 3) (.c (.d (.str [60])))),
 om 6 7])
 (.cond (.t 6) (.skip)
 (.seq (.region [3, 6] (some []) none
 [oo 8 (.bin .eql (.t 3) (.c (.d (.str [60, 61])))),
 om 6 8])
 (.cond (.t 6) (.skip)
 (.seq (.region [3, 6] (some []) none
 [oo 9 (.bin .eql (.t 3) (.c (.d (.str [61])))),
 om 6 9])
 (.cond (.t 6) (.skip)
 (.seq (.region [3, 6] (some []) none
 [oo 10 (.bin .eql (.t 3) (.c (.d (.str [60, 62])))),
 om 6 10])
 (.cond (.t 6) (.skip)
 (.seq (.region [3, 6] (some []) none
 [oo 11 (.bin .eql (.t 3) (.c (.d (.str [62])))),
 om 6 11])
 (.cond (.t 6) (.skip)
 (.region [3, 6] (some []) none
 [oo 12 (.bin .eql (.t 3) (.c (.d (.str [62, 61])))),
 om 6 12])))))))))))
 (R_c1))))))
 (R_c2))
def g_show_level.code : ACode := g_show_level.codeF g_show_level.c1 g_show_level.c2
def g_show_level : AFn := { N := 18, res := [.slot 2], own := [], frz := [], code := g_show_level.code }
def g_slices_Reverse_item.a0 : List AOper :=
 [om 14 0,
 om 15 2,
 om 16 0,
 om 17 3,
 om 18 0,
 om 19 3,
 ⟨some 20, .iaddr 3 (.t 18) (.t 19), [], [4, 5], none, none⟩,
 ⟨some 21, .load (some 3) (.t 20), [], [6], none, none⟩,
 om 22 0,
 om 23 2,
 ⟨some 24, .iaddr 3 (.t 22) (.t 23), [], [8, 9], none, none⟩,
 ⟨some 25, .load (some 3) (.t 24), [], [10], none, none⟩,
 ⟨some 26, .iaddr 3 (.t 14) (.t 15), [], [0, 1, 0, 1, 4, 5, 6, 7, 11], none, none⟩,
 ⟨none, .store 3 (.t 26) (.t 21), [], [12, 7, 0, 1, 4, 5, 6, 7, 11], none, none⟩,
 ⟨some 27, .iaddr 3 (.t 16) (.t 17), [], [2, 3, 0, 1, 2, 3, 4, 5, 6, 7, 8, 9, 10, 11, 12, 13], none, none⟩,
 ⟨none, .store 3 (.t 27) (.t 25), [], [14, 11, 13, 0, 1, 2, 3, 4, 5, 6, 7, 8, 9, 10, 11, 12, 13], none, none⟩]
def g_slices_Reverse_item.t8 : Tr := .one 15 .done
def g_slices_Reverse_item.t9 : Tr := .one 14 g_slices_Reverse_item.t8
def g_slices_Reverse_item.t10 : Tr := .one 13 g_slices_Reverse_item.t9
def g_slices_Reverse_item.t11 : Tr := .one 12 g_slices_Reverse_item.t10
def g_slices_Reverse_item.t12 : Tr := .one 11 g_slices_Reverse_item.t11
def g_slices_Reverse_item.t13 : Tr := .one 10 g_slices_Reverse_item.t12
def g_slices_Reverse_item.t14 : Tr := .one 7 g_slices_Reverse_item.t11
def g_slices_Reverse_item.t15 : Tr := .one 11 g_slices_Reverse_item.t14
def g_slices_Reverse_item.t16 : Tr := .two 7 g_slices_Reverse_item.t12 g_slices_Reverse_item.t15
def g_slices_Reverse_item.t17 : Tr := .one 10 g_slices_Reverse_item.t16
def g_slices_Reverse_item.t18 : Tr := .two 7 g_slices_Reverse_item.t13 g_slices_Reverse_item.t17
def g_slices_Reverse_item.t19 : Tr := .one 6 g_slices_Reverse_item.t14
def g_slices_Reverse_item.t20 : Tr := .one 11 g_slices_Reverse_item.t19
def g_slices_Reverse_item.t21 : Tr := .two 6 g_slices_Reverse_item.t16 g_slices_Reverse_item.t20
def g_slices_Reverse_item.t22 : Tr := .one 10 g_slices_Reverse_item.t21
def g_slices_Reverse_item.t23 : Tr := .two 6 g_slices_Reverse_item.t18 g_slices_Reverse_item.t22
def g_slices_Reverse_item.i7 : List Nat := 9 :: []
def g_slices_Reverse_item.i6 : List Nat := 2008 :: g_slices_Reverse_item.i7
def g_slices_Reverse_item.i5 : List Nat := 5 :: g_slices_Reverse_item.i6
def g_slices_Reverse_item.i4 : List Nat := 2004 :: g_slices_Reverse_item.i5
def g_slices_Reverse_item.i3 : List Nat := 3 :: g_slices_Reverse_item.i4
def g_slices_Reverse_item.i2 : List Nat := 2002 :: g_slices_Reverse_item.i3
def g_slices_Reverse_item.i1 : List Nat := 1 :: g_slices_Reverse_item.i2
def g_slices_Reverse_item.c0 : ACode :=
 .region [0, 2, 3] none none
 [om 10 2,
 oo 11 (.bin .add (.t 10) (.c (.d (.int .i64 1)))),
 om 12 3,
 oo 13 (.bin .sub (.t 12) (.c (.d (.int .i64 1)))),
 om 2 11,
 om 3 13]
def g_slices_Reverse_item.l0F (R_i1 : List Nat) (R_t23 : Tr) (R_c0 : ACode) : ACode :=
 .loop [0, 2, 3] none (.seq (.seq (.region [0, 2, 3, 9] none none
 [om 7 2,
 om 8 3,
 oo 9 (.bin .lss (.t 7) (.t 8))])
 (.cond (.t 9) (.skip)
 (.exit 0)))
 (.seq (.block 1 [0, 2, 3] none (.region [0, 2, 3] none (some (2000 :: R_i1, R_t23)) g_slices_Reverse_item.a0))
 (R_c0)))
def g_slices_Reverse_item.l0 : ACode := g_slices_Reverse_item.l0F g_slices_Reverse_item.i1 g_slices_Reverse_item.t23 g_slices_Reverse_item.c0
def g_slices_Reverse_item.c1F (R_l0 : ACode) : ACode :=
 .block 0 [] none (R_l0)
def g_slices_Reverse_item.c1 : ACode := g_slices_Reverse_item.c1F g_slices_Reverse_item.l0
def g_slices_Reverse_item.codeF (R_c1 : ACode) : ACode :=
 .seq (.region [0, 2, 3] none none
 [om 4 0,
 oo 5 (.len (.t 4)),
 oo 6 (.bin .sub (.t 5) (.c (.d (.int .i64 1)))),
 oo 2 (.mv (.c (.d (.int .i64 0)))),
 om 3 6])
 (R_c1)
def g_slices_Reverse_item.code : ACode := g_slices_Reverse_item.codeF g_slices_Reverse_item.c1
def g_slices_Reverse_item : AFn := { N := 28, res := [], own := [], frz := [], code := g_slices_Reverse_item.code }
def g_lex_letter.o1 : List AOper :=
 [oo 8 (.pick (.t 5) (.t 7) (.c (.d (.bool false)))),
 om 2 8]
def g_lex_letter.o0F (R_o1 : List AOper) : List AOper :=
 (og 6 (.mv (.t 0)) (2, 5, true) ::
 ow 7 (.bin .leq (.t 6) (.c (.d (.int .u8 122)))) (2, 5, true) [5, 7] [] ::
 R_o1)
def g_lex_letter.o0 : List AOper := g_lex_letter.o0F g_lex_letter.o1
def g_lex_letter.c0 : ACode :=
 .ret
def g_lex_letter.codeF (R_o0 : List AOper) (R_c0 : ACode) : ACode :=
 .seq (.region [0] (some []) none
 [oo 2 (.mv (.c (.d (.bool false))))])
 (.seq (.region [2] (some []) none
 (om 3 0 ::
 oo 4 (.bin .geq (.t 3) (.c (.d (.int .u8 97)))) ::
 oz 5 (.mv (.t 4)) [0, 5] [] ::
 R_o0))
 (R_c0))
def g_lex_letter.code : ACode := g_lex_letter.codeF g_lex_letter.o0 g_lex_letter.c0
def g_lex_letter : AFn := { N := 9, res := [.slot 2], own := [], frz := [], code := g_lex_letter.code }
def g_lex_one_1.o1 : List AOper :=
 [oo 8 (.pick (.t 5) (.c (.d (.bool true))) (.t 7)),
 om 2 8]
def g_lex_one_1.o0F (R_o1 : List AOper) : List AOper :=
 (og 6 (.mv (.t 0)) (2, 5, false) ::
 ow 7 (.call 107 [(.t 6)]) (2, 5, false) [5, 7] [] ::
 R_o1)
def g_lex_one_1.o0 : List AOper := g_lex_one_1.o0F g_lex_one_1.o1
def g_lex_one_1.c0 : ACode :=
 .ret
def g_lex_one_1.codeF (R_o0 : List AOper) (R_c0 : ACode) : ACode :=
 .seq (.region [0] (some []) none
 [oo 2 (.mv (.c (.d (.bool false))))])
 (.seq (.region [2] (some []) none
 (om 3 0 ::
 oo 4 (.call 105 [(.t 3)]) ::
 oz 5 (.mv (.t 4)) [0, 5] [] ::
 R_o0))
 (R_c0))
def g_lex_one_1.code : ACode := g_lex_one_1.codeF g_lex_one_1.o0 g_lex_one_1.c0
def g_lex_one_1 : AFn := { N := 9, res := [.slot 2], own := [], frz := [], code := g_lex_one_1.code }
def g_lex_digit.o1 : List AOper :=
 [oo 8 (.pick (.t 5) (.t 7) (.c (.d (.bool false)))),
 om 2 8]
def g_lex_digit.o0F (R_o1 : List AOper) : List AOper :=
 (og 6 (.mv (.t 0)) (2, 5, true) ::
 ow 7 (.bin .leq (.t 6) (.c (.d (.int .u8 57)))) (2, 5, true) [5, 7] [] ::
 R_o1)
def g_lex_digit.o0 : List AOper := g_lex_digit.o0F g_lex_digit.o1
def g_lex_digit.c0 : ACode :=
 .ret
def g_lex_digit.codeF (R_o0 : List AOper) (R_c0 : ACode) : ACode :=
 .seq (.region [0] (some []) none
 [oo 2 (.mv (.c (.d (.bool false))))])
 (.seq (.region [2] (some []) none
 (om 3 0 ::
 oo 4 (.bin .geq (.t 3) (.c (.d (.int .u8 48)))) ::
 oz 5 (.mv (.t 4)) [0, 5] [] ::
 R_o0))
 (R_c0))
def g_lex_digit.code : ACode := g_lex_digit.codeF g_lex_digit.o0 g_lex_digit.c0
def g_lex_digit : AFn := { N := 9, res := [.slot 2], own := [], frz := [], code := g_lex_digit.code }
def g_lex_one_2.o3 : List AOper :=
 [oo 12 (.pick (.t 9) (.c (.d (.bool true))) (.t 11)),
 om 2 12]
def g_lex_one_2.o2F (R_o3 : List AOper) : List AOper :=
 (og 10 (.mv (.t 0)) (6, 9, false) ::
 ow 11 (.bin .eql (.t 10) (.c (.d (.int .u8 37)))) (6, 9, false) [9, 11] [] ::
 R_o3)
def g_lex_one_2.o2 : List AOper := g_lex_one_2.o2F g_lex_one_2.o3
def g_lex_one_2.o1F (R_o2 : List AOper) : List AOper :=
 (oo 8 (.pick (.t 5) (.c (.d (.bool true))) (.t 7)) ::
 oz 9 (.mv (.t 8)) [0, 9] [] ::
 R_o2)
def g_lex_one_2.o1 : List AOper := g_lex_one_2.o1F g_lex_one_2.o2
def g_lex_one_2.o0F (R_o1 : List AOper) : List AOper :=
 (og 6 (.mv (.t 0)) (2, 5, false) ::
 ow 7 (.bin .eql (.t 6) (.c (.d (.int .u8 46)))) (2, 5, false) [0, 5, 7] [] ::
 R_o1)
def g_lex_one_2.o0 : List AOper := g_lex_one_2.o0F g_lex_one_2.o1
def g_lex_one_2.c0 : ACode :=
 .ret
def g_lex_one_2.codeF (R_o0 : List AOper) (R_c0 : ACode) : ACode :=
 .seq (.region [0] (some []) none
 [oo 2 (.mv (.c (.d (.bool false))))])
 (.seq (.region [2] (some []) none
 (om 3 0 ::
 oo 4 (.call 107 [(.t 3)]) ::
 oz 5 (.mv (.t 4)) [0, 5] [] ::
 R_o0))
 (R_c0))
def g_lex_one_2.code : ACode := g_lex_one_2.codeF g_lex_one_2.o0 g_lex_one_2.c0
def g_lex_one_2 : AFn := { N := 13, res := [.slot 2], own := [], frz := [], code := g_lex_one_2.code }
def g_lex_figure.c0 : ACode :=
 .seq (.region [0, 12] (some []) none
 [om 12 4])
 (.cond (.t 12) (.seq (.region [2] (some []) none
 [oo 2 (.mv (.c (.d (.int .i64 3))))])
 (.ret))
 (.skip))
def g_lex_figure.c1 : ACode :=
 .seq (.region [0, 18] (some []) none
 [om 18 6])
 (.cond (.t 18) (.seq (.region [2] (some []) none
 [oo 2 (.mv (.c (.d (.int .i64 4))))])
 (.ret))
 (.skip))
def g_lex_figure.o5 : List AOper :=
 [oo 37 (.pick (.t 29) (.t 36) (.c (.d (.bool false))))]
def g_lex_figure.o4F (R_o5 : List AOper) : List AOper :=
 (ow 36 (.pick (.t 32) (.c (.d (.bool true))) (.t 35)) (10, 29, true) [29, 36] [] ::
 R_o5)
def g_lex_figure.o4 : List AOper := g_lex_figure.o4F g_lex_figure.o5
def g_lex_figure.o3F (R_o4 : List AOper) : List AOper :=
 (og 33 (.mv (.t 0)) (13, 32, false) ::
 og 34 (.idx (.t 33) (.c (.d (.int .i64 0)))) (13, 32, false) ::
 ow 35 (.bin .neq (.t 34) (.c (.d (.int .u8 48)))) (13, 32, false) [29, 32, 35] [] ::
 R_o4)
def g_lex_figure.o3 : List AOper := g_lex_figure.o3F g_lex_figure.o4
def g_lex_figure.o2F (R_o3 : List AOper) : List AOper :=
 (og 30 (.mv (.t 0)) (10, 29, true) ::
 og 31 (.bin .eql (.t 30) (.c (.d (.str [48])))) (10, 29, true) ::
 ow 32 (.mv (.t 31)) (10, 29, true) [0, 29, 32] [] ::
 R_o3)
def g_lex_figure.o2 : List AOper := g_lex_figure.o2F g_lex_figure.o3
def g_lex_figure.o1F (R_o2 : List AOper) : List AOper :=
 (oo 28 (.pick (.t 22) (.t 27) (.c (.d (.bool false)))) ::
 oz 29 (.mv (.t 28)) [0, 29] [] ::
 R_o2)
def g_lex_figure.o1 : List AOper := g_lex_figure.o1F g_lex_figure.o2
def g_lex_figure.o0F (R_o1 : List AOper) : List AOper :=
 (og 23 (.mv (.t 0)) (3, 22, true) ::
 og 24 (.call 102 [(.t 23), (.c (.d (.int .i64 0))), (.f 107)]) (3, 22, true) ::
 og 25 (.mv (.t 0)) (3, 22, true) ::
 og 26 (.lenS (.t 25)) (3, 22, true) ::
 ow 27 (.bin .eql (.t 24) (.t 26)) (3, 22, true) [0, 22, 27] [] ::
 R_o1)
def g_lex_figure.o0 : List AOper := g_lex_figure.o0F g_lex_figure.o1
def g_lex_figure.c2 : ACode :=
 .cond (.t 37) (.seq (.region [2] (some []) none
 [oo 2 (.mv (.c (.d (.int .i64 2))))])
 (.ret))
 (.skip)
def g_lex_figure.c3 : ACode :=
 .seq (.region [2] (some []) none
 [oo 2 (.mv (.c (.d (.int .i64 0))))])
 (.ret)
def g_lex_figure.c4F (R_o0 : List AOper) (R_c2 : ACode) (R_c3 : ACode) : ACode :=
 .seq (.seq (.region [37] (some []) none
 (om 19 0 ::
 oo 20 (.lenS (.t 19)) ::
 oo 21 (.bin .leq (.t 20) (.c (.d (.int .i64 9)))) ::
 oz 22 (.mv (.t 21)) [0, 22] [] ::
 R_o0))
 (R_c2))
 (R_c3)
def g_lex_figure.c4 : ACode := g_lex_figure.c4F g_lex_figure.o0 g_lex_figure.c2 g_lex_figure.c3
def g_lex_figure.c5F (R_c1 : ACode) (R_c4 : ACode) : ACode :=
 .seq (.seq (.region [0, 6] (some []) none
 [om 14 0,
 oo 15 (.call 92 [(.t 14)]),
 om 13 15,
 oo 16 (.ext (.t 13) 0),
 oo 17 (.ext (.t 13) 1),
 om 5 16,
 om 6 17])
 (R_c1))
 (R_c4)
def g_lex_figure.c5 : ACode := g_lex_figure.c5F g_lex_figure.c1 g_lex_figure.c4
def g_lex_figure.codeF (R_c0 : ACode) (R_c5 : ACode) : ACode :=
 .seq (.region [0] (some []) none
 [oo 2 (.mv (.c (.d (.int .i64 0))))])
 (.seq (.seq (.region [0, 4] (some []) none
 [om 8 0,
 oo 9 (.call 51 [(.t 8)]),
 om 7 9,
 oo 10 (.ext (.t 7) 0),
 oo 11 (.ext (.t 7) 1),
 om 3 10,
 om 4 11])
 (R_c0))
 (R_c5))
def g_lex_figure.code : ACode := g_lex_figure.codeF g_lex_figure.c0 g_lex_figure.c5
def g_lex_figure : AFn := { N := 38, res := [.slot 2], own := [], frz := [], code := g_lex_figure.code }
def g_lex_sign.c0 : ACode :=
 .region [0, 5, 6, 7] (some []) none
 [oo 16 (.bin .add (.t 7) (.c (.d (.int .i64 1)))),
 om 7 16]
def g_lex_sign.l0F (R_c0 : ACode) : ACode :=
 .loop [0, 5, 6, 7] (some []) (.seq (.region [0, 5, 6, 7, 8] (some []) none
 [oo 8 (.bin .lss (.t 7) (.t 6))])
 (.seq (.cond (.t 8) (.skip)
 (.exit 0))
 (.seq (.block 1 [0, 5, 6, 7] (some []) (.seq (.region [0, 4, 5, 6, 7] (some []) none
 [oo 9 (.iaddr 1 (.t 5) (.t 7)),
 oo 10 (.load none (.t 9)),
 om 4 10])
 (.seq (.region [0, 4, 5, 6, 7, 13] (some []) none
 [om 11 0,
 om 12 4,
 oo 13 (.call 123 [(.t 11), (.t 12)])])
 (.cond (.t 13) (.seq (.region [2] (some []) none
 [om 14 4,
 oo 15 (.lenS (.t 14)),
 om 2 15])
 (.ret))
 (.skip)))))
 (R_c0))))
def g_lex_sign.l0 : ACode := g_lex_sign.l0F g_lex_sign.c0
def g_lex_sign.c1 : ACode :=
 .seq (.region [2] (some []) none
 [oo 2 (.mv (.c (.d (.int .i64 0))))])
 (.ret)
def g_lex_sign.c2F (R_c1 : ACode) : ACode :=
 .seq (.seq (.region [20] (some []) none
 [om 17 0,
 oo 18 (.idx (.t 17) (.c (.d (.int .i64 0)))),
 oo 19 (.call 124 [(.c (.d (.str [61, 60, 62, 43, 45, 42, 40, 41, 44, 59]))), (.t 18)]),
 oo 20 (.bin .geq (.t 19) (.c (.d (.int .i64 0))))])
 (.cond (.t 20) (.seq (.region [2] (some []) none
 [oo 2 (.mv (.c (.d (.int .i64 1))))])
 (.ret))
 (.skip)))
 (R_c1)
def g_lex_sign.c2 : ACode := g_lex_sign.c2F g_lex_sign.c1
def g_lex_sign.codeF (R_l0 : ACode) (R_c2 : ACode) : ACode :=
 .seq (.region [0] (some []) none
 [oo 2 (.mv (.c (.d (.int .i64 0))))])
 (.seq (.seq (.region [0, 5, 6, 7] (some []) none
 [oo 5 (.bsl none 1 [] 3 [(0, (.c (.d (.str [60, 61])))), (1, (.c (.d (.str [62, 61])))), (2, (.c (.d (.str [60, 62]))))]),
 oo 6 (.len (.t 5)),
 oo 7 (.mv (.c (.d (.int .i64 0))))])
 (.block 0 [0] (some []) (R_l0)))
 (R_c2))
def g_lex_sign.code : ACode := g_lex_sign.codeF g_lex_sign.l0 g_lex_sign.c2
def g_lex_sign : AFn := { N := 21, res := [.slot 2], own := [], frz := [], code := g_lex_sign.code }
def g_slices_Index_string.c0 : ACode :=
 .region [0, 1, 7, 8] (some []) none
 [oo 18 (.bin .add (.t 8) (.c (.d (.int .i64 1)))),
 om 8 18]
def g_slices_Index_string.l0F (R_c0 : ACode) : ACode :=
 .loop [0, 1, 7, 8] (some []) (.seq (.region [0, 1, 7, 8, 9] (some []) none
 [oo 9 (.bin .lss (.t 8) (.t 7))])
 (.seq (.cond (.t 9) (.skip)
 (.exit 0))
 (.seq (.block 1 [0, 1, 7, 8] (some []) (.seq (.region [0, 1, 5, 7, 8] (some []) none
 [om 10 8,
 om 5 10])
 (.seq (.region [0, 1, 5, 7, 8, 16] (some []) none
 [om 11 1,
 om 12 0,
 om 13 5,
 oo 14 (.iaddr 1 (.t 12) (.t 13)),
 oo 15 (.load none (.t 14)),
 oo 16 (.bin .eql (.t 11) (.t 15))])
 (.cond (.t 16) (.seq (.region [4] (some []) none
 [om 17 5,
 om 4 17])
 (.ret))
 (.skip)))))
 (R_c0))))
def g_slices_Index_string.l0 : ACode := g_slices_Index_string.l0F g_slices_Index_string.c0
def g_slices_Index_string.c1 : ACode :=
 .seq (.region [4] (some []) none
 [oo 4 (.mv (.c (.d (.int .i64 (-1)))))])
 (.ret)
def g_slices_Index_string.codeF (R_l0 : ACode) (R_c1 : ACode) : ACode :=
 .seq (.region [0, 1] (some []) none
 [oo 4 (.mv (.c (.d (.int .i64 0))))])
 (.seq (.seq (.region [0, 1, 7, 8] (some []) none
 [om 6 0,
 oo 7 (.len (.t 6)),
 oo 8 (.mv (.c (.d (.int .i64 0))))])
 (.block 0 [] (some []) (R_l0)))
 (R_c1))
def g_slices_Index_string.code : ACode := g_slices_Index_string.codeF g_slices_Index_string.l0 g_slices_Index_string.c1
def g_slices_Index_string : AFn := { N := 19, res := [.slot 4], own := [], frz := [], code := g_slices_Index_string.code }
def g_tree_parser_put.a0 : List AOper :=
 [om 5 0,
 om 6 0,
 ⟨some 7, .nilc (.t 6), [], [1], none, none⟩,
 ⟨some 8, .faddr 3 (.t 7), [], [2], none, none⟩,
 ⟨some 9, .faddr 1 (.t 8), [], [3], none, none⟩,
 ⟨some 10, .load none (.t 9), [], [4], none, none⟩,
 oo 11 (.load (some 6) (.t 3)),
 ⟨some 12, .bsl none 6 [] 1 [(0, (.t 11))], [], [6], none, none⟩,
 ⟨some 13, .app (some 13) 6 64 (.t 10) (.t 12), [], [5, 7], none, (some ([], none))⟩,
 ⟨some 14, .nilc (.t 5), [], [0, 0, 1, 2, 3, 4, 5, 6, 7, 8], none, none⟩,
 ⟨some 15, .faddr 3 (.t 14), [], [9, 0, 1, 2, 3, 4, 5, 6, 7, 8], none, none⟩,
 ⟨some 16, .faddr 1 (.t 15), [], [10, 0, 1, 2, 3, 4, 5, 6, 7, 8], none, none⟩,
 ⟨none, .store 1 (.t 16) (.t 13), [], [11, 8, 8, 0, 1, 2, 3, 4, 5, 6, 7, 8], none, none⟩]
def g_tree_parser_put.t5 : Tr := .one 12 .done
def g_tree_parser_put.t6 : Tr := .one 11 g_tree_parser_put.t5
def g_tree_parser_put.t7 : Tr := .one 10 g_tree_parser_put.t6
def g_tree_parser_put.t8 : Tr := .one 9 g_tree_parser_put.t7
def g_tree_parser_put.t9 : Tr := .one 8 g_tree_parser_put.t8
def g_tree_parser_put.t10 : Tr := .one 7 g_tree_parser_put.t9
def g_tree_parser_put.t11 : Tr := .one 6 g_tree_parser_put.t10
def g_tree_parser_put.t12 : Tr := .one 5 g_tree_parser_put.t9
def g_tree_parser_put.t13 : Tr := .one 7 g_tree_parser_put.t12
def g_tree_parser_put.t14 : Tr := .two 5 g_tree_parser_put.t10 g_tree_parser_put.t13
def g_tree_parser_put.t15 : Tr := .one 6 g_tree_parser_put.t14
def g_tree_parser_put.t16 : Tr := .two 5 g_tree_parser_put.t11 g_tree_parser_put.t15
def g_tree_parser_put.i4 : List Nat := 4 :: []
def g_tree_parser_put.i3 : List Nat := 3 :: g_tree_parser_put.i4
def g_tree_parser_put.i2 : List Nat := 2 :: g_tree_parser_put.i3
def g_tree_parser_put.i1 : List Nat := 1 :: g_tree_parser_put.i2
def g_tree_parser_put.c0 : ACode :=
 .seq (.region [4] none none
 [om 17 0,
 oo 18 (.nilc (.t 17)),
 oo 19 (.faddr 3 (.t 18)),
 oo 20 (.faddr 1 (.t 19)),
 oo 21 (.load none (.t 20)),
 oo 22 (.len (.t 21)),
 oo 23 (.bin .sub (.t 22) (.c (.d (.int .i64 1)))),
 om 4 23])
 (.ret)
def g_tree_parser_put.codeF (R_i1 : List Nat) (R_t16 : Tr) (R_c0 : ACode) : ACode :=
 .seq (.region [0, 3] none none
 [oo 3 (.box 3 6 (.t 1)),
 oo 4 (.mv (.c (.d (.int .i64 0))))])
 (.seq (.region [0] none (some (0 :: R_i1, R_t16)) g_tree_parser_put.a0)
 (R_c0))
def g_tree_parser_put.code : ACode := g_tree_parser_put.codeF g_tree_parser_put.i1 g_tree_parser_put.t16 g_tree_parser_put.c0
def g_tree_parser_put : AFn := { N := 24, res := [.slot 4], own := [], frz := [], code := g_tree_parser_put.code }
def g_tree_parser_sum.c0 : ACode :=
 .region [0, 1, 5] none none
 [om 24 0,
 om 25 6,
 om 26 5,
 om 27 8,
 oo 28 (.build [.d (.str []), .d (.str []), .d (.int .i64 0), .d (.int .i64 0), .d (.int .i64 0), .d (.int .i64 0)] [(0, 1, (.t 25)), (3, 1, (.t 26)), (4, 1, (.t 27))]),
 oo 29 (.call 222 [(.t 24), (.t 28)]),
 om 5 29]
def g_tree_parser_sum.c1F (R_c0 : ACode) : ACode :=
 .seq (.region [0, 1, 5, 6, 8] none none
 [om 21 0,
 om 22 1,
 oo 23 (.call 224 [(.t 21), (.t 22)]),
 om 8 23])
 (R_c0)
def g_tree_parser_sum.c1 : ACode := g_tree_parser_sum.c1F g_tree_parser_sum.c0
def g_tree_parser_sum.c2F (R_c1 : ACode) : ACode :=
 .seq (.seq (.region [0, 1, 5, 6, 19] none none
 [om 18 7,
 oo 19 (.un .not (.t 18))])
 (.cond (.t 19) (.seq (.region [4] none none
 [om 20 5,
 om 4 20])
 (.ret))
 (.skip)))
 (R_c1)
def g_tree_parser_sum.c2 : ACode := g_tree_parser_sum.c2F g_tree_parser_sum.c1
def g_tree_parser_sum.l0F (R_c2 : ACode) : ACode :=
 .loop [0, 1, 5] none (.block 1 [0, 1, 5] none (.seq (.region [0, 1, 5, 6, 7] none none
 [om 13 0,
 oo 14 (.bsl none 1 [] 2 [(0, (.c (.d (.str [43])))), (1, (.c (.d (.str [45]))))]),
 oo 15 (.call 219 [(.t 13), (.t 14)]),
 om 12 15,
 oo 16 (.ext (.t 12) 0),
 oo 17 (.ext (.t 12) 1),
 om 6 16,
 om 7 17])
 (R_c2)))
def g_tree_parser_sum.l0 : ACode := g_tree_parser_sum.l0F g_tree_parser_sum.c2
def g_tree_parser_sum.c3F (R_l0 : ACode) : ACode :=
 .block 0 [4] none (R_l0)
def g_tree_parser_sum.c3 : ACode := g_tree_parser_sum.c3F g_tree_parser_sum.l0
def g_tree_parser_sum.codeF (R_c3 : ACode) : ACode :=
 .seq (.region [0, 1] none none
 [oo 4 (.mv (.c (.d (.int .i64 0))))])
 (.seq (.region [0, 1, 5] none none
 [om 9 0,
 om 10 1,
 oo 11 (.call 224 [(.t 9), (.t 10)]),
 om 5 11])
 (R_c3))
def g_tree_parser_sum.code : ACode := g_tree_parser_sum.codeF g_tree_parser_sum.c3
def g_tree_parser_sum : AFn := { N := 30, res := [.slot 4], own := [], frz := [], code := g_tree_parser_sum.code }
def g_show_leaf.c0 : ACode :=
 .seq (.region [2] (some []) none
 [om 31 3,
 om 2 31])
 (.ret)
def g_show_leaf.codeF (R_c0 : ACode) : ACode :=
 .seq (.region [1] (some [1]) none
 [oo 1 (.box 1 6 (.t 0)),
 oo 2 (.mv (.c (.d (.str []))))])
 (.seq (.region [1, 3] (some [1]) none
 [oo 3 (.mv (.c (.d (.str []))))])
 (.seq (.seq (.region [1, 3, 5] (some [1]) none
 [oo 4 (.faddr 0 (.t 1)),
 oo 5 (.load none (.t 4))])
 (.block 0 [3] (some []) (.seq (.region [1, 3, 5, 6] (some [1]) none
 [oo 7 (.bin .eql (.t 5) (.c (.d (.str [119, 104, 111, 108, 101])))),
 om 6 7])
 (.cond (.t 6) (.region [3] (some []) none
 [oo 8 (.faddr 2 (.t 1)),
 oo 9 (.load none (.t 8)),
 oo 10 (.call 68 [(.t 9)]),
 om 3 10])
 (.seq (.region [1, 3, 5, 11] (some [1]) none
 [oo 12 (.bin .eql (.t 5) (.c (.d (.str [97, 109, 111, 117, 110, 116])))),
 om 11 12])
 (.cond (.t 11) (.region [3] (some []) none
 [oo 14 (.faddr 2 (.t 1)),
 oo 15 (.load none (.t 14)),
 oo 16 (.call 50 [(.t 15)]),
 om 13 16,
 oo 17 (.ext (.t 13) 0),
 oo 18 (.ext (.t 13) 1),
 om 3 17])
 (.seq (.region [1, 3, 5, 19] (some [1]) none
 [oo 20 (.bin .eql (.t 5) (.c (.d (.str [114, 97, 116, 101])))),
 om 19 20])
 (.cond (.t 19) (.region [3] (some []) none
 [oo 22 (.faddr 2 (.t 1)),
 oo 23 (.load none (.t 22)),
 oo 24 (.call 91 [(.t 23)]),
 om 21 24,
 oo 25 (.ext (.t 21) 0),
 oo 26 (.ext (.t 21) 1),
 om 3 25])
 (.seq (.region [1, 3, 27] (some [1]) none
 [oo 28 (.bin .eql (.t 5) (.c (.d (.str [110, 97, 109, 101])))),
 om 27 28])
 (.cond (.t 27) (.region [3] (some []) none
 [oo 29 (.faddr 1 (.t 1)),
 oo 30 (.load none (.t 29)),
 om 3 30])
 (.skip)))))))))))
 (R_c0)))
def g_show_leaf.code : ACode := g_show_leaf.codeF g_show_leaf.c0
def g_show_leaf : AFn := { N := 32, res := [.slot 2], own := [], frz := [], code := g_show_leaf.code }
def g_money_Parse.o1 : List AOper :=
 [oo 20 (.pick (.t 16) (.c (.d (.bool true))) (.t 19))]
def g_money_Parse.o0F (R_o1 : List AOper) : List AOper :=
 (og 17 (.mv (.t 4)) (2, 16, false) ::
 og 18 (.call 58 [(.t 17)]) (2, 16, false) ::
 ow 19 (.un .not (.t 18)) (2, 16, false) [0, 4, 16, 19] [] ::
 R_o1)
def g_money_Parse.o0 : List AOper := g_money_Parse.o0F g_money_Parse.o1
def g_money_Parse.c0 : ACode :=
 .cond (.t 20) (.seq (.region [2, 3] (some []) none
 [oo 2 (.mv (.c (.d (.int .i64 0)))),
 oo 3 (.mv (.c (.d (.bool false))))])
 (.ret))
 (.skip)
def g_money_Parse.c1 : ACode :=
 .seq (.region [4, 28] (some []) none
 [om 26 6,
 om 27 0,
 oo 28 (.bin .neq (.t 26) (.t 27))])
 (.cond (.t 28) (.seq (.region [2, 3] (some []) none
 [oo 2 (.mv (.c (.d (.int .i64 0)))),
 oo 3 (.mv (.c (.d (.bool false))))])
 (.ret))
 (.skip))
def g_money_Parse.c2 : ACode :=
 .seq (.region [2, 3] (some []) none
 [om 29 4,
 om 2 29,
 oo 3 (.mv (.c (.d (.bool true))))])
 (.ret)
def g_money_Parse.c3F (R_c1 : ACode) (R_c2 : ACode) : ACode :=
 .seq (.seq (.region [0, 4, 6] (some []) none
 [om 22 4,
 oo 23 (.call 50 [(.t 22)]),
 om 21 23,
 oo 24 (.ext (.t 21) 0),
 oo 25 (.ext (.t 21) 1),
 om 6 24,
 om 7 25])
 (R_c1))
 (R_c2)
def g_money_Parse.c3 : ACode := g_money_Parse.c3F g_money_Parse.c1 g_money_Parse.c2
def g_money_Parse.c4F (R_o0 : List AOper) (R_c0 : ACode) (R_c3 : ACode) : ACode :=
 .seq (.seq (.region [0, 4, 20] (some []) none
 (om 14 5 ::
 oo 15 (.nilE true (.t 14)) ::
 oz 16 (.mv (.t 15)) [0, 4, 16] [] ::
 R_o0))
 (R_c0))
 (R_c3)
def g_money_Parse.c4 : ACode := g_money_Parse.c4F g_money_Parse.o0 g_money_Parse.c0 g_money_Parse.c3
def g_money_Parse.codeF (R_c4 : ACode) : ACode :=
 .seq (.region [0] (some []) none
 [oo 2 (.mv (.c (.d (.int .i64 0)))),
 oo 3 (.mv (.c (.d (.bool false))))])
 (.seq (.region [0, 4, 5] (some []) none
 [om 9 0,
 oo 10 (.call 69 [(.t 9), (.c (.d (.str [46]))), (.c (.d (.str []))), (.c (.d (.int .i64 1)))]),
 oo 11 (.call 70 [(.t 10)]),
 om 8 11,
 oo 12 (.ext (.t 8) 0),
 oo 13 (.ext (.t 8) 1),
 om 4 12,
 om 5 13])
 (R_c4))
def g_money_Parse.code : ACode := g_money_Parse.codeF g_money_Parse.c4
def g_money_Parse : AFn := { N := 30, res := [.slot 2, .slot 3], own := [], frz := [], code := g_money_Parse.code }
def g_rate_Parse.o3 : List AOper :=
 [oo 28 (.pick (.t 24) (.c (.d (.bool true))) (.t 27))]
def g_rate_Parse.o2F (R_o3 : List AOper) : List AOper :=
 (og 25 (.mv (.t 6)) (6, 24, false) ::
 og 26 (.call 88 [(.t 25)]) (6, 24, false) ::
 ow 27 (.un .not (.t 26)) (6, 24, false) [6, 24, 27] [] ::
 R_o3)
def g_rate_Parse.o2 : List AOper := g_rate_Parse.o2F g_rate_Parse.o3
def g_rate_Parse.o1F (R_o2 : List AOper) : List AOper :=
 (oo 23 (.pick (.t 20) (.c (.d (.bool true))) (.t 22)) ::
 oz 24 (.mv (.t 23)) [6, 24] [] ::
 R_o2)
def g_rate_Parse.o1 : List AOper := g_rate_Parse.o1F g_rate_Parse.o2
def g_rate_Parse.o0F (R_o1 : List AOper) : List AOper :=
 (og 21 (.mv (.t 7)) (2, 20, false) ::
 ow 22 (.un .not (.t 21)) (2, 20, false) [6, 20, 22] [] ::
 R_o1)
def g_rate_Parse.o0 : List AOper := g_rate_Parse.o0F g_rate_Parse.o1
def g_rate_Parse.c0 : ACode :=
 .cond (.t 28) (.seq (.region [2, 3] (some []) none
 [oo 2 (.mv (.c (.d (.int .i64 0)))),
 oo 3 (.mv (.c (.d (.bool false))))])
 (.ret))
 (.skip)
def g_rate_Parse.c1 : ACode :=
 .seq (.region [2, 3] (some []) none
 [om 29 6,
 om 2 29,
 oo 3 (.mv (.c (.d (.bool true))))])
 (.ret)
def g_rate_Parse.c2F (R_o0 : List AOper) (R_c0 : ACode) (R_c1 : ACode) : ACode :=
 .seq (.seq (.region [6, 28] (some []) none
 (om 18 5 ::
 oo 19 (.un .not (.t 18)) ::
 oz 20 (.mv (.t 19)) [6, 7, 20] [] ::
 R_o0))
 (R_c0))
 (R_c1)
def g_rate_Parse.c2 : ACode := g_rate_Parse.c2F g_rate_Parse.o0 g_rate_Parse.c0 g_rate_Parse.c1
def g_rate_Parse.c3F (R_c2 : ACode) : ACode :=
 .seq (.region [5, 6, 7] (some []) none
 [om 14 4,
 oo 15 (.call 51 [(.t 14)]),
 om 13 15,
 oo 16 (.ext (.t 13) 0),
 oo 17 (.ext (.t 13) 1),
 om 6 16,
 om 7 17])
 (R_c2)
def g_rate_Parse.c3 : ACode := g_rate_Parse.c3F g_rate_Parse.c2
def g_rate_Parse.codeF (R_c3 : ACode) : ACode :=
 .seq (.region [0] (some []) none
 [oo 2 (.mv (.c (.d (.int .i64 0)))),
 oo 3 (.mv (.c (.d (.bool false))))])
 (.seq (.region [4, 5] (some []) none
 [om 9 0,
 oo 10 (.call 101 [(.t 9), (.c (.d (.str [37])))]),
 om 8 10,
 oo 11 (.ext (.t 8) 0),
 oo 12 (.ext (.t 8) 1),
 om 4 11,
 om 5 12])
 (R_c3))
def g_rate_Parse.code : ACode := g_rate_Parse.codeF g_rate_Parse.c3
def g_rate_Parse : AFn := { N := 30, res := [.slot 2, .slot 3], own := [], frz := [], code := g_rate_Parse.code }
def g_strings_HasPrefix.code : ACode :=
 .seq (.region [0, 1] (some []) none
 [oo 4 (.mv (.c (.d (.bool false))))])
 (.seq (.region [4] (some []) none
 [om 5 0,
 om 6 1,
 oo 7 (.call 131 [(.t 5), (.t 6)]),
 om 4 7])
 (.ret))
def g_strings_HasPrefix : AFn := { N := 8, res := [.slot 4], own := [], frz := [], code := g_strings_HasPrefix.code }
def g_tree_parser_product.c0 : ACode :=
 .seq (.region [0, 1, 5, 19] none none
 [om 18 7,
 oo 19 (.un .not (.t 18))])
 (.cond (.t 19) (.seq (.region [4] none none
 [om 20 5,
 om 4 20])
 (.ret))
 (.skip))
def g_tree_parser_product.c1 : ACode :=
 .region [0, 1, 5] none none
 [om 24 0,
 om 25 5,
 om 26 8,
 oo 27 (.build [.d (.str []), .d (.str []), .d (.int .i64 0), .d (.int .i64 0), .d (.int .i64 0), .d (.int .i64 0)] [(0, 1, (.c (.d (.str [42])))), (3, 1, (.t 25)), (4, 1, (.t 26))]),
 oo 28 (.call 222 [(.t 24), (.t 27)]),
 om 5 28]
def g_tree_parser_product.c2F (R_c1 : ACode) : ACode :=
 .seq (.region [0, 1, 5, 8] none none
 [om 21 0,
 om 22 1,
 oo 23 (.call 225 [(.t 21), (.t 22)]),
 om 8 23])
 (R_c1)
def g_tree_parser_product.c2 : ACode := g_tree_parser_product.c2F g_tree_parser_product.c1
def g_tree_parser_product.l0F (R_c0 : ACode) (R_c2 : ACode) : ACode :=
 .loop [0, 1, 5] none (.block 1 [0, 1, 5] none (.seq (.seq (.region [0, 1, 5, 7] none none
 [om 13 0,
 oo 14 (.bsl none 1 [] 1 [(0, (.c (.d (.str [42]))))]),
 oo 15 (.call 219 [(.t 13), (.t 14)]),
 om 12 15,
 oo 16 (.ext (.t 12) 0),
 oo 17 (.ext (.t 12) 1),
 om 6 16,
 om 7 17])
 (R_c0))
 (R_c2)))
def g_tree_parser_product.l0 : ACode := g_tree_parser_product.l0F g_tree_parser_product.c0 g_tree_parser_product.c2
def g_tree_parser_product.c3F (R_l0 : ACode) : ACode :=
 .block 0 [4] none (R_l0)
def g_tree_parser_product.c3 : ACode := g_tree_parser_product.c3F g_tree_parser_product.l0
def g_tree_parser_product.codeF (R_c3 : ACode) : ACode :=
 .seq (.region [0, 1] none none
 [oo 4 (.mv (.c (.d (.int .i64 0))))])
 (.seq (.region [0, 1, 5] none none
 [om 9 0,
 om 10 1,
 oo 11 (.call 225 [(.t 9), (.t 10)]),
 om 5 11])
 (R_c3))
def g_tree_parser_product.code : ACode := g_tree_parser_product.codeF g_tree_parser_product.c3
def g_tree_parser_product : AFn := { N := 29, res := [.slot 4], own := [], frz := [], code := g_tree_parser_product.code }
def g_money_Text.c0 : ACode :=
 .seq (.region [2, 3] (some []) (some ([0, 1, 2, 3, 4, 5, 6, 7, 8, 9, 10], .done))
 [om 17 4,
 om 18 0,
 ⟨some 19, .bin .quo (.t 18) (.c (.d (.int .i64 100))), [], [1], none, none⟩,
 ⟨some 20, .call 68 [(.t 19)], [], [2], none, none⟩,
 ⟨some 21, .bin .add (.t 17) (.t 20), [], [0, 3], none, none⟩,
 ⟨some 22, .bin .add (.t 21) (.c (.d (.str [46]))), [], [4], none, none⟩,
 om 23 5,
 ⟨some 24, .slcS (.t 23) (some (.c (.d (.int .i64 1)))) none, [], [6], none, none⟩,
 ⟨some 25, .bin .add (.t 22) (.t 24), [], [5, 7], none, none⟩,
 ⟨some 2, .mv (.t 25), [], [8, 3, 0, 1, 2, 3, 4, 5, 6, 7, 8], none, none⟩,
 ⟨some 3, .mv (.c (.d (.int .i64 0))), [], [9, 0, 1, 2, 3, 4, 5, 6, 7, 8, 9], none, none⟩])
 (.ret)
def g_money_Text.c1F (R_c0 : ACode) : ACode :=
 .seq (.region [0, 4, 5] (some []) none
 [om 13 0,
 oo 14 (.bin .rem (.t 13) (.c (.d (.int .i64 100)))),
 oo 15 (.bin .add (.c (.d (.int .i64 100))) (.t 14)),
 oo 16 (.call 68 [(.t 15)]),
 om 5 16])
 (R_c0)
def g_money_Text.c1 : ACode := g_money_Text.c1F g_money_Text.c0
def g_money_Text.c2F (R_c1 : ACode) : ACode :=
 .seq (.region [0, 4] (some []) none
 [oo 4 (.mv (.c (.d (.str []))))])
 (.seq (.seq (.region [0, 4, 10] (some []) none
 [om 9 0,
 oo 10 (.bin .lss (.t 9) (.c (.d (.int .i64 0))))])
 (.cond (.t 10) (.region [0, 4] (some []) none
 [om 11 0,
 oo 12 (.un .neg (.t 11)),
 oo 4 (.mv (.c (.d (.str [45])))),
 om 0 12])
 (.skip)))
 (R_c1))
def g_money_Text.c2 : ACode := g_money_Text.c2F g_money_Text.c1
def g_money_Text.codeF (R_c2 : ACode) : ACode :=
 .seq (.region [0] (some []) none
 [oo 2 (.mv (.c (.d (.str [])))),
 oo 3 (.mv (.c (.d (.int .i64 0))))])
 (.seq (.seq (.region [0, 8] (some []) none
 [om 6 0,
 oo 7 (.call 58 [(.t 6)]),
 oo 8 (.un .not (.t 7))])
 (.cond (.t 8) (.seq (.region [2, 3] (some []) none
 [oo 2 (.mv (.c (.d (.str [])))),
 oo 3 (.mv (.c (.d (.int .i64 3))))])
 (.ret))
 (.skip)))
 (R_c2))
def g_money_Text.code : ACode := g_money_Text.codeF g_money_Text.c2
def g_money_Text : AFn := { N := 26, res := [.slot 2, .slot 3], own := [], frz := [], code := g_money_Text.code }
def g_rate_Text.c0 : ACode :=
 .seq (.region [2, 3] (some []) none
 [om 14 4,
 oo 15 (.bin .add (.t 14) (.c (.d (.str [37])))),
 om 2 15,
 oo 3 (.mv (.c (.d (.int .i64 0))))])
 (.ret)
def g_rate_Text.c1F (R_c0 : ACode) : ACode :=
 .seq (.region [4] (some []) none
 [om 10 0,
 oo 11 (.call 50 [(.t 10)]),
 om 9 11,
 oo 12 (.ext (.t 9) 0),
 oo 13 (.ext (.t 9) 1),
 om 4 12,
 om 5 13])
 (R_c0)
def g_rate_Text.c1 : ACode := g_rate_Text.c1F g_rate_Text.c0
def g_rate_Text.codeF (R_c1 : ACode) : ACode :=
 .seq (.region [0] (some []) none
 [oo 2 (.mv (.c (.d (.str [])))),
 oo 3 (.mv (.c (.d (.int .i64 0))))])
 (.seq (.seq (.region [0, 8] (some []) none
 [om 6 0,
 oo 7 (.call 88 [(.t 6)]),
 oo 8 (.un .not (.t 7))])
 (.cond (.t 8) (.seq (.region [2, 3] (some []) none
 [oo 2 (.mv (.c (.d (.str [])))),
 oo 3 (.mv (.c (.d (.int .i64 1))))])
 (.ret))
 (.skip)))
 (R_c1))
def g_rate_Text.code : ACode := g_rate_Text.codeF g_rate_Text.c1
def g_rate_Text : AFn := { N := 16, res := [.slot 2, .slot 3], own := [], frz := [], code := g_rate_Text.code }
def g_money_Right.code : ACode :=
 .seq (.region [0] (some []) none
 [oo 2 (.mv (.c (.d (.bool false))))])
 (.seq (.region [2] (some []) none
 [om 3 0,
 oo 4 (.bin .geq (.t 3) (.c (.d (.int .i64 (-9223372036854775807))))),
 om 2 4])
 (.ret))
def g_money_Right : AFn := { N := 5, res := [.slot 2], own := [], frz := [], code := g_money_Right.code }
def g_strings_CutSuffix.code : ACode :=
 .seq (.region [0, 1] (some []) none
 [oo 4 (.mv (.c (.d (.str [])))),
 oo 5 (.mv (.c (.d (.bool false))))])
 (.seq (.region [4, 5] (some []) none
 [om 6 0,
 om 7 1,
 oo 8 (.call 122 [(.t 6), (.t 7)]),
 oo 9 (.ext (.t 8) 0),
 oo 10 (.ext (.t 8) 1),
 om 4 9,
 om 5 10])
 (.ret))
def g_strings_CutSuffix : AFn := { N := 11, res := [.slot 4, .slot 5], own := [], frz := [], code := g_strings_CutSuffix.code }
def g_rate_Right.o1 : List AOper :=
 [oo 8 (.pick (.t 5) (.t 7) (.c (.d (.bool false)))),
 om 2 8]
def g_rate_Right.o0F (R_o1 : List AOper) : List AOper :=
 (og 6 (.mv (.t 0)) (2, 5, true) ::
 ow 7 (.bin .leq (.t 6) (.c (.d (.int .i64 10000)))) (2, 5, true) [5, 7] [] ::
 R_o1)
def g_rate_Right.o0 : List AOper := g_rate_Right.o0F g_rate_Right.o1
def g_rate_Right.c0 : ACode :=
 .ret
def g_rate_Right.codeF (R_o0 : List AOper) (R_c0 : ACode) : ACode :=
 .seq (.region [0] (some []) none
 [oo 2 (.mv (.c (.d (.bool false))))])
 (.seq (.region [2] (some []) none
 (om 3 0 ::
 oo 4 (.bin .geq (.t 3) (.c (.d (.int .i64 0)))) ::
 oz 5 (.mv (.t 4)) [0, 5] [] ::
 R_o0))
 (R_c0))
def g_rate_Right.code : ACode := g_rate_Right.codeF g_rate_Right.o0 g_rate_Right.c0
def g_rate_Right : AFn := { N := 9, res := [.slot 2], own := [], frz := [], code := g_rate_Right.code }
def g_internal_stringslite_HasPrefix.o1 : List AOper :=
 [oo 17 (.pick (.t 10) (.t 16) (.c (.d (.bool false)))),
 om 4 17]
def g_internal_stringslite_HasPrefix.o0F (R_o1 : List AOper) : List AOper :=
 (og 11 (.mv (.t 0)) (5, 10, true) ::
 og 12 (.mv (.t 1)) (5, 10, true) ::
 og 13 (.lenS (.t 12)) (5, 10, true) ::
 og 14 (.slcS (.t 11) none (some (.t 13))) (5, 10, true) ::
 og 15 (.mv (.t 1)) (5, 10, true) ::
 ow 16 (.bin .eql (.t 14) (.t 15)) (5, 10, true) [10, 16] [] ::
 R_o1)
def g_internal_stringslite_HasPrefix.o0 : List AOper := g_internal_stringslite_HasPrefix.o0F g_internal_stringslite_HasPrefix.o1
def g_internal_stringslite_HasPrefix.c0 : ACode :=
 .ret
def g_internal_stringslite_HasPrefix.codeF (R_o0 : List AOper) (R_c0 : ACode) : ACode :=
 .seq (.region [0, 1] (some []) none
 [oo 4 (.mv (.c (.d (.bool false))))])
 (.seq (.region [4] (some []) none
 (om 5 0 ::
 oo 6 (.lenS (.t 5)) ::
 om 7 1 ::
 oo 8 (.lenS (.t 7)) ::
 oo 9 (.bin .geq (.t 6) (.t 8)) ::
 oz 10 (.mv (.t 9)) [0, 1, 10] [] ::
 R_o0))
 (R_c0))
def g_internal_stringslite_HasPrefix.code : ACode := g_internal_stringslite_HasPrefix.codeF g_internal_stringslite_HasPrefix.o0 g_internal_stringslite_HasPrefix.c0
def g_internal_stringslite_HasPrefix : AFn := { N := 18, res := [.slot 4], own := [], frz := [], code := g_internal_stringslite_HasPrefix.code }
def g_tree_parser_factor.c0 : ACode :=
 .seq (.region [0, 1, 27] none none
 [om 27 6])
 (.cond (.t 27) (.seq (.region [4] none none
 [om 28 0,
 om 29 0,
 om 30 1,
 oo 31 (.bin .add (.t 30) (.c (.d (.int .i64 1)))),
 oo 32 (.call 225 [(.t 29), (.t 31)]),
 oo 33 (.build [.d (.str []), .d (.str []), .d (.int .i64 0), .d (.int .i64 0), .d (.int .i64 0), .d (.int .i64 0)] [(0, 1, (.c (.d (.str [110, 101, 103])))), (3, 1, (.t 32))]),
 oo 34 (.call 222 [(.t 28), (.t 33)]),
 om 4 34])
 (.ret))
 (.skip))
def g_tree_parser_factor.c1 : ACode :=
 .seq (.region [0, 1, 7, 41] none none
 [om 41 8])
 (.cond (.t 41) (.seq (.region [4] none none
 [om 42 0,
 om 43 7,
 om 44 1,
 oo 45 (.call 226 [(.t 42), (.t 43), (.t 44)]),
 om 4 45])
 (.ret))
 (.skip))
def g_tree_parser_factor.c2 : ACode :=
 .seq (.region [11] none none
 [om 57 0,
 oo 58 (.call 220 [(.t 57), (.c (.d (.str [41])))])])
 (.seq (.region [4] none none
 [om 59 11,
 om 4 59])
 (.ret))
def g_tree_parser_factor.c3F (R_c2 : ACode) : ACode :=
 .seq (.region [0, 1, 52] none none
 [om 52 10])
 (.cond (.t 52) (.seq (.region [0, 11] none none
 [om 53 0,
 om 54 1,
 oo 55 (.bin .add (.t 54) (.c (.d (.int .i64 1)))),
 oo 56 (.call 221 [(.t 53), (.t 55)]),
 om 11 56])
 (R_c2))
 (.skip))
def g_tree_parser_factor.c3 : ACode := g_tree_parser_factor.c3F g_tree_parser_factor.c2
def g_tree_parser_factor.c4 : ACode :=
 .seq (.region [4] none none
 [om 60 0,
 oo 61 (.call 227 [(.t 60)]),
 om 4 61])
 (.ret)
def g_tree_parser_factor.c5F (R_c3 : ACode) (R_c4 : ACode) : ACode :=
 .seq (.seq (.region [0, 1, 10] none none
 [om 47 0,
 oo 48 (.bsl none 1 [] 1 [(0, (.c (.d (.str [40]))))]),
 oo 49 (.call 219 [(.t 47), (.t 48)]),
 om 46 49,
 oo 50 (.ext (.t 46) 0),
 oo 51 (.ext (.t 46) 1),
 om 9 50,
 om 10 51])
 (R_c3))
 (R_c4)
def g_tree_parser_factor.c5 : ACode := g_tree_parser_factor.c5F g_tree_parser_factor.c3 g_tree_parser_factor.c4
def g_tree_parser_factor.c6F (R_c1 : ACode) (R_c5 : ACode) : ACode :=
 .seq (.seq (.region [0, 1, 7, 8] none none
 [om 36 0,
 oo 37 (.bsl none 1 [] 2 [(0, (.c (.d (.str [109, 105, 110])))), (1, (.c (.d (.str [109, 97, 120]))))]),
 oo 38 (.call 219 [(.t 36), (.t 37)]),
 om 35 38,
 oo 39 (.ext (.t 35) 0),
 oo 40 (.ext (.t 35) 1),
 om 7 39,
 om 8 40])
 (R_c1))
 (R_c5)
def g_tree_parser_factor.c6 : ACode := g_tree_parser_factor.c6F g_tree_parser_factor.c1 g_tree_parser_factor.c5
def g_tree_parser_factor.c7F (R_c0 : ACode) (R_c6 : ACode) : ACode :=
 .seq (.seq (.region [0, 1, 6] none none
 [om 22 0,
 oo 23 (.bsl none 1 [] 1 [(0, (.c (.d (.str [45]))))]),
 oo 24 (.call 219 [(.t 22), (.t 23)]),
 om 21 24,
 oo 25 (.ext (.t 21) 0),
 oo 26 (.ext (.t 21) 1),
 om 5 25,
 om 6 26])
 (R_c0))
 (R_c6)
def g_tree_parser_factor.c7 : ACode := g_tree_parser_factor.c7F g_tree_parser_factor.c0 g_tree_parser_factor.c6
def g_tree_parser_factor.c8F (R_c7 : ACode) : ACode :=
 .seq (.seq (.region [0, 1, 20] none none
 [om 16 0,
 oo 17 (.nilc (.t 16)),
 oo 18 (.faddr 5 (.t 17)),
 oo 19 (.load none (.t 18)),
 oo 20 (.bin .neq (.t 19) (.c (.d (.int .i64 0))))])
 (.cond (.t 20) (.seq (.region [4] none none
 [oo 4 (.mv (.c (.d (.int .i64 0))))])
 (.ret))
 (.skip)))
 (R_c7)
def g_tree_parser_factor.c8 : ACode := g_tree_parser_factor.c8F g_tree_parser_factor.c7
def g_tree_parser_factor.codeF (R_c8 : ACode) : ACode :=
 .seq (.region [0, 1] none none
 [oo 4 (.mv (.c (.d (.int .i64 0))))])
 (.seq (.seq (.region [0, 1, 13] none none
 [om 12 1,
 oo 13 (.bin .gtr (.t 12) (.c (.d (.int .i64 20))))])
 (.cond (.t 13) (.region [0, 1] none none
 [om 14 0,
 oo 15 (.call 218 [(.t 14), (.c (.d (.int .i64 9)))])])
 (.skip)))
 (R_c8))
def g_tree_parser_factor.code : ACode := g_tree_parser_factor.codeF g_tree_parser_factor.c8
def g_tree_parser_factor : AFn := { N := 62, res := [.slot 4], own := [], frz := [], code := g_tree_parser_factor.code }
def g_internal_stringslite_CutSuffix.c0 : ACode :=
 .seq (.region [4, 5] (some []) none
 [om 11 0,
 om 12 0,
 oo 13 (.lenS (.t 12)),
 om 14 1,
 oo 15 (.lenS (.t 14)),
 oo 16 (.bin .sub (.t 13) (.t 15)),
 oo 17 (.slcS (.t 11) none (some (.t 16))),
 om 4 17,
 oo 5 (.mv (.c (.d (.bool true))))])
 (.ret)
def g_internal_stringslite_CutSuffix.codeF (R_c0 : ACode) : ACode :=
 .seq (.region [0, 1] (some []) none
 [oo 4 (.mv (.c (.d (.str [])))),
 oo 5 (.mv (.c (.d (.bool false))))])
 (.seq (.seq (.region [0, 1, 9] (some []) none
 [om 6 0,
 om 7 1,
 oo 8 (.call 141 [(.t 6), (.t 7)]),
 oo 9 (.un .not (.t 8))])
 (.cond (.t 9) (.seq (.region [4, 5] (some []) none
 [om 10 0,
 om 4 10,
 oo 5 (.mv (.c (.d (.bool false))))])
 (.ret))
 (.skip)))
 (R_c0))
def g_internal_stringslite_CutSuffix.code : ACode := g_internal_stringslite_CutSuffix.codeF g_internal_stringslite_CutSuffix.c0
def g_internal_stringslite_CutSuffix : AFn := { N := 18, res := [.slot 4, .slot 5], own := [], frz := [], code := g_internal_stringslite_CutSuffix.code }
def g_tree_parser_pair.c0 : ACode :=
 .seq (.region [0, 1, 7, 8] none none
 [om 21 0,
 oo 22 (.call 220 [(.t 21), (.c (.d (.str [41])))])])
 (.seq (.region [6] none none
 [om 23 0,
 om 24 1,
 om 25 7,
 om 26 8,
 oo 27 (.build [.d (.str []), .d (.str []), .d (.int .i64 0), .d (.int .i64 0), .d (.int .i64 0), .d (.int .i64 0)] [(0, 1, (.t 24)), (3, 1, (.t 25)), (4, 1, (.t 26))]),
 oo 28 (.call 222 [(.t 23), (.t 27)]),
 om 6 28])
 (.ret))
def g_tree_parser_pair.c1F (R_c0 : ACode) : ACode :=
 .seq (.region [0, 1, 2, 7] none none
 [om 15 0,
 oo 16 (.call 220 [(.t 15), (.c (.d (.str [44])))])])
 (.seq (.region [0, 1, 7, 8] none none
 [om 17 0,
 om 18 2,
 oo 19 (.bin .add (.t 18) (.c (.d (.int .i64 1)))),
 oo 20 (.call 221 [(.t 17), (.t 19)]),
 om 8 20])
 (R_c0))
def g_tree_parser_pair.c1 : ACode := g_tree_parser_pair.c1F g_tree_parser_pair.c0
def g_tree_parser_pair.codeF (R_c1 : ACode) : ACode :=
 .seq (.region [0, 1, 2] none none
 [oo 6 (.mv (.c (.d (.int .i64 0))))])
 (.seq (.region [0, 1, 2] none none
 [om 9 0,
 oo 10 (.call 220 [(.t 9), (.c (.d (.str [40])))])])
 (.seq (.region [0, 1, 2, 7] none none
 [om 11 0,
 om 12 2,
 oo 13 (.bin .add (.t 12) (.c (.d (.int .i64 1)))),
 oo 14 (.call 221 [(.t 11), (.t 13)]),
 om 7 14])
 (R_c1)))
def g_tree_parser_pair.code : ACode := g_tree_parser_pair.codeF g_tree_parser_pair.c1
def g_tree_parser_pair : AFn := { N := 29, res := [.slot 6], own := [], frz := [], code := g_tree_parser_pair.code }
def g_tree_parser_leaf.c0 : ACode :=
 .region [0, 3, 4] none none
 [om 24 5,
 oo 25 (.build [.d (.str []), .d (.str []), .d (.int .i64 0), .d (.int .i64 0), .d (.int .i64 0), .d (.int .i64 0)] [(0, 1, (.c (.d (.str [119, 104, 111, 108, 101])))), (2, 1, (.t 24))]),
 ⟨none, .store 6 (.t 4) (.t 25), [], [], none, none⟩]
def g_tree_parser_leaf.c1 : ACode :=
 .region [0, 3, 4] none none
 [om 34 7,
 oo 35 (.build [.d (.str []), .d (.str []), .d (.int .i64 0), .d (.int .i64 0), .d (.int .i64 0), .d (.int .i64 0)] [(0, 1, (.c (.d (.str [97, 109, 111, 117, 110, 116])))), (2, 1, (.t 34))]),
 ⟨none, .store 6 (.t 4) (.t 35), [], [], none, none⟩]
def g_tree_parser_leaf.c2 : ACode :=
 .region [0, 3, 4] none none
 [om 44 9,
 oo 45 (.build [.d (.str []), .d (.str []), .d (.int .i64 0), .d (.int .i64 0), .d (.int .i64 0), .d (.int .i64 0)] [(0, 1, (.c (.d (.str [114, 97, 116, 101])))), (2, 1, (.t 44))]),
 ⟨none, .store 6 (.t 4) (.t 45), [], [], none, none⟩]
def g_tree_parser_leaf.o3 : List AOper :=
 [oo 64 (.pick (.t 54) (.c (.d (.bool true))) (.t 63))]
def g_tree_parser_leaf.o2F (R_o3 : List AOper) : List AOper :=
 (⟨some 63, .pick (.t 58) (.t 62) (.c (.d (.bool false))), [], [], (some (3, 54, false)), (some ([0, 4, 54, 63], none))⟩ ::
 R_o3)
def g_tree_parser_leaf.o2 : List AOper := g_tree_parser_leaf.o2F g_tree_parser_leaf.o3
def g_tree_parser_leaf.o1F (R_o2 : List AOper) : List AOper :=
 (og 59 (.faddr 1 (.t 3)) (7, 58, true) ::
 og 60 (.load none (.t 59)) (7, 58, true) ::
 og 61 (.call 158 [(.t 60)]) (7, 58, true) ::
 ⟨some 62, .un .not (.t 61), [], [], (some (7, 58, true)), (some ([0, 4, 54, 58, 62], none))⟩ ::
 R_o2)
def g_tree_parser_leaf.o1 : List AOper := g_tree_parser_leaf.o1F g_tree_parser_leaf.o2
def g_tree_parser_leaf.o0F (R_o1 : List AOper) : List AOper :=
 (og 55 (.faddr 0 (.t 4)) (3, 54, false) ::
 og 56 (.load none (.t 55)) (3, 54, false) ::
 og 57 (.bin .eql (.t 56) (.c (.d (.str [110, 97, 109, 101])))) (3, 54, false) ::
 ⟨some 58, .mv (.t 57), [], [], (some (3, 54, false)), (some ([0, 3, 4, 54, 58], none))⟩ ::
 R_o1)
def g_tree_parser_leaf.o0 : List AOper := g_tree_parser_leaf.o0F g_tree_parser_leaf.o1
def g_tree_parser_leaf.c3 : ACode :=
 .cond (.t 64) (.seq (.region [] none none
 [om 65 0,
 oo 66 (.call 218 [(.t 65), (.c (.d (.int .i64 2)))])])
 (.seq (.region [2] none none
 [oo 2 (.mv (.c (.d (.int .i64 0))))])
 (.ret)))
 (.skip)
def g_tree_parser_leaf.c4 : ACode :=
 .seq (.region [2] none none
 [om 74 0,
 oo 75 (.load (some 6) (.t 4)),
 oo 76 (.call 222 [(.t 74), (.t 75)]),
 om 2 76])
 (.ret)
def g_tree_parser_leaf.c5F (R_c4 : ACode) : ACode :=
 .seq (.region [0, 4] none none
 [om 67 0,
 oo 68 (.nilc (.t 67)),
 oo 69 (.faddr 2 (.t 68)),
 oo 70 (.load none (.t 69)),
 oo 71 (.bin .add (.t 70) (.c (.d (.int .i64 1)))),
 oo 72 (.nilc (.t 67)),
 oo 73 (.faddr 2 (.t 72)),
 ⟨none, .store 1 (.t 73) (.t 71), [], [], none, none⟩])
 (R_c4)
def g_tree_parser_leaf.c5 : ACode := g_tree_parser_leaf.c5F g_tree_parser_leaf.c4
def g_tree_parser_leaf.c6F (R_o0 : List AOper) (R_c3 : ACode) (R_c5 : ACode) : ACode :=
 .seq (.seq (.region [0, 4, 64] none none
 (oo 51 (.faddr 0 (.t 4)) ::
 oo 52 (.load none (.t 51)) ::
 oo 53 (.bin .eql (.t 52) (.c (.d (.str [])))) ::
 ⟨some 54, .mv (.t 53), [], [], none, (some ([0, 3, 4, 54], none))⟩ ::
 R_o0))
 (R_c3))
 (R_c5)
def g_tree_parser_leaf.c6 : ACode := g_tree_parser_leaf.c6F g_tree_parser_leaf.o0 g_tree_parser_leaf.c3 g_tree_parser_leaf.c5
def g_tree_parser_leaf.c7F (R_c0 : ACode) (R_c1 : ACode) (R_c2 : ACode) (R_c6 : ACode) : ACode :=
 .seq (.region [0, 3, 4] none none
 [oo 13 (.build [.d (.str []), .d (.str []), .d (.int .i64 0), .d (.int .i64 0), .d (.int .i64 0), .d (.int .i64 0)] []),
 oo 4 (.alloc 4 [.d (.str []), .d (.str []), .d (.int .i64 0), .d (.int .i64 0), .d (.int .i64 0), .d (.int .i64 0)]),
 ⟨none, .store 6 (.t 4) (.t 13), [], [], none, none⟩])
 (.seq (.seq (.region [0, 3, 4, 15] none none
 [oo 14 (.faddr 0 (.t 3)),
 oo 15 (.load none (.t 14))])
 (.block 0 [0, 3, 4] none (.seq (.region [0, 3, 4, 15, 16] none none
 [oo 17 (.bin .eql (.t 15) (.c (.d (.int .i64 2)))),
 om 16 17])
 (.cond (.t 16) (.seq (.region [0, 3, 4, 5] none none
 [oo 19 (.faddr 1 (.t 3)),
 oo 20 (.load none (.t 19)),
 oo 21 (.call 70 [(.t 20)]),
 om 18 21,
 oo 22 (.ext (.t 18) 0),
 oo 23 (.ext (.t 18) 1),
 om 5 22,
 om 6 23])
 (R_c0))
 (.seq (.region [0, 3, 4, 15, 26] none none
 [oo 27 (.bin .eql (.t 15) (.c (.d (.int .i64 3)))),
 om 26 27])
 (.cond (.t 26) (.seq (.region [0, 3, 4, 7] none none
 [oo 29 (.faddr 1 (.t 3)),
 oo 30 (.load none (.t 29)),
 oo 31 (.call 51 [(.t 30)]),
 om 28 31,
 oo 32 (.ext (.t 28) 0),
 oo 33 (.ext (.t 28) 1),
 om 7 32,
 om 8 33])
 (R_c1))
 (.seq (.region [0, 3, 4, 15, 36] none none
 [oo 37 (.bin .eql (.t 15) (.c (.d (.int .i64 4)))),
 om 36 37])
 (.cond (.t 36) (.seq (.region [0, 3, 4, 9] none none
 [oo 39 (.faddr 1 (.t 3)),
 oo 40 (.load none (.t 39)),
 oo 41 (.call 92 [(.t 40)]),
 om 38 41,
 oo 42 (.ext (.t 38) 0),
 oo 43 (.ext (.t 38) 1),
 om 9 42,
 om 10 43])
 (R_c2))
 (.seq (.region [0, 3, 4, 46] none none
 [oo 47 (.bin .eql (.t 15) (.c (.d (.int .i64 1)))),
 om 46 47])
 (.cond (.t 46) (.region [0, 3, 4] none none
 [oo 48 (.faddr 1 (.t 3)),
 oo 49 (.load none (.t 48)),
 oo 50 (.build [.d (.str []), .d (.str []), .d (.int .i64 0), .d (.int .i64 0), .d (.int .i64 0), .d (.int .i64 0)] [(0, 1, (.c (.d (.str [110, 97, 109, 101])))), (1, 1, (.t 49))]),
 ⟨none, .store 6 (.t 4) (.t 50), [], [], none, none⟩])
 (.skip)))))))))))
 (R_c6))
def g_tree_parser_leaf.c7 : ACode := g_tree_parser_leaf.c7F g_tree_parser_leaf.c0 g_tree_parser_leaf.c1 g_tree_parser_leaf.c2 g_tree_parser_leaf.c6
def g_tree_parser_leaf.codeF (R_c7 : ACode) : ACode :=
 .seq (.region [0] none none
 [oo 2 (.mv (.c (.d (.int .i64 0))))])
 (.seq (.region [0, 3] none none
 [om 11 0,
 oo 12 (.call 217 [(.t 11)]),
 oo 3 (.alloc 3 [.d (.int .i64 0), .d (.str []), .d (.int .i64 0)]),
 ⟨none, .store 3 (.t 3) (.t 12), [], [], none, none⟩])
 (R_c7))
def g_tree_parser_leaf.code : ACode := g_tree_parser_leaf.codeF g_tree_parser_leaf.c7
def g_tree_parser_leaf : AFn := { N := 77, res := [.slot 2], own := [], frz := [], code := g_tree_parser_leaf.code }
def g_internal_stringslite_HasSuffix.o1 : List AOper :=
 [oo 20 (.pick (.t 10) (.t 19) (.c (.d (.bool false)))),
 om 4 20]
def g_internal_stringslite_HasSuffix.o0F (R_o1 : List AOper) : List AOper :=
 (og 11 (.mv (.t 0)) (5, 10, true) ::
 og 12 (.mv (.t 0)) (5, 10, true) ::
 og 13 (.lenS (.t 12)) (5, 10, true) ::
 og 14 (.mv (.t 1)) (5, 10, true) ::
 og 15 (.lenS (.t 14)) (5, 10, true) ::
 og 16 (.bin .sub (.t 13) (.t 15)) (5, 10, true) ::
 og 17 (.slcS (.t 11) (some (.t 16)) none) (5, 10, true) ::
 og 18 (.mv (.t 1)) (5, 10, true) ::
 ow 19 (.bin .eql (.t 17) (.t 18)) (5, 10, true) [10, 19] [] ::
 R_o1)
def g_internal_stringslite_HasSuffix.o0 : List AOper := g_internal_stringslite_HasSuffix.o0F g_internal_stringslite_HasSuffix.o1
def g_internal_stringslite_HasSuffix.c0 : ACode :=
 .ret
def g_internal_stringslite_HasSuffix.codeF (R_o0 : List AOper) (R_c0 : ACode) : ACode :=
 .seq (.region [0, 1] (some []) none
 [oo 4 (.mv (.c (.d (.bool false))))])
 (.seq (.region [4] (some []) none
 (om 5 0 ::
 oo 6 (.lenS (.t 5)) ::
 om 7 1 ::
 oo 8 (.lenS (.t 7)) ::
 oo 9 (.bin .geq (.t 6) (.t 8)) ::
 oz 10 (.mv (.t 9)) [0, 1, 10] [] ::
 R_o0))
 (R_c0))
def g_internal_stringslite_HasSuffix.code : ACode := g_internal_stringslite_HasSuffix.codeF g_internal_stringslite_HasSuffix.o0 g_internal_stringslite_HasSuffix.c0
def g_internal_stringslite_HasSuffix : AFn := { N := 21, res := [.slot 4], own := [], frz := [], code := g_internal_stringslite_HasSuffix.code }
end Pay
