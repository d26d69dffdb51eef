/- The program's functions as abstract code. -/
import Derived.Test.YtmglkghngkbioaaGreatDoorPayBa1
set_option maxRecDepth 20000
namespace Pay
def g_law10_CheckIf.o3 : List AOper :=
  [oo 40 (.pick (.t 36) (.c (.d (.bool true))) (.t 39))]
def g_law10_CheckIf.o2F (R_o3 : List AOper) : List AOper :=
  (og 37 (.mv (.t 4)) (10, 36, false) ::
    og 38 (.len (.t 37)) (10, 36, false) ::
    ow 39 (.bin .gtr (.t 38) (.c (.d (.int .i64 60)))) (10, 36, false) [1, 2, 3, 4, 5, 36, 39] [5] ::
    R_o3)
def g_law10_CheckIf.o2 : List AOper := g_law10_CheckIf.o2F g_law10_CheckIf.o3
def g_law10_CheckIf.o1F (R_o2 : List AOper) : List AOper :=
  (oo 35 (.pick (.t 30) (.c (.d (.bool true))) (.t 34)) ::
    oz 36 (.mv (.t 35)) [1, 2, 3, 4, 5, 36] [5] ::
    R_o2)
def g_law10_CheckIf.o1 : List AOper := g_law10_CheckIf.o1F g_law10_CheckIf.o2
def g_law10_CheckIf.o0F (R_o1 : List AOper) : List AOper :=
  (og 31 (.load (some 2) (.t 5)) (4, 30, false) ::
    og 32 (.call 160 [(.t 31)]) (4, 30, false) ::
    og 33 (.call 161 [(.t 32)]) (4, 30, false) ::
    ow 34 (.un .not (.t 33)) (4, 30, false) [1, 2, 3, 4, 5, 30, 34] [5] ::
    R_o1)
def g_law10_CheckIf.o0 : List AOper := g_law10_CheckIf.o0F g_law10_CheckIf.o1
def g_law10_CheckIf.c0 : ACode :=
  .cond (.t 40) (.seq (.region [10] (some []) none
     [oo 41 (.call 162 []),
      om 10 41])
  (.ret))
 (.skip)
def g_law10_CheckIf.o5 : List AOper :=
  [oo 59 (.pick (.t 53) (.c (.d (.bool true))) (.t 58))]
def g_law10_CheckIf.o4F (R_o5 : List AOper) : List AOper :=
  (og 54 (.mv (.t 12)) (2, 53, false) ::
    og 55 (.faddr 1 (.t 5)) (2, 53, false) ::
    og 56 (.load none (.t 55)) (2, 53, false) ::
    og 57 (.len (.t 56)) (2, 53, false) ::
    ow 58 (.bin .geq (.t 54) (.t 57)) (2, 53, false) [1, 2, 3, 4, 5, 45, 46, 47, 53, 58] [5] ::
    R_o5)
def g_law10_CheckIf.o4 : List AOper := g_law10_CheckIf.o4F g_law10_CheckIf.o5
def g_law10_CheckIf.c1 : ACode :=
  .cond (.t 59) (.seq (.region [10] (some []) none
     [oo 60 (.call 162 []),
      om 10 60])
  (.ret))
 (.skip)
def g_law10_CheckIf.c2 : ACode :=
  .region [1, 2, 3, 4, 5, 45, 46, 47] (some [5]) none
   [oo 61 (.bin .add (.t 47) (.c (.d (.int .i64 1)))),
    om 47 61]
def g_law10_CheckIf.l0F (R_o4 : List AOper) (R_c1 : ACode) (R_c2 : ACode) : ACode :=
  .loop [1, 2, 3, 4, 5, 45, 46, 47] (some [5]) (.seq (.region [1, 2, 3, 4, 5, 45, 46, 47, 48] (some [5]) none
    [oo 48 (.bin .lss (.t 47) (.t 46))])
 (.seq (.cond (.t 48) (.skip)
   (.exit 0))
  (.seq (.block 1 [1, 2, 3, 4, 5, 45, 46, 47] (some [5]) (.seq (.region [1, 2, 3, 4, 5, 12, 45, 46, 47] (some [5]) none
        [oo 49 (.iaddr 1 (.t 45) (.t 47)),
         oo 50 (.load none (.t 49)),
         om 12 50])
     (.seq (.region [1, 2, 3, 4, 5, 45, 46, 47, 59] (some [5]) none
         (om 51 12 ::
          oo 52 (.bin .lss (.t 51) (.c (.d (.int .i64 0)))) ::
          oz 53 (.mv (.t 52)) [1, 2, 3, 4, 5, 12, 45, 46, 47, 53] [5] ::
          R_o4))
      (R_c1))))
   (R_c2))))
def g_law10_CheckIf.l0 : ACode := g_law10_CheckIf.l0F g_law10_CheckIf.o4 g_law10_CheckIf.c1 g_law10_CheckIf.c2
def g_law10_CheckIf.c3F (R_l0 : ACode) : ACode :=
  .block 0 [1, 2, 3, 4, 5] (some [5]) (R_l0)
def g_law10_CheckIf.c3 : ACode := g_law10_CheckIf.c3F g_law10_CheckIf.l0
def g_law10_CheckIf.o9 : List AOper :=
  [oo 116 (.pick (.t 113) (.c (.d (.bool true))) (.t 115))]
def g_law10_CheckIf.o8F (R_o9 : List AOper) : List AOper :=
  (og 114 (.mv (.t 21)) (6, 113, false) ::
    ow 115 (.bin .neq (.t 114) (.c (.d (.int .i64 0)))) (6, 113, false) [5, 13, 16, 19, 23, 24, 25, 113, 115] [5] ::
    R_o9)
def g_law10_CheckIf.o8 : List AOper := g_law10_CheckIf.o8F g_law10_CheckIf.o9
def g_law10_CheckIf.o7F (R_o8 : List AOper) : List AOper :=
  (oo 112 (.pick (.t 109) (.c (.d (.bool true))) (.t 111)) ::
    oz 113 (.mv (.t 112)) [5, 13, 16, 19, 21, 23, 24, 25, 113] [5] ::
    R_o8)
def g_law10_CheckIf.o7 : List AOper := g_law10_CheckIf.o7F g_law10_CheckIf.o8
def g_law10_CheckIf.o6F (R_o7 : List AOper) : List AOper :=
  (og 110 (.mv (.t 18)) (2, 109, false) ::
    ow 111 (.bin .neq (.t 110) (.c (.d (.int .i64 0)))) (2, 109, false) [5, 13, 16, 19, 21, 23, 24, 25, 109, 111] [5] ::
    R_o7)
def g_law10_CheckIf.o6 : List AOper := g_law10_CheckIf.o6F g_law10_CheckIf.o7
def g_law10_CheckIf.o13 : List AOper :=
  [oo 125 (.pick (.t 123) (.t 124) (.c (.d (.bool false)))),
    om 10 125]
def g_law10_CheckIf.o12F (R_o13 : List AOper) : List AOper :=
  (ow 124 (.call 162 []) (6, 123, true) [123, 124] [] ::
    R_o13)
def g_law10_CheckIf.o12 : List AOper := g_law10_CheckIf.o12F g_law10_CheckIf.o13
def g_law10_CheckIf.o11F (R_o12 : List AOper) : List AOper :=
  (oo 122 (.pick (.t 119) (.t 121) (.c (.d (.bool false)))) ::
    oz 123 (.mv (.t 122)) [123] [] ::
    R_o12)
def g_law10_CheckIf.o11 : List AOper := g_law10_CheckIf.o11F g_law10_CheckIf.o12
def g_law10_CheckIf.o10F (R_o11 : List AOper) : List AOper :=
  (og 120 (.mv (.t 25)) (2, 119, true) ::
    ow 121 (.bin .neq (.t 120) (.c (.d (.int .i64 0)))) (2, 119, true) [119, 121] [] ::
    R_o11)
def g_law10_CheckIf.o10 : List AOper := g_law10_CheckIf.o10F g_law10_CheckIf.o11
def g_law10_CheckIf.c4 : ACode :=
  .ret
def g_law10_CheckIf.c5F (R_o10 : List AOper) (R_c4 : ACode) : ACode :=
  .cond (.t 116) (.seq (.region [10] (some []) none
     (om 117 23 ::
      oo 118 (.bin .eql (.t 117) (.c (.d (.int .i64 0)))) ::
      oz 119 (.mv (.t 118)) [25, 119] [] ::
      R_o10))
  (R_c4))
 (.skip)
def g_law10_CheckIf.c5 : ACode := g_law10_CheckIf.c5F g_law10_CheckIf.o10 g_law10_CheckIf.c4
def g_law10_CheckIf.o15 : List AOper :=
  [oo 132 (.pick (.t 128) (.t 131) (.c (.d (.bool false))))]
def g_law10_CheckIf.o14F (R_o15 : List AOper) : List AOper :=
  (og 129 (.mv (.t 16)) (2, 128, true) ::
    og 130 (.mv (.t 19)) (2, 128, true) ::
    ow 131 (.bin .eql (.t 129) (.t 130)) (2, 128, true) [5, 16, 23, 24, 25, 128, 131] [5] ::
    R_o15)
def g_law10_CheckIf.o14 : List AOper := g_law10_CheckIf.o14F g_law10_CheckIf.o15
def g_law10_CheckIf.o19 : List AOper :=
  [oo 142 (.pick (.t 140) (.t 141) (.c (.d (.bool false)))),
    om 10 142]
def g_law10_CheckIf.o18F (R_o19 : List AOper) : List AOper :=
  (ow 141 (.call 162 []) (7, 140, true) [140, 141] [] ::
    R_o19)
def g_law10_CheckIf.o18 : List AOper := g_law10_CheckIf.o18F g_law10_CheckIf.o19
def g_law10_CheckIf.o17F (R_o18 : List AOper) : List AOper :=
  (oo 139 (.pick (.t 136) (.t 138) (.c (.d (.bool false)))) ::
    oz 140 (.mv (.t 139)) [140] [] ::
    R_o18)
def g_law10_CheckIf.o17 : List AOper := g_law10_CheckIf.o17F g_law10_CheckIf.o18
def g_law10_CheckIf.o16F (R_o17 : List AOper) : List AOper :=
  (og 137 (.mv (.t 25)) (3, 136, true) ::
    ow 138 (.bin .eql (.t 137) (.c (.d (.int .i64 0)))) (3, 136, true) [136, 138] [] ::
    R_o17)
def g_law10_CheckIf.o16 : List AOper := g_law10_CheckIf.o16F g_law10_CheckIf.o17
def g_law10_CheckIf.c6 : ACode :=
  .ret
def g_law10_CheckIf.c7F (R_o16 : List AOper) (R_c6 : ACode) : ACode :=
  .cond (.t 132) (.seq (.region [10] (some []) none
     (om 133 23 ::
      om 134 16 ::
      oo 135 (.bin .eql (.t 133) (.t 134)) ::
      oz 136 (.mv (.t 135)) [25, 136] [] ::
      R_o16))
  (R_c6))
 (.skip)
def g_law10_CheckIf.c7 : ACode := g_law10_CheckIf.c7F g_law10_CheckIf.o16 g_law10_CheckIf.c6
def g_law10_CheckIf.o25 : List AOper :=
  [oo 158 (.pick (.t 156) (.t 157) (.c (.d (.bool false)))),
    om 10 158]
def g_law10_CheckIf.o24F (R_o25 : List AOper) : List AOper :=
  (ow 157 (.call 162 []) (13, 156, true) [156, 157] [] ::
    R_o25)
def g_law10_CheckIf.o24 : List AOper := g_law10_CheckIf.o24F g_law10_CheckIf.o25
def g_law10_CheckIf.o23F (R_o24 : List AOper) : List AOper :=
  (oo 155 (.pick (.t 152) (.t 154) (.c (.d (.bool false)))) ::
    oz 156 (.mv (.t 155)) [156] [] ::
    R_o24)
def g_law10_CheckIf.o23 : List AOper := g_law10_CheckIf.o23F g_law10_CheckIf.o24
def g_law10_CheckIf.o22F (R_o23 : List AOper) : List AOper :=
  (og 153 (.mv (.t 25)) (9, 152, true) ::
    ow 154 (.bin .eql (.t 153) (.c (.d (.int .i64 7)))) (9, 152, true) [152, 154] [] ::
    R_o23)
def g_law10_CheckIf.o22 : List AOper := g_law10_CheckIf.o22F g_law10_CheckIf.o23
def g_law10_CheckIf.o21F (R_o22 : List AOper) : List AOper :=
  (oo 151 (.pick (.t 145) (.t 150) (.c (.d (.bool false)))) ::
    oz 152 (.mv (.t 151)) [25, 152] [] ::
    R_o22)
def g_law10_CheckIf.o21 : List AOper := g_law10_CheckIf.o21F g_law10_CheckIf.o22
def g_law10_CheckIf.o20F (R_o21 : List AOper) : List AOper :=
  (og 146 (.mv (.t 24)) (2, 145, true) ::
    og 147 (.faddr 1 (.t 5)) (2, 145, true) ::
    og 148 (.load none (.t 147)) (2, 145, true) ::
    og 149 (.len (.t 148)) (2, 145, true) ::
    ow 150 (.bin .eql (.t 146) (.t 149)) (2, 145, true) [25, 145, 150] [] ::
    R_o21)
def g_law10_CheckIf.o20 : List AOper := g_law10_CheckIf.o20F g_law10_CheckIf.o21
def g_law10_CheckIf.c8 : ACode :=
  .ret
def g_law10_CheckIf.c9F (R_o20 : List AOper) (R_c8 : ACode) : ACode :=
  .seq (.region [10] (some []) none
    (om 143 23 ::
     oo 144 (.bin .eql (.t 143) (.c (.d (.int .i64 0)))) ::
     oz 145 (.mv (.t 144)) [5, 24, 25, 145] [5] ::
     R_o20))
 (R_c8)
def g_law10_CheckIf.c9 : ACode := g_law10_CheckIf.c9F g_law10_CheckIf.o20 g_law10_CheckIf.c8
def g_law10_CheckIf.c10F (R_o14 : List AOper) (R_c7 : ACode) (R_c9 : ACode) : ACode :=
  .seq (.seq (.region [5, 16, 23, 24, 25, 132] (some [5]) none
     (om 126 13 ::
      oo 127 (.bin .eql (.t 126) (.c (.d (.int .i64 4)))) ::
      oz 128 (.mv (.t 127)) [5, 16, 19, 23, 24, 25, 128] [5] ::
      R_o14))
  (R_c7))
 (R_c9)
def g_law10_CheckIf.c10 : ACode := g_law10_CheckIf.c10F g_law10_CheckIf.o14 g_law10_CheckIf.c7 g_law10_CheckIf.c9
def g_law10_CheckIf.c11F (R_o6 : List AOper) (R_c5 : ACode) (R_c10 : ACode) : ACode :=
  .seq (.seq (.region [5, 13, 16, 19, 23, 24, 25, 116] (some [5]) none
     (om 107 15 ::
      oo 108 (.bin .neq (.t 107) (.c (.d (.int .i64 0)))) ::
      oz 109 (.mv (.t 108)) [5, 13, 16, 18, 19, 21, 23, 24, 25, 109] [5] ::
      R_o6))
  (R_c5))
 (R_c10)
def g_law10_CheckIf.c11 : ACode := g_law10_CheckIf.c11F g_law10_CheckIf.o6 g_law10_CheckIf.c5 g_law10_CheckIf.c10
def g_law10_CheckIf.c12F (R_c11 : ACode) : ACode :=
  .seq (.region [5, 13, 15, 16, 18, 19, 21, 23, 24, 25] (some [5]) none
    [oo 98 (.load (some 2) (.t 22)),
     oo 99 (.faddr 1 (.t 5)),
     oo 100 (.load none (.t 99)),
     oo 101 (.len (.t 100)),
     om 102 4,
     oo 103 (.call 163 [(.t 98), (.t 101), (.t 102)]),
     om 97 103,
     oo 104 (.ext (.t 97) 0),
     oo 105 (.ext (.t 97) 1),
     oo 106 (.ext (.t 97) 2),
     om 23 104,
     om 24 105,
     om 25 106])
 (R_c11)
def g_law10_CheckIf.c12 : ACode := g_law10_CheckIf.c12F g_law10_CheckIf.c11
def g_law10_CheckIf.c13F (R_c12 : ACode) : ACode :=
  .seq (.region [4, 5, 13, 15, 16, 18, 19, 21, 22] (some [5, 22]) none
    [oo 86 (.bsl (some 86) 6 [] 0 []),
     oo 87 (.faddr 1 (.t 5)),
     oo 88 (.load none (.t 87)),
     oo 89 (.app (some 89) 6 64 (.t 86) (.t 88)),
     om 90 1,
     om 91 2,
     om 92 3,
     oo 93 (.build [.d (.str []), .d (.str []), .d (.int .i64 0), .d (.int .i64 0), .d (.int .i64 0), .d (.int .i64 0)] [(0, 1, (.c (.d (.str [105, 102])))), (3, 1, (.t 90)), (4, 1, (.t 91)), (5, 1, (.t 92))]),
     oo 94 (.bsl none 6 [] 1 [(0, (.t 93))]),
     oo 95 (.app none 6 64 (.t 89) (.t 94)),
     oo 96 (.build [.cap0, .cap0] [(1, 1, (.t 95))]),
     oo 22 (.alloc 22 [.cap0, .cap0]),
     ⟨none, .store 2 (.t 22) (.t 96), [], [], none, none⟩])
 (R_c12)
def g_law10_CheckIf.c13 : ACode := g_law10_CheckIf.c13F g_law10_CheckIf.c12
def g_law10_CheckIf.c14F (R_c13 : ACode) : ACode :=
  .seq (.region [1, 2, 3, 4, 5, 13, 15, 16, 18, 19, 21] (some [5]) none
    [oo 79 (.load (some 2) (.t 5)),
     om 80 3,
     om 81 4,
     oo 82 (.call 163 [(.t 79), (.t 80), (.t 81)]),
     om 78 82,
     oo 83 (.ext (.t 78) 0),
     oo 84 (.ext (.t 78) 1),
     oo 85 (.ext (.t 78) 2),
     om 19 83,
     om 20 84,
     om 21 85])
 (R_c13)
def g_law10_CheckIf.c14 : ACode := g_law10_CheckIf.c14F g_law10_CheckIf.c13
def g_law10_CheckIf.c15F (R_c14 : ACode) : ACode :=
  .seq (.region [1, 2, 3, 4, 5, 13, 15, 16, 18] (some [5]) none
    [oo 71 (.load (some 2) (.t 5)),
     om 72 2,
     om 73 4,
     oo 74 (.call 163 [(.t 71), (.t 72), (.t 73)]),
     om 70 74,
     oo 75 (.ext (.t 70) 0),
     oo 76 (.ext (.t 70) 1),
     oo 77 (.ext (.t 70) 2),
     om 16 75,
     om 17 76,
     om 18 77])
 (R_c14)
def g_law10_CheckIf.c15 : ACode := g_law10_CheckIf.c15F g_law10_CheckIf.c14
def g_law10_CheckIf.c16F (R_c15 : ACode) : ACode :=
  .seq (.region [1, 2, 3, 4, 5, 13, 15] (some [5]) none
    [oo 63 (.load (some 2) (.t 5)),
     om 64 1,
     om 65 4,
     oo 66 (.call 163 [(.t 63), (.t 64), (.t 65)]),
     om 62 66,
     oo 67 (.ext (.t 62) 0),
     oo 68 (.ext (.t 62) 1),
     oo 69 (.ext (.t 62) 2),
     om 13 67,
     om 14 68,
     om 15 69])
 (R_c15)
def g_law10_CheckIf.c16 : ACode := g_law10_CheckIf.c16F g_law10_CheckIf.c15
def g_law10_CheckIf.c17F (R_c3 : ACode) (R_c16 : ACode) : ACode :=
  .seq (.seq (.region [1, 2, 3, 4, 5, 45, 46, 47] (some [5]) none
     [om 42 1,
      om 43 2,
      om 44 3,
      oo 45 (.bsl none 1 [] 3 [(0, (.t 42)), (1, (.t 43)), (2, (.t 44))]),
      oo 46 (.len (.t 45)),
      oo 47 (.mv (.c (.d (.int .i64 0))))])
  (R_c3))
 (R_c16)
def g_law10_CheckIf.c17 : ACode := g_law10_CheckIf.c17F g_law10_CheckIf.c3 g_law10_CheckIf.c16
def g_law10_CheckIf.codeF (R_o0 : List AOper) (R_c0 : ACode) (R_c17 : ACode) : ACode :=
  .seq (.region [1, 2, 3, 4, 5] (some [5]) none
    [oo 5 (.box 5 2 (.t 0)),
     oo 10 (.mv (.c (.d (.bool false))))])
 (.seq (.seq (.region [1, 2, 3, 4, 5, 40] (some [5]) none
      (oo 26 (.faddr 1 (.t 5)) ::
       oo 27 (.load none (.t 26)) ::
       oo 28 (.len (.t 27)) ::
       oo 29 (.bin .gtr (.t 28) (.c (.d (.int .i64 200)))) ::
       oz 30 (.mv (.t 29)) [1, 2, 3, 4, 5, 30] [5] ::
       R_o0))
   (R_c0))
  (R_c17))
def g_law10_CheckIf.code : ACode := g_law10_CheckIf.codeF g_law10_CheckIf.o0 g_law10_CheckIf.c0 g_law10_CheckIf.c17
def g_law10_CheckIf : AFn := { N := 159, res := [.slot 10], own := [], frz := [], code := g_law10_CheckIf.code }

end Pay
