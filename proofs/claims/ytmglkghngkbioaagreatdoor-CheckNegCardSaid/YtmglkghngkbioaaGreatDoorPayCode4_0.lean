/- The program's functions as abstract code. -/
import Derived.Test.YtmglkghngkbioaaGreatDoorPayBa1
set_option maxRecDepth 20000
namespace Pay
def g_law10_CheckNeg.o7 : List AOper :=
  [oo 46 (.pick (.t 40) (.c (.d (.bool true))) (.t 45))]
def g_law10_CheckNeg.o6F (R_o7 : List AOper) : List AOper :=
  (og 41 (.mv (.t 1)) (19, 40, false) ::
    og 42 (.faddr 1 (.t 3)) (19, 40, false) ::
    og 43 (.load none (.t 42)) (19, 40, false) ::
    og 44 (.len (.t 43)) (19, 40, false) ::
    ow 45 (.bin .geq (.t 41) (.t 44)) (19, 40, false) [1, 2, 3, 40, 45] [3] ::
    R_o7)
def g_law10_CheckNeg.o6 : List AOper := g_law10_CheckNeg.o6F g_law10_CheckNeg.o7
def g_law10_CheckNeg.o5F (R_o6 : List AOper) : List AOper :=
  (oo 39 (.pick (.t 36) (.c (.d (.bool true))) (.t 38)) ::
    oz 40 (.mv (.t 39)) [1, 2, 3, 40] [3] ::
    R_o6)
def g_law10_CheckNeg.o5 : List AOper := g_law10_CheckNeg.o5F g_law10_CheckNeg.o6
def g_law10_CheckNeg.o4F (R_o5 : List AOper) : List AOper :=
  (og 37 (.mv (.t 1)) (15, 36, false) ::
    ow 38 (.bin .lss (.t 37) (.c (.d (.int .i64 0)))) (15, 36, false) [1, 2, 3, 36, 38] [3] ::
    R_o5)
def g_law10_CheckNeg.o4 : List AOper := g_law10_CheckNeg.o4F g_law10_CheckNeg.o5
def g_law10_CheckNeg.o3F (R_o4 : List AOper) : List AOper :=
  (oo 35 (.pick (.t 31) (.c (.d (.bool true))) (.t 34)) ::
    oz 36 (.mv (.t 35)) [1, 2, 3, 36] [3] ::
    R_o4)
def g_law10_CheckNeg.o3 : List AOper := g_law10_CheckNeg.o3F g_law10_CheckNeg.o4
def g_law10_CheckNeg.o2F (R_o3 : List AOper) : List AOper :=
  (og 32 (.mv (.t 2)) (10, 31, false) ::
    og 33 (.len (.t 32)) (10, 31, false) ::
    ow 34 (.bin .gtr (.t 33) (.c (.d (.int .i64 60)))) (10, 31, false) [1, 2, 3, 31, 34] [3] ::
    R_o3)
def g_law10_CheckNeg.o2 : List AOper := g_law10_CheckNeg.o2F g_law10_CheckNeg.o3
def g_law10_CheckNeg.o1F (R_o2 : List AOper) : List AOper :=
  (oo 30 (.pick (.t 25) (.c (.d (.bool true))) (.t 29)) ::
    oz 31 (.mv (.t 30)) [1, 2, 3, 31] [3] ::
    R_o2)
def g_law10_CheckNeg.o1 : List AOper := g_law10_CheckNeg.o1F g_law10_CheckNeg.o2
def g_law10_CheckNeg.o0F (R_o1 : List AOper) : List AOper :=
  (og 26 (.load (some 2) (.t 3)) (4, 25, false) ::
    og 27 (.call 160 [(.t 26)]) (4, 25, false) ::
    og 28 (.call 161 [(.t 27)]) (4, 25, false) ::
    ow 29 (.un .not (.t 28)) (4, 25, false) [1, 2, 3, 25, 29] [3] ::
    R_o1)
def g_law10_CheckNeg.o0 : List AOper := g_law10_CheckNeg.o0F g_law10_CheckNeg.o1
def g_law10_CheckNeg.c0 : ACode :=
  .cond (.t 46) (.seq (.region [6] (some []) none
     [oo 47 (.call 162 []),
      om 6 47])
  (.ret))
 (.skip)
def g_law10_CheckNeg.o9 : List AOper :=
  [oo 62 (.pick (.t 60) (.t 61) (.c (.d (.bool false)))),
    om 6 62]
def g_law10_CheckNeg.o8F (R_o9 : List AOper) : List AOper :=
  (ow 61 (.call 162 []) (2, 60, true) [60, 61] [] ::
    R_o9)
def g_law10_CheckNeg.o8 : List AOper := g_law10_CheckNeg.o8F g_law10_CheckNeg.o9
def g_law10_CheckNeg.c1 : ACode :=
  .ret
def g_law10_CheckNeg.o27 : List AOper :=
  [oo 151 (.pick (.t 149) (.t 150) (.c (.d (.bool false)))),
    om 6 151]
def g_law10_CheckNeg.o26F (R_o27 : List AOper) : List AOper :=
  (ow 150 (.call 162 []) (42, 149, true) [149, 150] [] ::
    R_o27)
def g_law10_CheckNeg.o26 : List AOper := g_law10_CheckNeg.o26F g_law10_CheckNeg.o27
def g_law10_CheckNeg.o25F (R_o26 : List AOper) : List AOper :=
  (oo 148 (.pick (.t 145) (.t 147) (.c (.d (.bool false)))) ::
    oz 149 (.mv (.t 148)) [149] [] ::
    R_o26)
def g_law10_CheckNeg.o25 : List AOper := g_law10_CheckNeg.o25F g_law10_CheckNeg.o26
def g_law10_CheckNeg.o24F (R_o25 : List AOper) : List AOper :=
  (og 146 (.mv (.t 20)) (38, 145, true) ::
    ow 147 (.bin .eql (.t 146) (.c (.d (.int .i64 0)))) (38, 145, true) [145, 147] [] ::
    R_o25)
def g_law10_CheckNeg.o24 : List AOper := g_law10_CheckNeg.o24F g_law10_CheckNeg.o25
def g_law10_CheckNeg.o23F (R_o24 : List AOper) : List AOper :=
  (oo 144 (.pick (.t 141) (.t 143) (.c (.d (.bool false)))) ::
    oz 145 (.mv (.t 144)) [20, 145] [] ::
    R_o24)
def g_law10_CheckNeg.o23 : List AOper := g_law10_CheckNeg.o23F g_law10_CheckNeg.o24
def g_law10_CheckNeg.o22F (R_o23 : List AOper) : List AOper :=
  (og 142 (.mv (.t 18)) (34, 141, true) ::
    ow 143 (.bin .eql (.t 142) (.c (.d (.int .i64 4)))) (34, 141, true) [20, 141, 143] [] ::
    R_o23)
def g_law10_CheckNeg.o22 : List AOper := g_law10_CheckNeg.o22F g_law10_CheckNeg.o23
def g_law10_CheckNeg.o21F (R_o22 : List AOper) : List AOper :=
  (oo 140 (.pick (.t 132) (.t 139) (.c (.d (.bool false)))) ::
    oz 141 (.mv (.t 140)) [18, 20, 141] [] ::
    R_o22)
def g_law10_CheckNeg.o21 : List AOper := g_law10_CheckNeg.o21F g_law10_CheckNeg.o22
def g_law10_CheckNeg.o20F (R_o21 : List AOper) : List AOper :=
  (ow 139 (.pick (.t 135) (.c (.d (.bool true))) (.t 138)) (25, 132, true) [18, 20, 132, 139] [] ::
    R_o21)
def g_law10_CheckNeg.o20 : List AOper := g_law10_CheckNeg.o20F g_law10_CheckNeg.o21
def g_law10_CheckNeg.o19F (R_o20 : List AOper) : List AOper :=
  (og 136 (.mv (.t 15)) (28, 135, false) ::
    og 137 (.mv (.t 7)) (28, 135, false) ::
    ow 138 (.bin .eql (.t 136) (.t 137)) (28, 135, false) [18, 20, 132, 135, 138] [] ::
    R_o20)
def g_law10_CheckNeg.o19 : List AOper := g_law10_CheckNeg.o19F g_law10_CheckNeg.o20
def g_law10_CheckNeg.o18F (R_o19 : List AOper) : List AOper :=
  (og 133 (.mv (.t 17)) (25, 132, true) ::
    og 134 (.bin .neq (.t 133) (.c (.d (.int .i64 0)))) (25, 132, true) ::
    ow 135 (.mv (.t 134)) (25, 132, true) [7, 15, 18, 20, 132, 135] [] ::
    R_o19)
def g_law10_CheckNeg.o18 : List AOper := g_law10_CheckNeg.o18F g_law10_CheckNeg.o19
def g_law10_CheckNeg.o17F (R_o18 : List AOper) : List AOper :=
  (oo 131 (.pick (.t 125) (.t 130) (.c (.d (.bool false)))) ::
    oz 132 (.mv (.t 131)) [7, 15, 17, 18, 20, 132] [] ::
    R_o18)
def g_law10_CheckNeg.o17 : List AOper := g_law10_CheckNeg.o17F g_law10_CheckNeg.o18
def g_law10_CheckNeg.o16F (R_o17 : List AOper) : List AOper :=
  (og 126 (.mv (.t 17)) (18, 125, true) ::
    og 127 (.bin .eql (.t 126) (.c (.d (.int .i64 0)))) (18, 125, true) ::
    og 128 (.mv (.t 7)) (18, 125, true) ::
    og 129 (.bin .neq (.t 128) (.c (.d (.int .i64 4)))) (18, 125, true) ::
    ow 130 (.beq false (.t 127) (.t 129)) (18, 125, true) [7, 15, 17, 18, 20, 125, 130] [] ::
    R_o17)
def g_law10_CheckNeg.o16 : List AOper := g_law10_CheckNeg.o16F g_law10_CheckNeg.o17
def g_law10_CheckNeg.o15F (R_o16 : List AOper) : List AOper :=
  (oo 124 (.pick (.t 116) (.t 123) (.c (.d (.bool false)))) ::
    oz 125 (.mv (.t 124)) [7, 15, 17, 18, 20, 125] [] ::
    R_o16)
def g_law10_CheckNeg.o15 : List AOper := g_law10_CheckNeg.o15F g_law10_CheckNeg.o16
def g_law10_CheckNeg.o14F (R_o15 : List AOper) : List AOper :=
  (ow 123 (.pick (.t 119) (.c (.d (.bool true))) (.t 122)) (9, 116, true) [7, 15, 17, 18, 20, 116, 123] [] ::
    R_o15)
def g_law10_CheckNeg.o14 : List AOper := g_law10_CheckNeg.o14F g_law10_CheckNeg.o15
def g_law10_CheckNeg.o13F (R_o14 : List AOper) : List AOper :=
  (og 120 (.mv (.t 12)) (12, 119, false) ::
    og 121 (.mv (.t 7)) (12, 119, false) ::
    ow 122 (.bin .eql (.t 120) (.t 121)) (12, 119, false) [7, 15, 17, 18, 20, 116, 119, 122] [] ::
    R_o14)
def g_law10_CheckNeg.o13 : List AOper := g_law10_CheckNeg.o13F g_law10_CheckNeg.o14
def g_law10_CheckNeg.o12F (R_o13 : List AOper) : List AOper :=
  (og 117 (.mv (.t 14)) (9, 116, true) ::
    og 118 (.bin .neq (.t 117) (.c (.d (.int .i64 0)))) (9, 116, true) ::
    ow 119 (.mv (.t 118)) (9, 116, true) [7, 12, 15, 17, 18, 20, 116, 119] [] ::
    R_o13)
def g_law10_CheckNeg.o12 : List AOper := g_law10_CheckNeg.o12F g_law10_CheckNeg.o13
def g_law10_CheckNeg.o11F (R_o12 : List AOper) : List AOper :=
  (oo 114 (.pick (.t 111) (.c (.d (.bool true))) (.t 113)) ::
    oo 115 (.beq false (.t 108) (.t 114)) ::
    oz 116 (.mv (.t 115)) [7, 12, 14, 15, 17, 18, 20, 116] [] ::
    R_o12)
def g_law10_CheckNeg.o11 : List AOper := g_law10_CheckNeg.o11F g_law10_CheckNeg.o12
def g_law10_CheckNeg.o10F (R_o11 : List AOper) : List AOper :=
  (og 112 (.mv (.t 7)) (4, 111, false) ::
    ow 113 (.bin .eql (.t 112) (.c (.d (.int .i64 3)))) (4, 111, false) [7, 12, 14, 15, 17, 18, 20, 108, 111, 113] [] ::
    R_o11)
def g_law10_CheckNeg.o10 : List AOper := g_law10_CheckNeg.o10F g_law10_CheckNeg.o11
def g_law10_CheckNeg.c2 : ACode :=
  .ret
def g_law10_CheckNeg.c3F (R_o10 : List AOper) (R_c2 : ACode) : ACode :=
  .seq (.region [6] (some []) none
    (om 107 14 ::
     oo 108 (.bin .eql (.t 107) (.c (.d (.int .i64 0)))) ::
     om 109 7 ::
     oo 110 (.bin .eql (.t 109) (.c (.d (.int .i64 1)))) ::
     oz 111 (.mv (.t 110)) [7, 12, 14, 15, 17, 18, 20, 108, 111] [] ::
     R_o10))
 (R_c2)
def g_law10_CheckNeg.c3 : ACode := g_law10_CheckNeg.c3F g_law10_CheckNeg.o10 g_law10_CheckNeg.c2
def g_law10_CheckNeg.c4F (R_c3 : ACode) : ACode :=
  .seq (.region [7, 12, 14, 15, 17, 18, 20] (some []) none
    [oo 99 (.load (some 2) (.t 11)),
     om 100 10,
     oo 101 (.bin .add (.t 100) (.c (.d (.int .i64 2)))),
     om 102 2,
     oo 103 (.call 163 [(.t 99), (.t 101), (.t 102)]),
     om 98 103,
     oo 104 (.ext (.t 98) 0),
     oo 105 (.ext (.t 98) 1),
     oo 106 (.ext (.t 98) 2),
     om 18 104,
     om 19 105,
     om 20 106])
 (R_c3)
def g_law10_CheckNeg.c4 : ACode := g_law10_CheckNeg.c4F g_law10_CheckNeg.c3
def g_law10_CheckNeg.c5F (R_c4 : ACode) : ACode :=
  .seq (.region [2, 7, 10, 11, 12, 14, 15, 17] (some [11]) none
    [oo 90 (.load (some 2) (.t 11)),
     om 91 10,
     oo 92 (.bin .add (.t 91) (.c (.d (.int .i64 1)))),
     om 93 2,
     oo 94 (.call 163 [(.t 90), (.t 92), (.t 93)]),
     om 89 94,
     oo 95 (.ext (.t 89) 0),
     oo 96 (.ext (.t 89) 1),
     oo 97 (.ext (.t 89) 2),
     om 15 95,
     om 16 96,
     om 17 97])
 (R_c4)
def g_law10_CheckNeg.c5 : ACode := g_law10_CheckNeg.c5F g_law10_CheckNeg.c4
def g_law10_CheckNeg.c6F (R_c5 : ACode) : ACode :=
  .seq (.region [2, 7, 10, 11, 12, 14] (some [11]) none
    [oo 82 (.load (some 2) (.t 11)),
     om 83 10,
     om 84 2,
     oo 85 (.call 163 [(.t 82), (.t 83), (.t 84)]),
     om 81 85,
     oo 86 (.ext (.t 81) 0),
     oo 87 (.ext (.t 81) 1),
     oo 88 (.ext (.t 81) 2),
     om 12 86,
     om 13 87,
     om 14 88])
 (R_c5)
def g_law10_CheckNeg.c6 : ACode := g_law10_CheckNeg.c6F g_law10_CheckNeg.c5
def g_law10_CheckNeg.c7F (R_c6 : ACode) : ACode :=
  .seq (.region [2, 7, 10, 11] (some [11]) none
    [oo 66 (.bsl (some 66) 6 [] 0 []),
     oo 67 (.faddr 1 (.t 3)),
     oo 68 (.load none (.t 67)),
     oo 69 (.app (some 69) 6 64 (.t 66) (.t 68)),
     om 70 1,
     oo 71 (.build [.d (.str []), .d (.str []), .d (.int .i64 0), .d (.int .i64 0), .d (.int .i64 0), .d (.int .i64 0)] [(0, 1, (.c (.d (.str [110, 101, 103])))), (3, 1, (.t 70))]),
     om 72 1,
     om 73 1,
     oo 74 (.build [.d (.str []), .d (.str []), .d (.int .i64 0), .d (.int .i64 0), .d (.int .i64 0), .d (.int .i64 0)] [(0, 1, (.c (.d (.str [109, 105, 110])))), (3, 1, (.t 72)), (4, 1, (.t 73))]),
     om 75 1,
     om 76 1,
     oo 77 (.build [.d (.str []), .d (.str []), .d (.int .i64 0), .d (.int .i64 0), .d (.int .i64 0), .d (.int .i64 0)] [(0, 1, (.c (.d (.str [61])))), (3, 1, (.t 75)), (4, 1, (.t 76))]),
     oo 78 (.bsl none 6 [] 3 [(0, (.t 71)), (1, (.t 74)), (2, (.t 77))]),
     oo 79 (.app none 6 64 (.t 69) (.t 78)),
     oo 80 (.build [.cap0, .cap0] [(1, 1, (.t 79))]),
     oo 11 (.alloc 11 [.cap0, .cap0]),
     ⟨none, .store 2 (.t 11) (.t 80), [], [], none, none⟩])
 (R_c6)
def g_law10_CheckNeg.c7 : ACode := g_law10_CheckNeg.c7F g_law10_CheckNeg.c6
def g_law10_CheckNeg.c8F (R_c7 : ACode) : ACode :=
  .seq (.region [1, 2, 3, 7, 10] (some [3]) none
    [oo 63 (.faddr 1 (.t 3)),
     oo 64 (.load none (.t 63)),
     oo 65 (.len (.t 64)),
     om 10 65])
 (R_c7)
def g_law10_CheckNeg.c8 : ACode := g_law10_CheckNeg.c8F g_law10_CheckNeg.c7
def g_law10_CheckNeg.c9F (R_o8 : List AOper) (R_c1 : ACode) (R_c8 : ACode) : ACode :=
  .seq (.seq (.region [1, 2, 3, 7, 57] (some [3]) none
     [om 56 9,
      oo 57 (.bin .neq (.t 56) (.c (.d (.int .i64 0))))])
  (.cond (.t 57) (.seq (.region [6] (some []) none
       (om 58 7 ::
        oo 59 (.bin .eql (.t 58) (.c (.d (.int .i64 0)))) ::
        oz 60 (.mv (.t 59)) [60] [] ::
        R_o8))
    (R_c1))
   (.skip)))
 (R_c8)
def g_law10_CheckNeg.c9 : ACode := g_law10_CheckNeg.c9F g_law10_CheckNeg.o8 g_law10_CheckNeg.c1 g_law10_CheckNeg.c8
def g_law10_CheckNeg.c10F (R_c9 : ACode) : ACode :=
  .seq (.region [1, 2, 3, 7, 9] (some [3]) none
    [oo 49 (.load (some 2) (.t 3)),
     om 50 1,
     om 51 2,
     oo 52 (.call 163 [(.t 49), (.t 50), (.t 51)]),
     om 48 52,
     oo 53 (.ext (.t 48) 0),
     oo 54 (.ext (.t 48) 1),
     oo 55 (.ext (.t 48) 2),
     om 7 53,
     om 8 54,
     om 9 55])
 (R_c9)
def g_law10_CheckNeg.c10 : ACode := g_law10_CheckNeg.c10F g_law10_CheckNeg.c9
def g_law10_CheckNeg.codeF (R_o0 : List AOper) (R_c0 : ACode) (R_c10 : ACode) : ACode :=
  .seq (.region [1, 2, 3] (some [3]) none
    [oo 3 (.box 3 2 (.t 0)),
     oo 6 (.mv (.c (.d (.bool false))))])
 (.seq (.seq (.region [1, 2, 3, 46] (some [3]) none
      (oo 21 (.faddr 1 (.t 3)) ::
       oo 22 (.load none (.t 21)) ::
       oo 23 (.len (.t 22)) ::
       oo 24 (.bin .gtr (.t 23) (.c (.d (.int .i64 200)))) ::
       oz 25 (.mv (.t 24)) [1, 2, 3, 25] [3] ::
       R_o0))
   (R_c0))
  (R_c10))
def g_law10_CheckNeg.code : ACode := g_law10_CheckNeg.codeF g_law10_CheckNeg.o0 g_law10_CheckNeg.c0 g_law10_CheckNeg.c10
def g_law10_CheckNeg : AFn := { N := 152, res := [.slot 6], own := [], frz := [], code := g_law10_CheckNeg.code }

end Pay
