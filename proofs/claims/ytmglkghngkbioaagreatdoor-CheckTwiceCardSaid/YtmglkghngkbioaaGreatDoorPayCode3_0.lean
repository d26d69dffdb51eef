/- The program's functions as abstract code. -/
import Derived.Test.YtmglkghngkbioaaGreatDoorPayBa1
set_option maxRecDepth 20000
namespace Pay
def g_law10_CheckTwice.o3 : List AOper :=
  [oo 42 (.pick (.t 38) (.c (.d (.bool true))) (.t 41))]
def g_law10_CheckTwice.o2F (R_o3 : List AOper) : List AOper :=
  (og 39 (.mv (.t 3)) (10, 38, false) ::
    og 40 (.len (.t 39)) (10, 38, false) ::
    ow 41 (.bin .gtr (.t 40) (.c (.d (.int .i64 60)))) (10, 38, false) [1, 2, 3, 4, 38, 41] [4] ::
    R_o3)
def g_law10_CheckTwice.o2 : List AOper := g_law10_CheckTwice.o2F g_law10_CheckTwice.o3
def g_law10_CheckTwice.o1F (R_o2 : List AOper) : List AOper :=
  (oo 37 (.pick (.t 32) (.c (.d (.bool true))) (.t 36)) ::
    oz 38 (.mv (.t 37)) [1, 2, 3, 4, 38] [4] ::
    R_o2)
def g_law10_CheckTwice.o1 : List AOper := g_law10_CheckTwice.o1F g_law10_CheckTwice.o2
def g_law10_CheckTwice.o0F (R_o1 : List AOper) : List AOper :=
  (og 33 (.load (some 2) (.t 4)) (4, 32, false) ::
    og 34 (.call 160 [(.t 33)]) (4, 32, false) ::
    og 35 (.call 161 [(.t 34)]) (4, 32, false) ::
    ow 36 (.un .not (.t 35)) (4, 32, false) [1, 2, 3, 4, 32, 36] [4] ::
    R_o1)
def g_law10_CheckTwice.o0 : List AOper := g_law10_CheckTwice.o0F g_law10_CheckTwice.o1
def g_law10_CheckTwice.c0 : ACode :=
  .cond (.t 42) (.seq (.region [8] (some []) none
     [oo 43 (.call 162 []),
      om 8 43])
  (.ret))
 (.skip)
def g_law10_CheckTwice.o13 : List AOper :=
  [oo 87 (.pick (.t 81) (.c (.d (.bool true))) (.t 86))]
def g_law10_CheckTwice.o12F (R_o13 : List AOper) : List AOper :=
  (og 82 (.mv (.t 2)) (21, 81, false) ::
    og 83 (.faddr 1 (.t 4)) (21, 81, false) ::
    og 84 (.load none (.t 83)) (21, 81, false) ::
    og 85 (.len (.t 84)) (21, 81, false) ::
    ow 86 (.bin .geq (.t 82) (.t 85)) (21, 81, false) [1, 2, 3, 4, 9, 12, 81, 86] [4] ::
    R_o13)
def g_law10_CheckTwice.o12 : List AOper := g_law10_CheckTwice.o12F g_law10_CheckTwice.o13
def g_law10_CheckTwice.o11F (R_o12 : List AOper) : List AOper :=
  (oo 80 (.pick (.t 74) (.c (.d (.bool true))) (.t 79)) ::
    oz 81 (.mv (.t 80)) [1, 2, 3, 4, 9, 12, 81] [4] ::
    R_o12)
def g_law10_CheckTwice.o11 : List AOper := g_law10_CheckTwice.o11F g_law10_CheckTwice.o12
def g_law10_CheckTwice.o10F (R_o11 : List AOper) : List AOper :=
  (og 75 (.mv (.t 1)) (14, 74, false) ::
    og 76 (.faddr 1 (.t 4)) (14, 74, false) ::
    og 77 (.load none (.t 76)) (14, 74, false) ::
    og 78 (.len (.t 77)) (14, 74, false) ::
    ow 79 (.bin .geq (.t 75) (.t 78)) (14, 74, false) [1, 2, 3, 4, 9, 12, 74, 79] [4] ::
    R_o11)
def g_law10_CheckTwice.o10 : List AOper := g_law10_CheckTwice.o10F g_law10_CheckTwice.o11
def g_law10_CheckTwice.o9F (R_o10 : List AOper) : List AOper :=
  (oo 73 (.pick (.t 70) (.c (.d (.bool true))) (.t 72)) ::
    oz 74 (.mv (.t 73)) [1, 2, 3, 4, 9, 12, 74] [4] ::
    R_o10)
def g_law10_CheckTwice.o9 : List AOper := g_law10_CheckTwice.o9F g_law10_CheckTwice.o10
def g_law10_CheckTwice.o8F (R_o9 : List AOper) : List AOper :=
  (og 71 (.mv (.t 2)) (10, 70, false) ::
    ow 72 (.bin .lss (.t 71) (.c (.d (.int .i64 0)))) (10, 70, false) [1, 2, 3, 4, 9, 12, 70, 72] [4] ::
    R_o9)
def g_law10_CheckTwice.o8 : List AOper := g_law10_CheckTwice.o8F g_law10_CheckTwice.o9
def g_law10_CheckTwice.o7F (R_o8 : List AOper) : List AOper :=
  (oo 69 (.pick (.t 66) (.c (.d (.bool true))) (.t 68)) ::
    oz 70 (.mv (.t 69)) [1, 2, 3, 4, 9, 12, 70] [4] ::
    R_o8)
def g_law10_CheckTwice.o7 : List AOper := g_law10_CheckTwice.o7F g_law10_CheckTwice.o8
def g_law10_CheckTwice.o6F (R_o7 : List AOper) : List AOper :=
  (og 67 (.mv (.t 1)) (6, 66, false) ::
    ow 68 (.bin .lss (.t 67) (.c (.d (.int .i64 0)))) (6, 66, false) [1, 2, 3, 4, 9, 12, 66, 68] [4] ::
    R_o7)
def g_law10_CheckTwice.o6 : List AOper := g_law10_CheckTwice.o6F g_law10_CheckTwice.o7
def g_law10_CheckTwice.o5F (R_o6 : List AOper) : List AOper :=
  (oo 65 (.pick (.t 62) (.c (.d (.bool true))) (.t 64)) ::
    oz 66 (.mv (.t 65)) [1, 2, 3, 4, 9, 12, 66] [4] ::
    R_o6)
def g_law10_CheckTwice.o5 : List AOper := g_law10_CheckTwice.o5F g_law10_CheckTwice.o6
def g_law10_CheckTwice.o4F (R_o5 : List AOper) : List AOper :=
  (og 63 (.mv (.t 14)) (2, 62, false) ::
    ow 64 (.bin .neq (.t 63) (.c (.d (.int .i64 0)))) (2, 62, false) [1, 2, 3, 4, 9, 12, 62, 64] [4] ::
    R_o5)
def g_law10_CheckTwice.o4 : List AOper := g_law10_CheckTwice.o4F g_law10_CheckTwice.o5
def g_law10_CheckTwice.c1 : ACode :=
  .cond (.t 87) (.seq (.region [8] (some []) none
     [oo 88 (.call 162 []),
      om 8 88])
  (.ret))
 (.skip)
def g_law10_CheckTwice.o14 : List AOper :=
  [oo 112 (.build [.d (.str []), .d (.str []), .d (.int .i64 0), .d (.int .i64 0), .d (.int .i64 0), .d (.int .i64 0)] [(0, 1, (.c (.d (.str [105, 102])))), (3, 1, (.t 109)), (4, 1, (.t 110)), (5, 1, (.t 111))]),
    oo 113 (.bsl none 6 [] 5 [(0, (.t 98)), (1, (.t 101)), (2, (.t 102)), (3, (.t 107)), (4, (.t 112))]),
    oo 114 (.app none 6 64 (.t 95) (.t 113)),
    oo 115 (.build [.cap0, .cap0] [(1, 1, (.t 114))]),
    oo 16 (.alloc 16 [.cap0, .cap0]),
    ⟨none, .store 2 (.t 16) (.t 115), [], [], none, none⟩]
def g_law10_CheckTwice.o18 : List AOper :=
  [oo 153 (.pick (.t 146) (.t 152) (.c (.d (.bool false)))),
    om 27 153]
def g_law10_CheckTwice.o17F (R_o18 : List AOper) : List AOper :=
  (ow 152 (.pick (.t 149) (.c (.d (.bool true))) (.t 151)) (1, 146, true) [9, 17, 19, 20, 22, 23, 25, 26, 146, 152] [] ::
    R_o18)
def g_law10_CheckTwice.o17 : List AOper := g_law10_CheckTwice.o17F g_law10_CheckTwice.o18
def g_law10_CheckTwice.o16F (R_o17 : List AOper) : List AOper :=
  (og 150 (.mv (.t 9)) (4, 149, false) ::
    ow 151 (.bin .eql (.t 150) (.c (.d (.int .i64 3)))) (4, 149, false) [9, 17, 19, 20, 22, 23, 25, 26, 146, 149, 151] [] ::
    R_o17)
def g_law10_CheckTwice.o16 : List AOper := g_law10_CheckTwice.o16F g_law10_CheckTwice.o17
def g_law10_CheckTwice.o15F (R_o16 : List AOper) : List AOper :=
  (og 147 (.mv (.t 9)) (1, 146, true) ::
    og 148 (.bin .eql (.t 147) (.c (.d (.int .i64 1)))) (1, 146, true) ::
    ow 149 (.mv (.t 148)) (1, 146, true) [9, 17, 19, 20, 22, 23, 25, 26, 146, 149] [] ::
    R_o16)
def g_law10_CheckTwice.o15 : List AOper := g_law10_CheckTwice.o15F g_law10_CheckTwice.o16
def g_law10_CheckTwice.o30 : List AOper :=
  [oo 183 (.pick (.t 176) (.c (.d (.bool true))) (.t 182))]
def g_law10_CheckTwice.o29F (R_o30 : List AOper) : List AOper :=
  (ow 182 (.pick (.t 179) (.t 181) (.c (.d (.bool false)))) (22, 176, false) [9, 23, 25, 26, 176, 182] [] ::
    R_o30)
def g_law10_CheckTwice.o29 : List AOper := g_law10_CheckTwice.o29F g_law10_CheckTwice.o30
def g_law10_CheckTwice.o28F (R_o29 : List AOper) : List AOper :=
  (og 180 (.mv (.t 20)) (25, 179, true) ::
    ow 181 (.bin .neq (.t 180) (.c (.d (.int .i64 4)))) (25, 179, true) [9, 23, 25, 26, 176, 179, 181] [] ::
    R_o29)
def g_law10_CheckTwice.o28 : List AOper := g_law10_CheckTwice.o28F g_law10_CheckTwice.o29
def g_law10_CheckTwice.o27F (R_o28 : List AOper) : List AOper :=
  (og 177 (.mv (.t 22)) (22, 176, false) ::
    og 178 (.bin .eql (.t 177) (.c (.d (.int .i64 0)))) (22, 176, false) ::
    ow 179 (.mv (.t 178)) (22, 176, false) [9, 20, 23, 25, 26, 176, 179] [] ::
    R_o28)
def g_law10_CheckTwice.o27 : List AOper := g_law10_CheckTwice.o27F g_law10_CheckTwice.o28
def g_law10_CheckTwice.o26F (R_o27 : List AOper) : List AOper :=
  (oo 175 (.pick (.t 166) (.c (.d (.bool true))) (.t 174)) ::
    oz 176 (.mv (.t 175)) [9, 20, 22, 23, 25, 26, 176] [] ::
    R_o27)
def g_law10_CheckTwice.o26 : List AOper := g_law10_CheckTwice.o26F g_law10_CheckTwice.o27
def g_law10_CheckTwice.o25F (R_o26 : List AOper) : List AOper :=
  (og 171 (.pick (.t 168) (.t 170) (.c (.d (.bool false)))) (12, 166, false) ::
    og 172 (.mv (.t 22)) (12, 166, false) ::
    og 173 (.bin .eql (.t 172) (.c (.d (.int .i64 0)))) (12, 166, false) ::
    ow 174 (.beq true (.t 171) (.t 173)) (12, 166, false) [9, 20, 22, 23, 25, 26, 166, 174] [] ::
    R_o26)
def g_law10_CheckTwice.o25 : List AOper := g_law10_CheckTwice.o25F g_law10_CheckTwice.o26
def g_law10_CheckTwice.o24F (R_o25 : List AOper) : List AOper :=
  (og 169 (.mv (.t 9)) (14, 168, true) ::
    ow 170 (.bin .neq (.t 169) (.c (.d (.int .i64 4)))) (14, 168, true) [9, 20, 22, 23, 25, 26, 166, 168, 170] [] ::
    R_o25)
def g_law10_CheckTwice.o24 : List AOper := g_law10_CheckTwice.o24F g_law10_CheckTwice.o25
def g_law10_CheckTwice.o23F (R_o24 : List AOper) : List AOper :=
  (og 167 (.mv (.t 26)) (12, 166, false) ::
    ow 168 (.mv (.t 167)) (12, 166, false) [9, 20, 22, 23, 25, 26, 166, 168] [] ::
    R_o24)
def g_law10_CheckTwice.o23 : List AOper := g_law10_CheckTwice.o23F g_law10_CheckTwice.o24
def g_law10_CheckTwice.o22F (R_o23 : List AOper) : List AOper :=
  (oo 165 (.pick (.t 158) (.c (.d (.bool true))) (.t 164)) ::
    oz 166 (.mv (.t 165)) [9, 20, 22, 23, 25, 26, 166] [] ::
    R_o23)
def g_law10_CheckTwice.o22 : List AOper := g_law10_CheckTwice.o22F g_law10_CheckTwice.o23
def g_law10_CheckTwice.o21F (R_o22 : List AOper) : List AOper :=
  (ow 164 (.pick (.t 160) (.t 163) (.c (.d (.bool false)))) (4, 158, false) [9, 20, 22, 23, 25, 26, 158, 164] [] ::
    R_o22)
def g_law10_CheckTwice.o21 : List AOper := g_law10_CheckTwice.o21F g_law10_CheckTwice.o22
def g_law10_CheckTwice.o20F (R_o21 : List AOper) : List AOper :=
  (og 161 (.mv (.t 17)) (6, 160, true) ::
    og 162 (.mv (.t 9)) (6, 160, true) ::
    ow 163 (.bin .neq (.t 161) (.t 162)) (6, 160, true) [9, 20, 22, 23, 25, 26, 158, 160, 163] [] ::
    R_o21)
def g_law10_CheckTwice.o20 : List AOper := g_law10_CheckTwice.o20F g_law10_CheckTwice.o21
def g_law10_CheckTwice.o19F (R_o20 : List AOper) : List AOper :=
  (og 159 (.mv (.t 27)) (4, 158, false) ::
    ow 160 (.mv (.t 159)) (4, 158, false) [9, 17, 20, 22, 23, 25, 26, 158, 160] [] ::
    R_o20)
def g_law10_CheckTwice.o19 : List AOper := g_law10_CheckTwice.o19F g_law10_CheckTwice.o20
def g_law10_CheckTwice.c2 : ACode :=
  .cond (.t 183) (.seq (.region [8] (some []) none
     [oo 8 (.mv (.c (.d (.bool false))))])
  (.ret))
 (.skip)
def g_law10_CheckTwice.o36 : List AOper :=
  [oo 199 (.pick (.t 197) (.t 198) (.c (.d (.bool false)))),
    om 8 199]
def g_law10_CheckTwice.o35F (R_o36 : List AOper) : List AOper :=
  (ow 198 (.call 162 []) (13, 197, true) [197, 198] [] ::
    R_o36)
def g_law10_CheckTwice.o35 : List AOper := g_law10_CheckTwice.o35F g_law10_CheckTwice.o36
def g_law10_CheckTwice.o34F (R_o35 : List AOper) : List AOper :=
  (oo 196 (.pick (.t 188) (.t 195) (.c (.d (.bool false)))) ::
    oz 197 (.mv (.t 196)) [197] [] ::
    R_o35)
def g_law10_CheckTwice.o34 : List AOper := g_law10_CheckTwice.o34F g_law10_CheckTwice.o35
def g_law10_CheckTwice.o33F (R_o34 : List AOper) : List AOper :=
  (ow 195 (.pick (.t 191) (.c (.d (.bool true))) (.t 194)) (4, 188, true) [188, 195] [] ::
    R_o34)
def g_law10_CheckTwice.o33 : List AOper := g_law10_CheckTwice.o33F g_law10_CheckTwice.o34
def g_law10_CheckTwice.o32F (R_o33 : List AOper) : List AOper :=
  (og 192 (.mv (.t 23)) (7, 191, false) ::
    og 193 (.mv (.t 9)) (7, 191, false) ::
    ow 194 (.bin .eql (.t 192) (.t 193)) (7, 191, false) [188, 191, 194] [] ::
    R_o33)
def g_law10_CheckTwice.o32 : List AOper := g_law10_CheckTwice.o32F g_law10_CheckTwice.o33
def g_law10_CheckTwice.o31F (R_o32 : List AOper) : List AOper :=
  (og 189 (.mv (.t 26)) (4, 188, true) ::
    og 190 (.un .not (.t 189)) (4, 188, true) ::
    ow 191 (.mv (.t 190)) (4, 188, true) [9, 23, 188, 191] [] ::
    R_o32)
def g_law10_CheckTwice.o31 : List AOper := g_law10_CheckTwice.o31F g_law10_CheckTwice.o32
def g_law10_CheckTwice.c3 : ACode :=
  .ret
def g_law10_CheckTwice.c4F (R_o31 : List AOper) (R_c3 : ACode) : ACode :=
  .seq (.region [8] (some []) none
    (om 184 26 ::
     om 185 25 ::
     oo 186 (.bin .eql (.t 185) (.c (.d (.int .i64 0)))) ::
     oo 187 (.beq false (.t 184) (.t 186)) ::
     oz 188 (.mv (.t 187)) [9, 23, 26, 188] [] ::
     R_o31))
 (R_c3)
def g_law10_CheckTwice.c4 : ACode := g_law10_CheckTwice.c4F g_law10_CheckTwice.o31 g_law10_CheckTwice.c3
def g_law10_CheckTwice.c5F (R_o19 : List AOper) (R_c2 : ACode) (R_c4 : ACode) : ACode :=
  .seq (.seq (.region [9, 23, 25, 26, 183] (some []) none
     (om 154 27 ::
      om 155 19 ::
      oo 156 (.bin .eql (.t 155) (.c (.d (.int .i64 0)))) ::
      oo 157 (.beq true (.t 154) (.t 156)) ::
      oz 158 (.mv (.t 157)) [9, 17, 20, 22, 23, 25, 26, 27, 158] [] ::
      R_o19))
  (R_c2))
 (R_c4)
def g_law10_CheckTwice.c5 : ACode := g_law10_CheckTwice.c5F g_law10_CheckTwice.o19 g_law10_CheckTwice.c2 g_law10_CheckTwice.c4
def g_law10_CheckTwice.c6F (R_o15 : List AOper) (R_c5 : ACode) : ACode :=
  .seq (.region [9, 17, 19, 20, 22, 23, 25, 26, 27] (some []) none
    (om 145 26 ::
     oz 146 (.mv (.t 145)) [9, 17, 19, 20, 22, 23, 25, 26, 146] [] ::
     R_o15))
 (R_c5)
def g_law10_CheckTwice.c6 : ACode := g_law10_CheckTwice.c6F g_law10_CheckTwice.o15 g_law10_CheckTwice.c5
def g_law10_CheckTwice.c7F (R_c6 : ACode) : ACode :=
  .seq (.region [9, 17, 19, 20, 22, 23, 25, 26] (some []) none
    [om 142 9,
     om 143 12,
     oo 144 (.bin .eql (.t 142) (.t 143)),
     om 26 144])
 (R_c6)
def g_law10_CheckTwice.c7 : ACode := g_law10_CheckTwice.c7F g_law10_CheckTwice.c6
def g_law10_CheckTwice.c8F (R_c7 : ACode) : ACode :=
  .seq (.region [9, 12, 17, 19, 20, 22, 23, 25] (some []) none
    [oo 134 (.load (some 2) (.t 16)),
     om 135 15,
     oo 136 (.bin .add (.t 135) (.c (.d (.int .i64 4)))),
     om 137 3,
     oo 138 (.call 163 [(.t 134), (.t 136), (.t 137)]),
     om 133 138,
     oo 139 (.ext (.t 133) 0),
     oo 140 (.ext (.t 133) 1),
     oo 141 (.ext (.t 133) 2),
     om 23 139,
     om 24 140,
     om 25 141])
 (R_c7)
def g_law10_CheckTwice.c8 : ACode := g_law10_CheckTwice.c8F g_law10_CheckTwice.c7
def g_law10_CheckTwice.c9F (R_c8 : ACode) : ACode :=
  .seq (.region [3, 9, 12, 15, 16, 17, 19, 20, 22] (some [16]) none
    [oo 125 (.load (some 2) (.t 16)),
     om 126 15,
     oo 127 (.bin .add (.t 126) (.c (.d (.int .i64 1)))),
     om 128 3,
     oo 129 (.call 163 [(.t 125), (.t 127), (.t 128)]),
     om 124 129,
     oo 130 (.ext (.t 124) 0),
     oo 131 (.ext (.t 124) 1),
     oo 132 (.ext (.t 124) 2),
     om 20 130,
     om 21 131,
     om 22 132])
 (R_c8)
def g_law10_CheckTwice.c9 : ACode := g_law10_CheckTwice.c9F g_law10_CheckTwice.c8
def g_law10_CheckTwice.c10F (R_c9 : ACode) : ACode :=
  .seq (.region [3, 9, 12, 15, 16, 17, 19] (some [16]) none
    [oo 117 (.load (some 2) (.t 16)),
     om 118 15,
     om 119 3,
     oo 120 (.call 163 [(.t 117), (.t 118), (.t 119)]),
     om 116 120,
     oo 121 (.ext (.t 116) 0),
     oo 122 (.ext (.t 116) 1),
     oo 123 (.ext (.t 116) 2),
     om 17 121,
     om 18 122,
     om 19 123])
 (R_c9)
def g_law10_CheckTwice.c10 : ACode := g_law10_CheckTwice.c10F g_law10_CheckTwice.c9
def g_law10_CheckTwice.c11F (R_o14 : List AOper) (R_c10 : ACode) : ACode :=
  .seq (.region [3, 9, 12, 15, 16] (some [16]) none
    (oo 92 (.bsl (some 92) 6 [] 0 []) ::
     oo 93 (.faddr 1 (.t 4)) ::
     oo 94 (.load none (.t 93)) ::
     oo 95 (.app (some 95) 6 64 (.t 92) (.t 94)) ::
     om 96 1 ::
     om 97 2 ::
     oo 98 (.build [.d (.str []), .d (.str []), .d (.int .i64 0), .d (.int .i64 0), .d (.int .i64 0), .d (.int .i64 0)] [(0, 1, (.c (.d (.str [43])))), (3, 1, (.t 96)), (4, 1, (.t 97))]) ::
     om 99 1 ::
     om 100 2 ::
     oo 101 (.build [.d (.str []), .d (.str []), .d (.int .i64 0), .d (.int .i64 0), .d (.int .i64 0), .d (.int .i64 0)] [(0, 1, (.c (.d (.str [60])))), (3, 1, (.t 99)), (4, 1, (.t 100))]) ::
     oo 102 (.build [.d (.str []), .d (.str []), .d (.int .i64 0), .d (.int .i64 0), .d (.int .i64 0), .d (.int .i64 0)] [(0, 1, (.c (.d (.str [119, 104, 111, 108, 101]))))]) ::
     om 103 15 ::
     oo 104 (.bin .add (.t 103) (.c (.d (.int .i64 2)))) ::
     om 105 15 ::
     oo 106 (.bin .add (.t 105) (.c (.d (.int .i64 2)))) ::
     oo 107 (.build [.d (.str []), .d (.str []), .d (.int .i64 0), .d (.int .i64 0), .d (.int .i64 0), .d (.int .i64 0)] [(0, 1, (.c (.d (.str [60])))), (3, 1, (.t 104)), (4, 1, (.t 106))]) ::
     om 108 15 ::
     oo 109 (.bin .add (.t 108) (.c (.d (.int .i64 3)))) ::
     om 110 1 ::
     oz 111 (.mv (.t 2)) [3, 9, 12, 15, 95, 98, 101, 102, 107, 109, 110, 111] [92, 95] ::
     R_o14))
 (R_c10)
def g_law10_CheckTwice.c11 : ACode := g_law10_CheckTwice.c11F g_law10_CheckTwice.o14 g_law10_CheckTwice.c10
def g_law10_CheckTwice.c12F (R_c11 : ACode) : ACode :=
  .seq (.region [1, 2, 3, 4, 9, 12, 15] (some [4]) none
    [oo 89 (.faddr 1 (.t 4)),
     oo 90 (.load none (.t 89)),
     oo 91 (.len (.t 90)),
     om 15 91])
 (R_c11)
def g_law10_CheckTwice.c12 : ACode := g_law10_CheckTwice.c12F g_law10_CheckTwice.c11
def g_law10_CheckTwice.c13F (R_o4 : List AOper) (R_c1 : ACode) (R_c12 : ACode) : ACode :=
  .seq (.seq (.region [1, 2, 3, 4, 9, 12, 87] (some [4]) none
     (om 60 11 ::
      oo 61 (.bin .neq (.t 60) (.c (.d (.int .i64 0)))) ::
      oz 62 (.mv (.t 61)) [1, 2, 3, 4, 9, 12, 14, 62] [4] ::
      R_o4))
  (R_c1))
 (R_c12)
def g_law10_CheckTwice.c13 : ACode := g_law10_CheckTwice.c13F g_law10_CheckTwice.o4 g_law10_CheckTwice.c1 g_law10_CheckTwice.c12
def g_law10_CheckTwice.c14F (R_c13 : ACode) : ACode :=
  .seq (.region [1, 2, 3, 4, 9, 11, 12, 14] (some [4]) none
    [oo 53 (.load (some 2) (.t 4)),
     om 54 2,
     om 55 3,
     oo 56 (.call 163 [(.t 53), (.t 54), (.t 55)]),
     om 52 56,
     oo 57 (.ext (.t 52) 0),
     oo 58 (.ext (.t 52) 1),
     oo 59 (.ext (.t 52) 2),
     om 12 57,
     om 13 58,
     om 14 59])
 (R_c13)
def g_law10_CheckTwice.c14 : ACode := g_law10_CheckTwice.c14F g_law10_CheckTwice.c13
def g_law10_CheckTwice.c15F (R_c14 : ACode) : ACode :=
  .seq (.region [1, 2, 3, 4, 9, 11] (some [4]) none
    [oo 45 (.load (some 2) (.t 4)),
     om 46 1,
     om 47 3,
     oo 48 (.call 163 [(.t 45), (.t 46), (.t 47)]),
     om 44 48,
     oo 49 (.ext (.t 44) 0),
     oo 50 (.ext (.t 44) 1),
     oo 51 (.ext (.t 44) 2),
     om 9 49,
     om 10 50,
     om 11 51])
 (R_c14)
def g_law10_CheckTwice.c15 : ACode := g_law10_CheckTwice.c15F g_law10_CheckTwice.c14
def g_law10_CheckTwice.codeF (R_o0 : List AOper) (R_c0 : ACode) (R_c15 : ACode) : ACode :=
  .seq (.region [1, 2, 3, 4] (some [4]) none
    [oo 4 (.box 4 2 (.t 0)),
     oo 8 (.mv (.c (.d (.bool false))))])
 (.seq (.seq (.region [1, 2, 3, 4, 42] (some [4]) none
      (oo 28 (.faddr 1 (.t 4)) ::
       oo 29 (.load none (.t 28)) ::
       oo 30 (.len (.t 29)) ::
       oo 31 (.bin .gtr (.t 30) (.c (.d (.int .i64 200)))) ::
       oz 32 (.mv (.t 31)) [1, 2, 3, 4, 32] [4] ::
       R_o0))
   (R_c0))
  (R_c15))
def g_law10_CheckTwice.code : ACode := g_law10_CheckTwice.codeF g_law10_CheckTwice.o0 g_law10_CheckTwice.c0 g_law10_CheckTwice.c15
def g_law10_CheckTwice : AFn := { N := 200, res := [.slot 8], own := [], frz := [], code := g_law10_CheckTwice.code }

end Pay
