/- The program's functions as abstract code. -/
import Derived.Test.YtmglkghngkbioaaGreatDoorPayBa1
set_option maxRecDepth 20000
namespace Pay
def g_law10_CheckMore.o5 : List AOper :=
  [oo 39 (.pick (.t 35) (.c (.d (.bool true))) (.t 38))]
def g_law10_CheckMore.o4F (R_o5 : List AOper) : List AOper :=
  (og 36 (.mv (.t 3)) (15, 35, false) ::
    og 37 (.len (.t 36)) (15, 35, false) ::
    ow 38 (.bin .gtr (.t 37) (.c (.d (.int .i64 60)))) (15, 35, false) [1, 2, 3, 4, 35, 38] [4] ::
    R_o5)
def g_law10_CheckMore.o4 : List AOper := g_law10_CheckMore.o4F g_law10_CheckMore.o5
def g_law10_CheckMore.o3F (R_o4 : List AOper) : List AOper :=
  (oo 34 (.pick (.t 30) (.c (.d (.bool true))) (.t 33)) ::
    oz 35 (.mv (.t 34)) [1, 2, 3, 4, 35] [4] ::
    R_o4)
def g_law10_CheckMore.o3 : List AOper := g_law10_CheckMore.o3F g_law10_CheckMore.o4
def g_law10_CheckMore.o2F (R_o3 : List AOper) : List AOper :=
  (og 31 (.mv (.t 2)) (10, 30, false) ::
    og 32 (.len (.t 31)) (10, 30, false) ::
    ow 33 (.bin .gtr (.t 32) (.c (.d (.int .i64 60)))) (10, 30, false) [1, 2, 3, 4, 30, 33] [4] ::
    R_o3)
def g_law10_CheckMore.o2 : List AOper := g_law10_CheckMore.o2F g_law10_CheckMore.o3
def g_law10_CheckMore.o1F (R_o2 : List AOper) : List AOper :=
  (oo 29 (.pick (.t 24) (.c (.d (.bool true))) (.t 28)) ::
    oz 30 (.mv (.t 29)) [1, 2, 3, 4, 30] [4] ::
    R_o2)
def g_law10_CheckMore.o1 : List AOper := g_law10_CheckMore.o1F g_law10_CheckMore.o2
def g_law10_CheckMore.o0F (R_o1 : List AOper) : List AOper :=
  (og 25 (.load (some 2) (.t 4)) (4, 24, false) ::
    og 26 (.call 160 [(.t 25)]) (4, 24, false) ::
    og 27 (.call 161 [(.t 26)]) (4, 24, false) ::
    ow 28 (.un .not (.t 27)) (4, 24, false) [1, 2, 3, 4, 24, 28] [4] ::
    R_o1)
def g_law10_CheckMore.o0 : List AOper := g_law10_CheckMore.o0F g_law10_CheckMore.o1
def g_law10_CheckMore.c0 : ACode :=
  .cond (.t 39) (.seq (.region [8] (some []) none
     [oo 40 (.call 162 []),
      om 8 40])
  (.ret))
 (.skip)
def g_law10_CheckMore.a6 : List AOper :=
  [oo 50 (.load (some 2) (.t 4)),
     om 51 1,
     oo 52 (.bsl (some 52) 2 [] 0 []),
     om 53 2,
     ⟨some 54, .app (some 54) 2 24 (.t 52) (.t 53), [], [2, 3], none, none⟩,
     om 55 3,
     ⟨some 56, .app none 2 24 (.t 54) (.t 55), [], [4, 5, 4], none, none⟩,
     ⟨some 57, .call 163 [(.t 50), (.t 51), (.t 56)], [], [0, 1, 6, 6], none, none⟩,
     ⟨some 49, .mv (.t 57), [], [7], none, none⟩,
     ⟨some 58, .ext (.t 49) 0, [], [8], none, none⟩,
     ⟨some 59, .ext (.t 49) 1, [], [8], none, none⟩,
     ⟨some 60, .ext (.t 49) 2, [], [8], none, none⟩,
     ⟨some 12, .mv (.t 58), [], [9, 7, 0, 1, 2, 3, 4, 5, 6, 7, 8, 9], none, none⟩,
     ⟨some 13, .mv (.t 59), [], [10, 12, 0, 1, 2, 3, 4, 5, 6, 7, 8, 9, 10, 12], none, none⟩,
     ⟨some 14, .mv (.t 60), [], [11, 13, 0, 1, 2, 3, 4, 5, 6, 7, 8, 9, 10, 11, 12, 13], none, none⟩]
def g_law10_CheckMore.t11 : Tr := .one 14 .done
def g_law10_CheckMore.t12 : Tr := .one 13 g_law10_CheckMore.t11
def g_law10_CheckMore.t13 : Tr := .one 12 g_law10_CheckMore.t12
def g_law10_CheckMore.t14 : Tr := .one 11 g_law10_CheckMore.t11
def g_law10_CheckMore.t15 : Tr := .one 13 g_law10_CheckMore.t14
def g_law10_CheckMore.t16 : Tr := .two 11 g_law10_CheckMore.t12 g_law10_CheckMore.t15
def g_law10_CheckMore.t17 : Tr := .one 12 g_law10_CheckMore.t16
def g_law10_CheckMore.t18 : Tr := .two 11 g_law10_CheckMore.t13 g_law10_CheckMore.t17
def g_law10_CheckMore.t19 : Tr := .one 10 g_law10_CheckMore.t12
def g_law10_CheckMore.t20 : Tr := .one 12 g_law10_CheckMore.t19
def g_law10_CheckMore.t21 : Tr := .two 10 g_law10_CheckMore.t13 g_law10_CheckMore.t20
def g_law10_CheckMore.t22 : Tr := .one 11 g_law10_CheckMore.t19
def g_law10_CheckMore.t23 : Tr := .two 10 g_law10_CheckMore.t16 g_law10_CheckMore.t22
def g_law10_CheckMore.t24 : Tr := .one 12 g_law10_CheckMore.t23
def g_law10_CheckMore.t25 : Tr := .two 11 g_law10_CheckMore.t21 g_law10_CheckMore.t24
def g_law10_CheckMore.t26 : Tr := .two 10 g_law10_CheckMore.t18 g_law10_CheckMore.t25
def g_law10_CheckMore.t27 : Tr := .one 9 g_law10_CheckMore.t13
def g_law10_CheckMore.t28 : Tr := .one 11 g_law10_CheckMore.t27
def g_law10_CheckMore.t29 : Tr := .two 9 g_law10_CheckMore.t18 g_law10_CheckMore.t28
def g_law10_CheckMore.t30 : Tr := .one 10 g_law10_CheckMore.t27
def g_law10_CheckMore.t31 : Tr := .two 9 g_law10_CheckMore.t21 g_law10_CheckMore.t30
def g_law10_CheckMore.t32 : Tr := .one 11 g_law10_CheckMore.t31
def g_law10_CheckMore.t33 : Tr := .two 10 g_law10_CheckMore.t29 g_law10_CheckMore.t32
def g_law10_CheckMore.t34 : Tr := .two 9 g_law10_CheckMore.t26 g_law10_CheckMore.t33
def g_law10_CheckMore.t35 : Tr := .one 8 g_law10_CheckMore.t34
def g_law10_CheckMore.t36 : Tr := .one 7 g_law10_CheckMore.t35
def g_law10_CheckMore.t37 : Tr := .one 6 g_law10_CheckMore.t36
def g_law10_CheckMore.t38 : Tr := .one 4 g_law10_CheckMore.t37
def g_law10_CheckMore.i10 : List Nat := 5 :: []
def g_law10_CheckMore.i9 : List Nat := 3 :: g_law10_CheckMore.i10
def g_law10_CheckMore.i8 : List Nat := 2 :: g_law10_CheckMore.i9
def g_law10_CheckMore.i7 : List Nat := 1 :: g_law10_CheckMore.i8
def g_law10_CheckMore.a39 : List AOper :=
  [oo 62 (.load (some 2) (.t 4)),
     om 63 1,
     oo 64 (.build [.d (.str []), .d (.int .i64 0)] [(0, 1, (.c (.d (.str [78, 111, 98, 111, 100, 121])))), (1, 1, (.c (.d (.int .i64 1))))]),
     ⟨some 65, .bsl (some 65) 2 [] 1 [(0, (.t 64))], [], [2], none, none⟩,
     om 66 2,
     ⟨some 67, .app none 2 24 (.t 65) (.t 66), [], [3, 4], none, none⟩,
     ⟨some 68, .call 163 [(.t 62), (.t 63), (.t 67)], [], [0, 1, 5, 5], none, none⟩,
     ⟨some 61, .mv (.t 68), [], [6], none, none⟩,
     ⟨some 69, .ext (.t 61) 0, [], [7], none, none⟩,
     ⟨some 70, .ext (.t 61) 1, [], [7], none, none⟩,
     ⟨some 71, .ext (.t 61) 2, [], [7], none, none⟩,
     ⟨some 15, .mv (.t 69), [], [8, 6, 0, 1, 2, 3, 4, 5, 6, 7, 8], none, none⟩,
     ⟨some 16, .mv (.t 70), [], [9, 11, 0, 1, 2, 3, 4, 5, 6, 7, 8, 9, 11], none, none⟩,
     ⟨some 17, .mv (.t 71), [], [10, 12, 0, 1, 2, 3, 4, 5, 6, 7, 8, 9, 10, 11, 12], none, none⟩]
def g_law10_CheckMore.t43 : Tr := .one 13 .done
def g_law10_CheckMore.t44 : Tr := .one 12 g_law10_CheckMore.t43
def g_law10_CheckMore.t45 : Tr := .one 11 g_law10_CheckMore.t44
def g_law10_CheckMore.t46 : Tr := .one 10 g_law10_CheckMore.t43
def g_law10_CheckMore.t47 : Tr := .one 12 g_law10_CheckMore.t46
def g_law10_CheckMore.t48 : Tr := .two 10 g_law10_CheckMore.t44 g_law10_CheckMore.t47
def g_law10_CheckMore.t49 : Tr := .one 11 g_law10_CheckMore.t48
def g_law10_CheckMore.t50 : Tr := .two 10 g_law10_CheckMore.t45 g_law10_CheckMore.t49
def g_law10_CheckMore.t51 : Tr := .one 9 g_law10_CheckMore.t44
def g_law10_CheckMore.t52 : Tr := .one 11 g_law10_CheckMore.t51
def g_law10_CheckMore.t53 : Tr := .two 9 g_law10_CheckMore.t45 g_law10_CheckMore.t52
def g_law10_CheckMore.t54 : Tr := .one 10 g_law10_CheckMore.t51
def g_law10_CheckMore.t55 : Tr := .two 9 g_law10_CheckMore.t48 g_law10_CheckMore.t54
def g_law10_CheckMore.t56 : Tr := .one 11 g_law10_CheckMore.t55
def g_law10_CheckMore.t57 : Tr := .two 10 g_law10_CheckMore.t53 g_law10_CheckMore.t56
def g_law10_CheckMore.t58 : Tr := .two 9 g_law10_CheckMore.t50 g_law10_CheckMore.t57
def g_law10_CheckMore.t59 : Tr := .one 8 g_law10_CheckMore.t45
def g_law10_CheckMore.t60 : Tr := .one 10 g_law10_CheckMore.t59
def g_law10_CheckMore.t61 : Tr := .two 8 g_law10_CheckMore.t50 g_law10_CheckMore.t60
def g_law10_CheckMore.t62 : Tr := .one 9 g_law10_CheckMore.t59
def g_law10_CheckMore.t63 : Tr := .two 8 g_law10_CheckMore.t53 g_law10_CheckMore.t62
def g_law10_CheckMore.t64 : Tr := .one 10 g_law10_CheckMore.t63
def g_law10_CheckMore.t65 : Tr := .two 9 g_law10_CheckMore.t61 g_law10_CheckMore.t64
def g_law10_CheckMore.t66 : Tr := .two 8 g_law10_CheckMore.t58 g_law10_CheckMore.t65
def g_law10_CheckMore.t67 : Tr := .one 7 g_law10_CheckMore.t66
def g_law10_CheckMore.t68 : Tr := .one 6 g_law10_CheckMore.t67
def g_law10_CheckMore.t69 : Tr := .one 5 g_law10_CheckMore.t68
def g_law10_CheckMore.t70 : Tr := .one 3 g_law10_CheckMore.t69
def g_law10_CheckMore.i42 : List Nat := 4 :: []
def g_law10_CheckMore.i41 : List Nat := 2 :: g_law10_CheckMore.i42
def g_law10_CheckMore.i40 : List Nat := 1 :: g_law10_CheckMore.i41
def g_law10_CheckMore.c1 : ACode :=
  .seq (.region [9, 11, 12, 14, 15, 17, 73, 74, 75, 81] (some []) none
    [oo 79 (.faddr 1 (.t 19)),
     oo 80 (.load none (.t 79)),
     oo 81 (.bin .eql (.t 80) (.c (.d (.str [78, 111, 98, 111, 100, 121]))))])
 (.cond (.t 81) (.seq (.region [8] (some []) none
      [oo 82 (.call 162 []),
       om 8 82])
   (.ret))
  (.skip))
def g_law10_CheckMore.c2 : ACode :=
  .region [9, 11, 12, 14, 15, 17, 73, 74, 75] (some []) none
   [oo 83 (.bin .add (.t 75) (.c (.d (.int .i64 1)))),
    om 75 83]
def g_law10_CheckMore.l0F (R_c1 : ACode) (R_c2 : ACode) : ACode :=
  .loop [9, 11, 12, 14, 15, 17, 73, 74, 75] (some []) (.seq (.region [9, 11, 12, 14, 15, 17, 73, 74, 75, 76] (some []) none
    [oo 76 (.bin .lss (.t 75) (.t 74))])
 (.seq (.cond (.t 76) (.skip)
   (.exit 0))
  (.seq (.block 1 [9, 11, 12, 14, 15, 17, 73, 74, 75] (some []) (.seq (.region [9, 11, 12, 14, 15, 17, 19, 73, 74, 75] (some [19]) none
        [oo 77 (.iaddr 6 (.t 73) (.t 75)),
         oo 78 (.load (some 6) (.t 77)),
         oo 19 (.alloc 19 [.d (.str []), .d (.str []), .d (.int .i64 0), .d (.int .i64 0), .d (.int .i64 0), .d (.int .i64 0)]),
         ⟨none, .store 6 (.t 19) (.t 78), [], [], none, none⟩])
     (R_c1)))
   (R_c2))))
def g_law10_CheckMore.l0 : ACode := g_law10_CheckMore.l0F g_law10_CheckMore.c1 g_law10_CheckMore.c2
def g_law10_CheckMore.c3F (R_l0 : ACode) : ACode :=
  .block 0 [9, 11, 12, 14, 15, 17] (some []) (R_l0)
def g_law10_CheckMore.c3 : ACode := g_law10_CheckMore.c3F g_law10_CheckMore.l0
def g_law10_CheckMore.o80 : List AOper :=
  [oo 107 (.pick (.t 105) (.t 106) (.c (.d (.bool false)))),
    om 8 107]
def g_law10_CheckMore.o79F (R_o80 : List AOper) : List AOper :=
  (ow 106 (.call 162 []) (21, 105, true) [105, 106] [] ::
    R_o80)
def g_law10_CheckMore.o79 : List AOper := g_law10_CheckMore.o79F g_law10_CheckMore.o80
def g_law10_CheckMore.o78F (R_o79 : List AOper) : List AOper :=
  (oo 104 (.pick (.t 100) (.t 103) (.c (.d (.bool false)))) ::
    oz 105 (.mv (.t 104)) [105] [] ::
    R_o79)
def g_law10_CheckMore.o78 : List AOper := g_law10_CheckMore.o78F g_law10_CheckMore.o79
def g_law10_CheckMore.o77F (R_o78 : List AOper) : List AOper :=
  (og 101 (.mv (.t 17)) (16, 100, true) ::
    og 102 (.mv (.t 11)) (16, 100, true) ::
    ow 103 (.bin .eql (.t 101) (.t 102)) (16, 100, true) [100, 103] [] ::
    R_o78)
def g_law10_CheckMore.o77 : List AOper := g_law10_CheckMore.o77F g_law10_CheckMore.o78
def g_law10_CheckMore.o76F (R_o77 : List AOper) : List AOper :=
  (oo 99 (.pick (.t 95) (.t 98) (.c (.d (.bool false)))) ::
    oz 100 (.mv (.t 99)) [11, 17, 100] [] ::
    R_o77)
def g_law10_CheckMore.o76 : List AOper := g_law10_CheckMore.o76F g_law10_CheckMore.o77
def g_law10_CheckMore.o75F (R_o76 : List AOper) : List AOper :=
  (og 96 (.mv (.t 15)) (11, 95, true) ::
    og 97 (.mv (.t 9)) (11, 95, true) ::
    ow 98 (.bin .eql (.t 96) (.t 97)) (11, 95, true) [11, 17, 95, 98] [] ::
    R_o76)
def g_law10_CheckMore.o75 : List AOper := g_law10_CheckMore.o75F g_law10_CheckMore.o76
def g_law10_CheckMore.o74F (R_o75 : List AOper) : List AOper :=
  (oo 94 (.pick (.t 86) (.c (.d (.bool true))) (.t 93)) ::
    oz 95 (.mv (.t 94)) [9, 11, 15, 17, 95] [] ::
    R_o75)
def g_law10_CheckMore.o74 : List AOper := g_law10_CheckMore.o74F g_law10_CheckMore.o75
def g_law10_CheckMore.o73F (R_o74 : List AOper) : List AOper :=
  (ow 93 (.pick (.t 89) (.t 92) (.c (.d (.bool false)))) (2, 86, false) [9, 11, 15, 17, 86, 93] [] ::
    R_o74)
def g_law10_CheckMore.o73 : List AOper := g_law10_CheckMore.o73F g_law10_CheckMore.o74
def g_law10_CheckMore.o72F (R_o73 : List AOper) : List AOper :=
  (og 90 (.mv (.t 9)) (5, 89, true) ::
    og 91 (.mv (.t 12)) (5, 89, true) ::
    ow 92 (.bin .eql (.t 90) (.t 91)) (5, 89, true) [9, 11, 15, 17, 86, 89, 92] [] ::
    R_o73)
def g_law10_CheckMore.o72 : List AOper := g_law10_CheckMore.o72F g_law10_CheckMore.o73
def g_law10_CheckMore.o71F (R_o72 : List AOper) : List AOper :=
  (og 87 (.mv (.t 14)) (2, 86, false) ::
    og 88 (.bin .eql (.t 87) (.c (.d (.int .i64 0)))) (2, 86, false) ::
    ow 89 (.mv (.t 88)) (2, 86, false) [9, 11, 12, 15, 17, 86, 89] [] ::
    R_o72)
def g_law10_CheckMore.o71 : List AOper := g_law10_CheckMore.o71F g_law10_CheckMore.o72
def g_law10_CheckMore.c4 : ACode :=
  .ret
def g_law10_CheckMore.c5F (R_o71 : List AOper) (R_c4 : ACode) : ACode :=
  .seq (.region [8] (some []) none
    (om 84 11 ::
     oo 85 (.bin .neq (.t 84) (.c (.d (.int .i64 0)))) ::
     oz 86 (.mv (.t 85)) [9, 11, 12, 14, 15, 17, 86] [] ::
     R_o71))
 (R_c4)
def g_law10_CheckMore.c5 : ACode := g_law10_CheckMore.c5F g_law10_CheckMore.o71 g_law10_CheckMore.c4
def g_law10_CheckMore.c6F (R_c3 : ACode) (R_c5 : ACode) : ACode :=
  .seq (.seq (.region [9, 11, 12, 14, 15, 17, 73, 74, 75] (some []) none
     [oo 72 (.faddr 1 (.t 4)),
      oo 73 (.load none (.t 72)),
      oo 74 (.len (.t 73)),
      oo 75 (.mv (.c (.d (.int .i64 0))))])
  (R_c3))
 (R_c5)
def g_law10_CheckMore.c6 : ACode := g_law10_CheckMore.c6F g_law10_CheckMore.c3 g_law10_CheckMore.c5
def g_law10_CheckMore.c7F (R_i40 : List Nat) (R_t70 : Tr) (R_c6 : ACode) : ACode :=
  .seq (.region [4, 9, 11, 12, 14, 15, 17] (some [4]) (some (0 :: R_i40, R_t70)) g_law10_CheckMore.a39)
 (R_c6)
def g_law10_CheckMore.c7 : ACode := g_law10_CheckMore.c7F g_law10_CheckMore.i40 g_law10_CheckMore.t70 g_law10_CheckMore.c6
def g_law10_CheckMore.c8F (R_i7 : List Nat) (R_t38 : Tr) (R_c7 : ACode) : ACode :=
  .seq (.region [1, 2, 4, 9, 11, 12, 14] (some [4]) (some (0 :: R_i7, R_t38)) g_law10_CheckMore.a6)
 (R_c7)
def g_law10_CheckMore.c8 : ACode := g_law10_CheckMore.c8F g_law10_CheckMore.i7 g_law10_CheckMore.t38 g_law10_CheckMore.c7
def g_law10_CheckMore.c9F (R_c8 : ACode) : ACode :=
  .seq (.region [1, 2, 3, 4, 9, 11] (some [4]) none
    [oo 42 (.load (some 2) (.t 4)),
     om 43 1,
     om 44 2,
     oo 45 (.call 163 [(.t 42), (.t 43), (.t 44)]),
     om 41 45,
     oo 46 (.ext (.t 41) 0),
     oo 47 (.ext (.t 41) 1),
     oo 48 (.ext (.t 41) 2),
     om 9 46,
     om 10 47,
     om 11 48])
 (R_c8)
def g_law10_CheckMore.c9 : ACode := g_law10_CheckMore.c9F g_law10_CheckMore.c8
def g_law10_CheckMore.codeF (R_o0 : List AOper) (R_c0 : ACode) (R_c9 : ACode) : ACode :=
  .seq (.region [1, 2, 3, 4] (some [4]) none
    [oo 4 (.box 4 2 (.t 0)),
     oo 8 (.mv (.c (.d (.bool false))))])
 (.seq (.seq (.region [1, 2, 3, 4, 39] (some [4]) none
      (oo 20 (.faddr 1 (.t 4)) ::
       oo 21 (.load none (.t 20)) ::
       oo 22 (.len (.t 21)) ::
       oo 23 (.bin .gtr (.t 22) (.c (.d (.int .i64 300)))) ::
       oz 24 (.mv (.t 23)) [1, 2, 3, 4, 24] [4] ::
       R_o0))
   (R_c0))
  (R_c9))
def g_law10_CheckMore.code : ACode := g_law10_CheckMore.codeF g_law10_CheckMore.o0 g_law10_CheckMore.c0 g_law10_CheckMore.c9
def g_law10_CheckMore : AFn := { N := 108, res := [.slot 8], own := [], frz := [], code := g_law10_CheckMore.code }

end Pay
