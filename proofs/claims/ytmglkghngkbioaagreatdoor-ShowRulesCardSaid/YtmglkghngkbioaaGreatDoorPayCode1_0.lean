/- The program's functions as abstract code. -/
import Derived.Test.YtmglkghngkbioaaGreatDoorPayBa1
set_option maxRecDepth 20000
namespace Pay
def g_law09_ShowRules.o1 : List AOper :=
  [oo 28 (.pick (.t 26) (.t 27) (.c (.d (.bool false)))),
    om 2 28]
def g_law09_ShowRules.o0F (R_o1 : List AOper) : List AOper :=
  (ow 27 (.call 172 []) (4, 26, true) [26, 27] [] ::
    R_o1)
def g_law09_ShowRules.o0 : List AOper := g_law09_ShowRules.o0F g_law09_ShowRules.o1
def g_law09_ShowRules.c0 : ACode :=
  .ret
def g_law09_ShowRules.o3 : List AOper :=
  [oo 53 (.pick (.t 47) (.c (.d (.bool true))) (.t 52))]
def g_law09_ShowRules.o2F (R_o3 : List AOper) : List AOper :=
  (og 48 (.mv (.t 6)) (2, 47, false) ::
    og 49 (.mv (.t 9)) (2, 47, false) ::
    og 50 (.bin .sub (.t 49) (.c (.d (.int .i64 1)))) (2, 47, false) ::
    og 51 (.idx (.t 48) (.t 50)) (2, 47, false) ::
    ow 52 (.bin .neq (.t 51) (.c (.d (.int .u8 59)))) (2, 47, false) [3, 6, 7, 8, 35, 36, 47, 52] [3] ::
    R_o3)
def g_law09_ShowRules.o2 : List AOper := g_law09_ShowRules.o2F g_law09_ShowRules.o3
def g_law09_ShowRules.c1 : ACode :=
  .cond (.t 53) (.seq (.region [2] (some []) none
     [oo 2 (.mv (.c (.d (.bool false))))])
  (.ret))
 (.skip)
def g_law09_ShowRules.c2 : ACode :=
  .region [3, 6, 7, 8, 35, 36] (some [3]) none
   [oo 54 (.bin .add (.t 36) (.c (.d (.int .i64 1)))),
    om 36 54]
def g_law09_ShowRules.l0F (R_o2 : List AOper) (R_c1 : ACode) (R_c2 : ACode) : ACode :=
  .loop [3, 6, 7, 8, 35, 36] (some [3]) (.seq (.region [3, 6, 7, 8, 35, 36, 37] (some [3]) none
    [oo 37 (.bin .lss (.t 36) (.t 35))])
 (.seq (.cond (.t 37) (.skip)
   (.exit 0))
  (.seq (.block 1 [3, 6, 7, 8, 35, 36] (some [3]) (.seq (.region [3, 6, 7, 8, 9, 35, 36] (some [3]) none
        [om 38 36,
         om 9 38])
     (.seq (.region [3, 6, 7, 8, 9, 35, 36, 42] (some [3]) none
         [om 39 6,
          om 40 9,
          oo 41 (.idx (.t 39) (.t 40)),
          oo 42 (.bin .eql (.t 41) (.c (.d (.int .u8 10))))])
      (.cond (.t 42) (.seq (.region [3, 6, 7, 8, 9, 35, 36] (some [3]) none
           [om 43 8,
            oo 44 (.bin .add (.t 43) (.c (.d (.int .i64 1)))),
            om 8 44])
        (.seq (.region [3, 6, 7, 8, 35, 36, 53] (some [3]) none
            (om 45 9 ::
             oo 46 (.bin .eql (.t 45) (.c (.d (.int .i64 0)))) ::
             oz 47 (.mv (.t 46)) [3, 6, 7, 8, 9, 35, 36, 47] [3] ::
             R_o2))
         (R_c1)))
       (.skip)))))
   (R_c2))))
def g_law09_ShowRules.l0 : ACode := g_law09_ShowRules.l0F g_law09_ShowRules.o2 g_law09_ShowRules.c1 g_law09_ShowRules.c2
def g_law09_ShowRules.o11 : List AOper :=
  [oo 78 (.pick (.t 76) (.t 77) (.c (.d (.bool false)))),
    om 2 78]
def g_law09_ShowRules.o10F (R_o11 : List AOper) : List AOper :=
  (ow 77 (.call 172 []) (21, 76, true) [76, 77] [] ::
    R_o11)
def g_law09_ShowRules.o10 : List AOper := g_law09_ShowRules.o10F g_law09_ShowRules.o11
def g_law09_ShowRules.o9F (R_o10 : List AOper) : List AOper :=
  (oo 75 (.pick (.t 64) (.t 74) (.c (.d (.bool false)))) ::
    oz 76 (.mv (.t 75)) [76] [] ::
    R_o10)
def g_law09_ShowRules.o9 : List AOper := g_law09_ShowRules.o9F g_law09_ShowRules.o10
def g_law09_ShowRules.o8F (R_o9 : List AOper) : List AOper :=
  (ow 74 (.pick (.t 67) (.c (.d (.bool true))) (.t 73)) (9, 64, true) [64, 74] [] ::
    R_o9)
def g_law09_ShowRules.o8 : List AOper := g_law09_ShowRules.o8F g_law09_ShowRules.o9
def g_law09_ShowRules.o7F (R_o8 : List AOper) : List AOper :=
  (og 68 (.mv (.t 6)) (12, 67, false) ::
    og 69 (.mv (.t 6)) (12, 67, false) ::
    og 70 (.lenS (.t 69)) (12, 67, false) ::
    og 71 (.bin .sub (.t 70) (.c (.d (.int .i64 1)))) (12, 67, false) ::
    og 72 (.idx (.t 68) (.t 71)) (12, 67, false) ::
    ow 73 (.bin .eql (.t 72) (.c (.d (.int .u8 10)))) (12, 67, false) [64, 67, 73] [] ::
    R_o8)
def g_law09_ShowRules.o7 : List AOper := g_law09_ShowRules.o7F g_law09_ShowRules.o8
def g_law09_ShowRules.o6F (R_o7 : List AOper) : List AOper :=
  (og 65 (.mv (.t 6)) (9, 64, true) ::
    og 66 (.bin .eql (.t 65) (.c (.d (.str [])))) (9, 64, true) ::
    ow 67 (.mv (.t 66)) (9, 64, true) [6, 64, 67] [] ::
    R_o7)
def g_law09_ShowRules.o6 : List AOper := g_law09_ShowRules.o6F g_law09_ShowRules.o7
def g_law09_ShowRules.o5F (R_o6 : List AOper) : List AOper :=
  (oo 63 (.pick (.t 57) (.t 62) (.c (.d (.bool false)))) ::
    oz 64 (.mv (.t 63)) [6, 64] [] ::
    R_o6)
def g_law09_ShowRules.o5 : List AOper := g_law09_ShowRules.o5F g_law09_ShowRules.o6
def g_law09_ShowRules.o4F (R_o5 : List AOper) : List AOper :=
  (og 58 (.mv (.t 8)) (2, 57, true) ::
    og 59 (.faddr 0 (.t 3)) (2, 57, true) ::
    og 60 (.load none (.t 59)) (2, 57, true) ::
    og 61 (.len (.t 60)) (2, 57, true) ::
    ow 62 (.bin .eql (.t 58) (.t 61)) (2, 57, true) [6, 57, 62] [] ::
    R_o5)
def g_law09_ShowRules.o4 : List AOper := g_law09_ShowRules.o4F g_law09_ShowRules.o5
def g_law09_ShowRules.c3 : ACode :=
  .ret
def g_law09_ShowRules.c4F (R_o4 : List AOper) (R_c3 : ACode) : ACode :=
  .seq (.region [2] (some []) none
    (om 55 7 ::
     oo 56 (.bin .eql (.t 55) (.c (.d (.int .i64 0)))) ::
     oz 57 (.mv (.t 56)) [3, 6, 8, 57] [3] ::
     R_o4))
 (R_c3)
def g_law09_ShowRules.c4 : ACode := g_law09_ShowRules.c4F g_law09_ShowRules.o4 g_law09_ShowRules.c3
def g_law09_ShowRules.c5F (R_l0 : ACode) (R_c4 : ACode) : ACode :=
  .seq (.region [3, 6, 7, 8] (some [3]) none
    [oo 8 (.mv (.c (.d (.int .i64 0))))])
 (.seq (.seq (.region [3, 6, 7, 8, 35, 36] (some [3]) none
      [om 34 6,
       oo 35 (.lenS (.t 34)),
       oo 36 (.mv (.c (.d (.int .i64 0))))])
   (.block 0 [3, 6, 7, 8] (some [3]) (R_l0)))
  (R_c4))
def g_law09_ShowRules.c5 : ACode := g_law09_ShowRules.c5F g_law09_ShowRules.l0 g_law09_ShowRules.c4
def g_law09_ShowRules.c6F (R_c5 : ACode) : ACode :=
  .seq (.region [3, 6, 7] (some [3]) none
    [oo 30 (.load (some 2) (.t 3)),
     oo 31 (.call 174 [(.t 30)]),
     om 29 31,
     oo 32 (.ext (.t 29) 0),
     oo 33 (.ext (.t 29) 1),
     om 6 32,
     om 7 33])
 (R_c5)
def g_law09_ShowRules.c6 : ACode := g_law09_ShowRules.c6F g_law09_ShowRules.c5
def g_law09_ShowRules.c7F (R_o0 : List AOper) (R_c0 : ACode) (R_c6 : ACode) : ACode :=
  .seq (.seq (.region [3, 21] (some [3]) none
     [om 20 5,
      oo 21 (.bin .neq (.t 20) (.c (.d (.int .i64 0))))])
  (.cond (.t 21) (.seq (.region [2] (some []) none
       (oo 22 (.faddr 0 (.t 3)) ::
        oo 23 (.load none (.t 22)) ::
        oo 24 (.len (.t 23)) ::
        oo 25 (.bin .eql (.t 24) (.c (.d (.int .i64 0)))) ::
        oz 26 (.mv (.t 25)) [26] [] ::
        R_o0))
    (R_c0))
   (.skip)))
 (R_c6)
def g_law09_ShowRules.c7 : ACode := g_law09_ShowRules.c7F g_law09_ShowRules.o0 g_law09_ShowRules.c0 g_law09_ShowRules.c6
def g_law09_ShowRules.c8F (R_c7 : ACode) : ACode :=
  .seq (.region [3, 5] (some [3]) none
    [om 15 0,
     oo 16 (.call 144 [(.t 15)]),
     om 14 16,
     oo 17 (.ext (.t 14) 0),
     oo 18 (.ext (.t 14) 1),
     oo 19 (.ext (.t 14) 2),
     oo 3 (.alloc 3 [.cap0, .cap0]),
     ⟨none, .store 2 (.t 3) (.t 17), [], [], none, none⟩,
     om 4 18,
     om 5 19])
 (R_c7)
def g_law09_ShowRules.c8 : ACode := g_law09_ShowRules.c8F g_law09_ShowRules.c7
def g_law09_ShowRules.codeF (R_c8 : ACode) : ACode :=
  .seq (.region [0] (some []) none
    [oo 2 (.mv (.c (.d (.bool false))))])
 (.seq (.seq (.region [0, 12] (some []) none
      [om 10 0,
       oo 11 (.lenS (.t 10)),
       oo 12 (.bin .gtr (.t 11) (.c (.d (.int .i64 500))))])
   (.cond (.t 12) (.seq (.region [2] (some []) none
        [oo 13 (.call 172 []),
         om 2 13])
     (.ret))
    (.skip)))
  (R_c8))
def g_law09_ShowRules.code : ACode := g_law09_ShowRules.codeF g_law09_ShowRules.c8
def g_law09_ShowRules : AFn := { N := 79, res := [.slot 2], own := [], frz := [], code := g_law09_ShowRules.code }

end Pay
