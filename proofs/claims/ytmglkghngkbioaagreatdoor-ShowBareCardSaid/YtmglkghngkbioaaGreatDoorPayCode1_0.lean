/- The program's functions as abstract code. -/
import Derived.Test.YtmglkghngkbioaaGreatDoorPayBa1
set_option maxRecDepth 20000
namespace Pay
def g_law09_ShowBare.o1 : List AOper :=
  [oo 30 (.pick (.t 28) (.t 29) (.c (.d (.bool false)))),
    om 2 30]
def g_law09_ShowBare.o0F (R_o1 : List AOper) : List AOper :=
  (ow 29 (.call 172 []) (4, 28, true) [28, 29] [] ::
    R_o1)
def g_law09_ShowBare.o0 : List AOper := g_law09_ShowBare.o0F g_law09_ShowBare.o1
def g_law09_ShowBare.c0 : ACode :=
  .ret
def g_law09_ShowBare.c1 : ACode :=
  .region [0, 6, 7, 8, 9, 37, 38] (some []) none
   [oo 47 (.bin .add (.t 38) (.c (.d (.int .i64 1)))),
    om 38 47]
def g_law09_ShowBare.l0F (R_c1 : ACode) : ACode :=
  .loop [0, 6, 7, 8, 9, 37, 38] (some []) (.seq (.region [0, 6, 7, 8, 9, 37, 38, 39] (some []) none
    [oo 39 (.bin .lss (.t 38) (.t 37))])
 (.seq (.cond (.t 39) (.skip)
   (.exit 0))
  (.seq (.block 1 [0, 6, 7, 8, 9, 37, 38] (some []) (.seq (.region [0, 6, 7, 8, 9, 10, 37, 38] (some []) none
        [om 40 38,
         om 10 40])
     (.seq (.region [0, 6, 7, 8, 9, 37, 38, 44] (some []) none
         [om 41 6,
          om 42 10,
          oo 43 (.idx (.t 41) (.t 42)),
          oo 44 (.bin .eql (.t 43) (.c (.d (.int .u8 40))))])
      (.cond (.t 44) (.region [0, 6, 7, 8, 9, 37, 38] (some []) none
          [om 45 8,
           oo 46 (.bin .add (.t 45) (.c (.d (.int .i64 1)))),
           om 8 46])
       (.skip)))))
   (R_c1))))
def g_law09_ShowBare.l0 : ACode := g_law09_ShowBare.l0F g_law09_ShowBare.c1
def g_law09_ShowBare.c2 : ACode :=
  .region [0, 7, 8, 9, 49, 50] (some []) none
   [oo 59 (.bin .add (.t 50) (.c (.d (.int .i64 1)))),
    om 50 59]
def g_law09_ShowBare.l1F (R_c2 : ACode) : ACode :=
  .loop [0, 7, 8, 9, 49, 50] (some []) (.seq (.region [0, 7, 8, 9, 49, 50, 51] (some []) none
    [oo 51 (.bin .lss (.t 50) (.t 49))])
 (.seq (.cond (.t 51) (.skip)
   (.exit 2))
  (.seq (.block 3 [0, 7, 8, 9, 49, 50] (some []) (.seq (.region [0, 7, 8, 9, 11, 49, 50] (some []) none
        [om 52 50,
         om 11 52])
     (.seq (.region [0, 7, 8, 9, 49, 50, 56] (some []) none
         [om 53 0,
          om 54 11,
          oo 55 (.idx (.t 53) (.t 54)),
          oo 56 (.bin .eql (.t 55) (.c (.d (.int .u8 40))))])
      (.cond (.t 56) (.region [0, 7, 8, 9, 49, 50] (some []) none
          [om 57 9,
           oo 58 (.bin .add (.t 57) (.c (.d (.int .i64 1)))),
           om 9 58])
       (.skip)))))
   (R_c2))))
def g_law09_ShowBare.l1 : ACode := g_law09_ShowBare.l1F g_law09_ShowBare.c2
def g_law09_ShowBare.o5 : List AOper :=
  [oo 69 (.pick (.t 67) (.t 68) (.c (.d (.bool false)))),
    om 2 69]
def g_law09_ShowBare.o4F (R_o5 : List AOper) : List AOper :=
  (ow 68 (.call 172 []) (7, 67, true) [67, 68] [] ::
    R_o5)
def g_law09_ShowBare.o4 : List AOper := g_law09_ShowBare.o4F g_law09_ShowBare.o5
def g_law09_ShowBare.o3F (R_o4 : List AOper) : List AOper :=
  (oo 66 (.pick (.t 62) (.t 65) (.c (.d (.bool false)))) ::
    oz 67 (.mv (.t 66)) [67] [] ::
    R_o4)
def g_law09_ShowBare.o3 : List AOper := g_law09_ShowBare.o3F g_law09_ShowBare.o4
def g_law09_ShowBare.o2F (R_o3 : List AOper) : List AOper :=
  (og 63 (.mv (.t 8)) (2, 62, true) ::
    og 64 (.mv (.t 9)) (2, 62, true) ::
    ow 65 (.bin .leq (.t 63) (.t 64)) (2, 62, true) [62, 65] [] ::
    R_o3)
def g_law09_ShowBare.o2 : List AOper := g_law09_ShowBare.o2F g_law09_ShowBare.o3
def g_law09_ShowBare.c3 : ACode :=
  .ret
def g_law09_ShowBare.c4F (R_o2 : List AOper) (R_c3 : ACode) : ACode :=
  .seq (.region [2] (some []) none
    (om 60 7 ::
     oo 61 (.bin .eql (.t 60) (.c (.d (.int .i64 0)))) ::
     oz 62 (.mv (.t 61)) [8, 9, 62] [] ::
     R_o2))
 (R_c3)
def g_law09_ShowBare.c4 : ACode := g_law09_ShowBare.c4F g_law09_ShowBare.o2 g_law09_ShowBare.c3
def g_law09_ShowBare.c5F (R_l1 : ACode) (R_c4 : ACode) : ACode :=
  .seq (.seq (.region [0, 7, 8, 9, 49, 50] (some []) none
     [om 48 0,
      oo 49 (.lenS (.t 48)),
      oo 50 (.mv (.c (.d (.int .i64 0))))])
  (.block 2 [7, 8, 9] (some []) (R_l1)))
 (R_c4)
def g_law09_ShowBare.c5 : ACode := g_law09_ShowBare.c5F g_law09_ShowBare.l1 g_law09_ShowBare.c4
def g_law09_ShowBare.c6F (R_l0 : ACode) (R_c5 : ACode) : ACode :=
  .seq (.region [0, 6, 7, 8, 9] (some []) none
    [oo 8 (.mv (.c (.d (.int .i64 0)))),
     oo 9 (.mv (.c (.d (.int .i64 0))))])
 (.seq (.seq (.region [0, 6, 7, 8, 9, 37, 38] (some []) none
      [om 36 6,
       oo 37 (.lenS (.t 36)),
       oo 38 (.mv (.c (.d (.int .i64 0))))])
   (.block 0 [0, 7, 8, 9] (some []) (R_l0)))
  (R_c5))
def g_law09_ShowBare.c6 : ACode := g_law09_ShowBare.c6F g_law09_ShowBare.l0 g_law09_ShowBare.c5
def g_law09_ShowBare.c7F (R_c6 : ACode) : ACode :=
  .seq (.region [0, 6, 7] (some []) none
    [oo 32 (.load (some 2) (.t 3)),
     oo 33 (.call 174 [(.t 32)]),
     om 31 33,
     oo 34 (.ext (.t 31) 0),
     oo 35 (.ext (.t 31) 1),
     om 6 34,
     om 7 35])
 (R_c6)
def g_law09_ShowBare.c7 : ACode := g_law09_ShowBare.c7F g_law09_ShowBare.c6
def g_law09_ShowBare.c8F (R_o0 : List AOper) (R_c0 : ACode) (R_c7 : ACode) : ACode :=
  .seq (.seq (.region [0, 3, 23] (some [3]) none
     [om 22 5,
      oo 23 (.bin .neq (.t 22) (.c (.d (.int .i64 0))))])
  (.cond (.t 23) (.seq (.region [2] (some []) none
       (oo 24 (.faddr 0 (.t 3)) ::
        oo 25 (.load none (.t 24)) ::
        oo 26 (.len (.t 25)) ::
        oo 27 (.bin .eql (.t 26) (.c (.d (.int .i64 0)))) ::
        oz 28 (.mv (.t 27)) [28] [] ::
        R_o0))
    (R_c0))
   (.skip)))
 (R_c7)
def g_law09_ShowBare.c8 : ACode := g_law09_ShowBare.c8F g_law09_ShowBare.o0 g_law09_ShowBare.c0 g_law09_ShowBare.c7
def g_law09_ShowBare.c9F (R_c8 : ACode) : ACode :=
  .seq (.region [0, 3, 5] (some [3]) none
    [om 17 0,
     oo 18 (.call 144 [(.t 17)]),
     om 16 18,
     oo 19 (.ext (.t 16) 0),
     oo 20 (.ext (.t 16) 1),
     oo 21 (.ext (.t 16) 2),
     oo 3 (.alloc 3 [.cap0, .cap0]),
     ⟨none, .store 2 (.t 3) (.t 19), [], [], none, none⟩,
     om 4 20,
     om 5 21])
 (R_c8)
def g_law09_ShowBare.c9 : ACode := g_law09_ShowBare.c9F g_law09_ShowBare.c8
def g_law09_ShowBare.codeF (R_c9 : ACode) : ACode :=
  .seq (.region [0] (some []) none
    [oo 2 (.mv (.c (.d (.bool false))))])
 (.seq (.seq (.region [0, 14] (some []) none
      [om 12 0,
       oo 13 (.lenS (.t 12)),
       oo 14 (.bin .gtr (.t 13) (.c (.d (.int .i64 300))))])
   (.cond (.t 14) (.seq (.region [2] (some []) none
        [oo 15 (.call 172 []),
         om 2 15])
     (.ret))
    (.skip)))
  (R_c9))
def g_law09_ShowBare.code : ACode := g_law09_ShowBare.codeF g_law09_ShowBare.c9
def g_law09_ShowBare : AFn := { N := 70, res := [.slot 2], own := [], frz := [], code := g_law09_ShowBare.code }
end Pay
