/- The program's functions as abstract code. -/
import Derived.Test.YtmglkghngkbioaaGreatDoorPayBa1
set_option maxRecDepth 20000
namespace Pay
def g_law09_ShowTells.o1:List AOper :=
 [oo 37 (.pick (.t 35) (.t 36) (.c (.d (.bool false)))),
 om 4 37]
def g_law09_ShowTells.o0:List AOper :=
 (ow 36 (.call 172 []) (2,35,true) [35,36] [] ::
 g_law09_ShowTells.o1)
def g_law09_ShowTells.c0:ACode :=
 .ret
def g_law09_ShowTells.o5:List AOper :=
 [oo 60 (.pick (.t 57) (.c (.d (.bool true))) (.t 59))]
def g_law09_ShowTells.o4:List AOper :=
 (og 58 (.mv (.t 12)) (8,57,false) ::
 ow 59 (.bin .neq (.t 58) (.c (.d (.int .i64 0)))) (8,57,false) [1,8,13,14,57,59] [8] ::
 g_law09_ShowTells.o5)
def g_law09_ShowTells.o3:List AOper :=
 (oo 56 (.pick (.t 51) (.c (.d (.bool true))) (.t 55)) ::
 oz 57 (.mv (.t 56)) [1,8,12,13,14,57] [8] ::
 g_law09_ShowTells.o4)
def g_law09_ShowTells.o2:List AOper :=
 (og 52 (.mv (.t 11)) (2,51,false) ::
 og 53 (.load (some 2) (.t 8)) (2,51,false) ::
 og 54 (.call 176 [(.t 53)]) (2,51,false) ::
 ow 55 (.bin .neq (.t 52) (.t 54)) (2,51,false) [1,8,12,13,14,51,55] [8] ::
 g_law09_ShowTells.o3)
def g_law09_ShowTells.c1:ACode :=
 .cond (.t 60) (.seq (.region [4] (some []) none
 [oo 4 (.mv (.c (.d (.bool false))))])
 (.ret))
 (.skip)
def g_law09_ShowTells.o7:List AOper :=
 [oo 69 (.pick (.t 63) (.c (.d (.bool true))) (.t 68))]
def g_law09_ShowTells.o6:List AOper :=
 (og 64 (.mv (.t 1)) (2,63,false) ::
 og 65 (.faddr 1 (.t 8)) (2,63,false) ::
 og 66 (.load none (.t 65)) (2,63,false) ::
 og 67 (.len (.t 66)) (2,63,false) ::
 ow 68 (.bin .geq (.t 64) (.t 67)) (2,63,false) [1,8,13,14,63,68] [8] ::
 g_law09_ShowTells.o7)
def g_law09_ShowTells.o11:List AOper :=
 [oo 78 (.pick (.t 76) (.t 77) (.c (.d (.bool false)))),
 om 4 78]
def g_law09_ShowTells.o10:List AOper :=
 (ow 77 (.call 172 []) (6,76,true) [76,77] [] ::
 g_law09_ShowTells.o11)
def g_law09_ShowTells.o9:List AOper :=
 (oo 75 (.pick (.t 72) (.t 74) (.c (.d (.bool false)))) ::
 oz 76 (.mv (.t 75)) [76] [] ::
 g_law09_ShowTells.o10)
def g_law09_ShowTells.o8:List AOper :=
 (og 73 (.mv (.t 14)) (2,72,true) ::
 ow 74 (.bin .eql (.t 73) (.c (.d (.int .i64 1)))) (2,72,true) [72,74] [] ::
 g_law09_ShowTells.o9)
def g_law09_ShowTells.c2:ACode :=
 .ret
def g_law09_ShowTells.c3:ACode :=
 .cond (.t 69) (.seq (.region [4] (some []) none
 (om 70 13 ::
 oo 71 (.bin .eql (.t 70) (.c (.d (.str [])))) ::
 oz 72 (.mv (.t 71)) [14,72] [] ::
 g_law09_ShowTells.o8))
 (g_law09_ShowTells.c2))
 (.skip)
def g_law09_ShowTells.o15:List AOper :=
 [oo 92 (.pick (.t 90) (.t 91) (.c (.d (.bool false)))),
 om 4 92]
def g_law09_ShowTells.o14:List AOper :=
 (ow 91 (.call 172 []) (11,90,true) [90,91] [] ::
 g_law09_ShowTells.o15)
def g_law09_ShowTells.o13:List AOper :=
 (oo 89 (.pick (.t 86) (.t 88) (.c (.d (.bool false)))) ::
 oz 90 (.mv (.t 89)) [90] [] ::
 g_law09_ShowTells.o14)
def g_law09_ShowTells.o12:List AOper :=
 (og 87 (.mv (.t 14)) (7,86,true) ::
 ow 88 (.bin .eql (.t 87) (.c (.d (.int .i64 0)))) (7,86,true) [86,88] [] ::
 g_law09_ShowTells.o13)
def g_law09_ShowTells.c4:ACode :=
 .ret
def g_law09_ShowTells.c5:ACode :=
 .seq (.region [4] (some []) none
 (om 79 13 ::
 oo 80 (.load (some 2) (.t 8)) ::
 oo 81 (.call 177 [(.t 80)]) ::
 om 82 1 ::
 oo 83 (.iaddr 1 (.t 81) (.t 82)) ::
 oo 84 (.load none (.t 83)) ::
 oo 85 (.bin .eql (.t 79) (.t 84)) ::
 oz 86 (.mv (.t 85)) [14,86] [] ::
 g_law09_ShowTells.o12))
 (g_law09_ShowTells.c4)
def g_law09_ShowTells.c6:ACode :=
 .seq (.seq (.region [1,8,13,14,69] (some [8]) none
 (om 61 1 ::
 oo 62 (.bin .lss (.t 61) (.c (.d (.int .i64 0)))) ::
 oz 63 (.mv (.t 62)) [1,8,13,14,63] [8] ::
 g_law09_ShowTells.o6))
 (g_law09_ShowTells.c3))
 (g_law09_ShowTells.c5)
def g_law09_ShowTells.c7:ACode :=
 .seq (.seq (.region [1,8,13,14,60] (some [8]) none
 (om 49 7 ::
 oo 50 (.bin .neq (.t 49) (.c (.d (.int .i64 0)))) ::
 oz 51 (.mv (.t 50)) [1,8,11,12,13,14,51] [8] ::
 g_law09_ShowTells.o2))
 (g_law09_ShowTells.c1))
 (g_law09_ShowTells.c6)
def g_law09_ShowTells.c8:ACode :=
 .seq (.region [1,7,8,11,12,13,14] (some [8]) none
 [oo 44 (.load (some 2) (.t 5)),
 om 45 1,
 oo 46 (.call 175 [(.t 44),(.t 45)]),
 om 43 46,
 oo 47 (.ext (.t 43) 0),
 oo 48 (.ext (.t 43) 1),
 om 13 47,
 om 14 48])
 (g_law09_ShowTells.c7)
def g_law09_ShowTells.c9:ACode :=
 .seq (.region [1,5,7,8,11,12] (some [5,8]) none
 [oo 39 (.load (some 2) (.t 5)),
 oo 40 (.call 174 [(.t 39)]),
 om 38 40,
 oo 41 (.ext (.t 38) 0),
 oo 42 (.ext (.t 38) 1),
 om 11 41,
 om 12 42])
 (g_law09_ShowTells.c8)
def g_law09_ShowTells.c10:ACode :=
 .seq (.seq (.region [1,5,7,8,32] (some [5,8]) none
 [om 31 10,
 oo 32 (.bin .neq (.t 31) (.c (.d (.int .i64 0))))])
 (.cond (.t 32) (.seq (.region [4] (some []) none
 (om 33 7 ::
 oo 34 (.bin .neq (.t 33) (.c (.d (.int .i64 0)))) ::
 oz 35 (.mv (.t 34)) [35] [] ::
 g_law09_ShowTells.o0))
 (g_law09_ShowTells.c0))
 (.skip)))
 (g_law09_ShowTells.c9)
def g_law09_ShowTells.c11:ACode :=
 .seq (.region [1,5,7,8,10] (some [5,8]) none
 [om 26 0,
 oo 27 (.call 173 [(.t 26)]),
 om 25 27,
 oo 28 (.ext (.t 25) 0),
 oo 29 (.ext (.t 25) 1),
 oo 30 (.ext (.t 25) 2),
 oo 8 (.alloc 8 [.cap0,.cap0]),
 ⟨none,.store 2 (.t 8) (.t 28),[],[],none,none⟩,
 om 9 29,
 om 10 30])
 (g_law09_ShowTells.c10)
def g_law09_ShowTells.c12:ACode :=
 .seq (.region [0,1,5,7] (some [5]) none
 [om 20 0,
 oo 21 (.call 144 [(.t 20)]),
 om 19 21,
 oo 22 (.ext (.t 19) 0),
 oo 23 (.ext (.t 19) 1),
 oo 24 (.ext (.t 19) 2),
 oo 5 (.alloc 5 [.cap0,.cap0]),
 ⟨none,.store 2 (.t 5) (.t 22),[],[],none,none⟩,
 om 6 23,
 om 7 24])
 (g_law09_ShowTells.c11)
def g_law09_ShowTells.code:ACode :=
 .seq (.region [0,1] (some []) none
 [oo 4 (.mv (.c (.d (.bool false))))])
 (.seq (.seq (.region [0,1,17] (some []) none
 [om 15 0,
 oo 16 (.lenS (.t 15)),
 oo 17 (.bin .gtr (.t 16) (.c (.d (.int .i64 500))))])
 (.cond (.t 17) (.seq (.region [4] (some []) none
 [oo 18 (.call 172 []),
 om 4 18])
 (.ret))
 (.skip)))
 (g_law09_ShowTells.c12))
def g_law09_ShowTells:AFn:={ N:=93,res:=[.slot 4],own:=[],frz:=[],code:=g_law09_ShowTells.code }
def g_law09_awake.o7:List AOper :=
 [oo 49 (.pick (.t 46) (.t 48) (.c (.d (.bool false)))),
 om 0 49]
def g_law09_awake.o6:List AOper :=
 (og 47 (.mv (.t 9)) (14,46,true) ::
 ow 48 (.bin .eql (.t 47) (.c (.d (.int .i64 0)))) (14,46,true) [46,48] [] ::
 g_law09_awake.o7)
def g_law09_awake.o5:List AOper :=
 (oo 45 (.pick (.t 42) (.t 44) (.c (.d (.bool false)))) ::
 oz 46 (.mv (.t 45)) [9,46] [] ::
 g_law09_awake.o6)
def g_law09_awake.o4:List AOper :=
 (og 43 (.mv (.t 8)) (10,42,true) ::
 ow 44 (.bin .eql (.t 43) (.c (.d (.str [49,32,43,32,50])))) (10,42,true) [9,42,44] [] ::
 g_law09_awake.o5)
def g_law09_awake.o3:List AOper :=
 (oo 41 (.pick (.t 38) (.t 40) (.c (.d (.bool false)))) ::
 oz 42 (.mv (.t 41)) [8,9,42] [] ::
 g_law09_awake.o4)
def g_law09_awake.o2:List AOper :=
 (og 39 (.mv (.t 7)) (6,38,true) ::
 ow 40 (.bin .eql (.t 39) (.c (.d (.int .i64 1)))) (6,38,true) [8,9,38,40] [] ::
 g_law09_awake.o3)
def g_law09_awake.o1:List AOper :=
 (oo 37 (.pick (.t 34) (.t 36) (.c (.d (.bool false)))) ::
 oz 38 (.mv (.t 37)) [7,8,9,38] [] ::
 g_law09_awake.o2)
def g_law09_awake.o0:List AOper :=
 (og 35 (.mv (.t 5)) (2,34,true) ::
 ow 36 (.bin .eql (.t 35) (.c (.d (.int .i64 0)))) (2,34,true) [7,8,9,34,36] [] ::
 g_law09_awake.o1)
def g_law09_awake.c0:ACode :=
 .ret
def g_law09_awake.c1:ACode :=
 .seq (.region [0] (some []) none
 (om 32 4 ::
 oo 33 (.bin .eql (.t 32) (.c (.d (.str [108,101,116,32,97,32,61,32,40,49,32,43,32,50,41,32,42,32,98,59,10])))) ::
 oz 34 (.mv (.t 33)) [5,7,8,9,34] [] ::
 g_law09_awake.o0))
 (g_law09_awake.c0)
def g_law09_awake.c2:ACode :=
 .seq (.region [4,5,7,8,9] (some []) none
 [oo 28 (.load (some 2) (.t 1)),
 oo 29 (.call 175 [(.t 28),(.c (.d (.int .i64 2)))]),
 om 27 29,
 oo 30 (.ext (.t 27) 0),
 oo 31 (.ext (.t 27) 1),
 om 8 30,
 om 9 31])
 (g_law09_awake.c1)
def g_law09_awake.c3:ACode :=
 .seq (.region [1,4,5,7] (some [1]) none
 [oo 21 (.build [.d (.str []),.d (.str []),.d (.int .i64 0)] []),
 oo 22 (.bsl none 3 [] 1 [(0,(.t 21))]),
 oo 23 (.build [.cap0,.cap0] [(0,1,(.t 22))]),
 oo 24 (.call 174 [(.t 23)]),
 om 20 24,
 oo 25 (.ext (.t 20) 0),
 oo 26 (.ext (.t 20) 1),
 om 6 25,
 om 7 26])
 (g_law09_awake.c2)
def g_law09_awake.c4:ACode :=
 .seq (.region [1,4,5] (some [1]) none
 [oo 16 (.load (some 2) (.t 1)),
 oo 17 (.call 174 [(.t 16)]),
 om 15 17,
 oo 18 (.ext (.t 15) 0),
 oo 19 (.ext (.t 15) 1),
 om 4 18,
 om 5 19])
 (g_law09_awake.c3)
def g_law09_awake.code:ACode :=
 .seq (.region [] (some []) none
 [oo 0 (.mv (.c (.d (.bool false))))])
 (.seq (.region [1] (some [1]) none
 [oo 11 (.call 144 [(.c (.d (.str [108,101,116,32,97,61,40,49,43,50,41,42,98,59])))]),
 om 10 11,
 oo 12 (.ext (.t 10) 0),
 oo 13 (.ext (.t 10) 1),
 oo 14 (.ext (.t 10) 2),
 oo 1 (.alloc 1 [.cap0,.cap0]),
 ⟨none,.store 2 (.t 1) (.t 12),[],[],none,none⟩,
 om 2 13,
 om 3 14])
 (g_law09_awake.c4))
def g_law09_awake:AFn:={ N:=50,res:=[.slot 0],own:=[],frz:=[],code:=g_law09_awake.code }
def g_tree_Parse.o1:List AOper :=
 [oo 38 (.pick (.t 32) (.t 37) (.c (.d (.bool false))))]
def g_tree_Parse.o0:List AOper :=
 (og 33 (.mv (.t 8)) (7,32,true) ::
 og 34 (.nilc (.t 33)) (7,32,true) ::
 og 35 (.faddr 5 (.t 34)) (7,32,true) ::
 og 36 (.load none (.t 35)) (7,32,true) ::
 ⟨some 37,.bin .eql (.t 36) (.c (.d (.int .i64 0))),[],[],(some (7,32,true)),(some ([2,5,8,32,37],none))⟩ ::
 g_tree_Parse.o1)
def g_tree_Parse.c0:ACode :=
 .cond (.t 38) (.skip)
 (.exit 0)
def g_tree_Parse.c1:ACode :=
 .block 1 [2,5,8] none (.region [2,5,8] none none
 [om 39 8,
 oo 40 (.call 153 [(.t 39)])])
def g_tree_Parse.l0:ACode :=
 .loop [2,5,8] none (.seq (.seq (.region [2,5,8,38] none none
 (om 25 8 ::
 oo 26 (.nilc (.t 25)) ::
 oo 27 (.faddr 2 (.t 26)) ::
 oo 28 (.load none (.t 27)) ::
 om 29 5 ::
 oo 30 (.len (.t 29)) ::
 oo 31 (.bin .lss (.t 28) (.t 30)) ::
 ⟨some 32,.mv (.t 31),[],[],none,(some ([2,5,8,32],none))⟩ ::
 g_tree_Parse.o0))
 (g_tree_Parse.c0))
 (g_tree_Parse.c1))
def g_tree_Parse.c2:ACode :=
 .seq (.region [2,3,4] none none
 [om 55 8,
 oo 56 (.nilc (.t 55)),
 oo 57 (.faddr 3 (.t 56)),
 oo 58 (.load (some 2) (.t 57)),
 ⟨none,.store 2 (.t 2) (.t 58),[],[],none,none⟩,
 oo 3 (.mv (.c (.d (.int .i64 0)))),
 oo 4 (.mv (.c (.d (.int .i64 0))))])
 (.ret)
def g_tree_Parse.c3F (R_c2:ACode):ACode :=
 .seq (.seq (.region [2,8,45] none none
 [om 41 8,
 oo 42 (.nilc (.t 41)),
 oo 43 (.faddr 5 (.t 42)),
 oo 44 (.load none (.t 43)),
 oo 45 (.bin .neq (.t 44) (.c (.d (.int .i64 0))))])
 (.cond (.t 45) (.seq (.region [2,3,4] none (some ([0,1,2,3,1004,5,6,7,1008],.one 9 (.one 10 (.one 11 (.done)))))
 [oo 46 (.build [.cap0,.cap0] []),
 om 47 8,
 ⟨some 48,.nilc (.t 47),[],[1],none,none⟩,
 ⟨some 49,.faddr 6 (.t 48),[],[2],none,none⟩,
 ⟨some 50,.load none (.t 49),[],[3],none,none⟩,
 om 51 8,
 ⟨some 52,.nilc (.t 51),[],[5],none,none⟩,
 ⟨some 53,.faddr 5 (.t 52),[],[6],none,none⟩,
 ⟨some 54,.load none (.t 53),[],[7],none,none⟩,
 ⟨none,.store 2 (.t 2) (.t 46),[],[0,0],none,none⟩,
 ⟨some 3,.mv (.t 50),[],[4,9,0,1,2,3,4,9],none,none⟩,
 ⟨some 4,.mv (.t 54),[],[8,10,0,1,2,3,4,5,6,7,8,9,10],none,none⟩])
 (.ret))
 (.skip)))
 (R_c2)
def g_tree_Parse.c3:ACode:=g_tree_Parse.c3F g_tree_Parse.c2
def g_tree_Parse.c4:ACode :=
 .seq (.block 0 [2,8] none (g_tree_Parse.l0))
 (g_tree_Parse.c3)
def g_tree_Parse.c5:ACode :=
 .seq (.region [2,5,8] none none
 [om 20 5,
 om 21 0,
 oo 22 (.lenS (.t 21)),
 oo 23 (.build [.cap0,.d (.int .i64 0),.d (.int .i64 0),.cap0,.cap0,.d (.int .i64 0),.d (.int .i64 0)] [(0,1,(.t 20)),(1,1,(.t 22))]),
 oo 24 (.box 24 7 (.t 23)),
 om 8 24])
 (g_tree_Parse.c4)
def g_tree_Parse.c6:ACode :=
 .seq (.seq (.region [0,2,5,6,7,16] none none
 [om 15 7,
 oo 16 (.bin .neq (.t 15) (.c (.d (.int .i64 0))))])
 (.cond (.t 16) (.seq (.region [2,3,4] none none
 [oo 17 (.build [.cap0,.cap0] []),
 om 18 6,
 om 19 7,
 ⟨none,.store 2 (.t 2) (.t 17),[],[],none,none⟩,
 om 3 18,
 om 4 19])
 (.ret))
 (.skip)))
 (g_tree_Parse.c5)
def g_tree_Parse.code:ACode :=
 .seq (.region [0,2] none none
 [oo 2 (.alloc 2 [.cap0,.cap0]),
 oo 3 (.mv (.c (.d (.int .i64 0)))),
 oo 4 (.mv (.c (.d (.int .i64 0))))])
 (.seq (.region [0,2,5,6,7] none none
 [om 10 0,
 oo 11 (.call 74 [(.t 10)]),
 om 9 11,
 oo 12 (.ext (.t 9) 0),
 oo 13 (.ext (.t 9) 1),
 oo 14 (.ext (.t 9) 2),
 om 5 12,
 om 6 13,
 om 7 14])
 (g_tree_Parse.c6))
def g_tree_Parse:AFn:={ N:=59,res:=[.cell 2 (some 2),.slot 3,.slot 4],own:=[],frz:=[2],code:=g_tree_Parse.code }
def g_ref08_Parse.o1:List AOper :=
 [oo 34 (.pick (.t 30) (.t 33) (.c (.d (.bool false))))]
def g_ref08_Parse.o0:List AOper :=
 (og 31 (.faddr 5 (.t 7)) (5,30,true) ::
 og 32 (.load none (.t 31)) (5,30,true) ::
 ow 33 (.bin .eql (.t 32) (.c (.d (.int .i64 0)))) (5,30,true) [2,5,7,30,33] [2,7,108] ::
 g_ref08_Parse.o1)
def g_ref08_Parse.c0:ACode :=
 .cond (.t 34) (.skip)
 (.exit 0)
def g_ref08_Parse.o5:List AOper :=
 [oo 79 (.pick (.t 71) (.c (.d (.bool true))) (.t 78))]
def g_ref08_Parse.o4:List AOper :=
 (og 72 (.mv (.t 5)) (14,71,false) ::
 og 73 (.faddr 2 (.t 7)) (14,71,false) ::
 og 74 (.load none (.t 73)) (14,71,false) ::
 og 75 (.iaddr 3 (.t 72) (.t 74)) (14,71,false) ::
 og 76 (.faddr 1 (.t 75)) (14,71,false) ::
 og 77 (.load none (.t 76)) (14,71,false) ::
 ow 78 (.call 152 [(.t 77)]) (14,71,false) [2,5,7,8,71,78] [2,7,108] ::
 g_ref08_Parse.o5)
def g_ref08_Parse.o3:List AOper :=
 (oo 70 (.pick (.t 62) (.c (.d (.bool true))) (.t 69)) ::
 oz 71 (.mv (.t 70)) [2,5,7,8,71] [2,7,108] ::
 g_ref08_Parse.o4)
def g_ref08_Parse.o2:List AOper :=
 (og 63 (.mv (.t 5)) (5,62,false) ::
 og 64 (.faddr 2 (.t 7)) (5,62,false) ::
 og 65 (.load none (.t 64)) (5,62,false) ::
 og 66 (.iaddr 3 (.t 63) (.t 65)) (5,62,false) ::
 og 67 (.faddr 0 (.t 66)) (5,62,false) ::
 og 68 (.load none (.t 67)) (5,62,false) ::
 ow 69 (.bin .neq (.t 68) (.c (.d (.int .i64 1)))) (5,62,false) [2,5,7,8,62,69] [2,7,108] ::
 g_ref08_Parse.o3)
def g_ref08_Parse.c1:ACode :=
 .cond (.t 79) (.seq (.region [2,7] (some [2,7,108]) none
 [oo 80 (.load (some 7) (.t 7)),
 oo 81 (.call 194 [(.t 80),(.c (.d (.int .i64 2)))]),
 ⟨none,.store 7 (.t 7) (.t 81),[],[],none,none⟩])
 (.exit 0))
 (.skip)
def g_ref08_Parse.c2:ACode :=
 .seq (.region [2,5,7,8,9,11] (some [2,7,108]) none
 [oo 98 (.load (some 7) (.t 10)),
 oo 99 (.call 195 [(.t 98),(.c (.d (.str [59])))]),
 ⟨none,.store 7 (.t 7) (.t 99),[],[],none,none⟩])
 (.region [2,5,7] (some [2,7,108]) none
 [oo 100 (.faddr 3 (.t 7)),
 oo 101 (.faddr 0 (.t 100)),
 oo 102 (.load none (.t 101)),
 om 103 8,
 om 104 9,
 om 105 11,
 oo 106 (.build [.d (.str []),.d (.str []),.d (.int .i64 0)] [(0,1,(.t 103)),(1,1,(.t 104)),(2,1,(.t 105))]),
 oo 107 (.bsl none 3 [] 1 [(0,(.t 106))]),
 oo 108 (.app (some 108) 3 40 (.t 102) (.t 107)),
 oo 109 (.faddr 3 (.t 7)),
 oo 110 (.faddr 0 (.t 109)),
 ⟨none,.store 1 (.t 110) (.t 108),[],[],none,none⟩])
def g_ref08_Parse.c3:ACode :=
 .seq (.region [2,5,7,8,9,10,11] (some [2,7,10,108]) none
 [oo 93 (.load (some 7) (.t 7)),
 oo 94 (.call 195 [(.t 93),(.c (.d (.str [61])))]),
 oo 95 (.call 196 [(.t 94),(.c (.d (.int .i64 1)))]),
 om 92 95,
 oo 96 (.ext (.t 92) 0),
 oo 97 (.ext (.t 92) 1),
 oo 10 (.alloc 10 [.cap0,.d (.int .i64 0),.d (.int .i64 0),.cap0,.cap0,.d (.int .i64 0),.d (.int .i64 0)]),
 ⟨none,.store 7 (.t 10) (.t 96),[],[],none,none⟩,
 om 11 97])
 (g_ref08_Parse.c2)
def g_ref08_Parse.c4:ACode :=
 .seq (.region [2,5,7,8,9] (some [2,7,108]) none
 [oo 88 (.faddr 2 (.t 7)),
 oo 89 (.load none (.t 88)),
 oo 90 (.bin .add (.t 89) (.c (.d (.int .i64 1)))),
 oo 91 (.faddr 2 (.t 7)),
 ⟨none,.store 1 (.t 91) (.t 90),[],[],none,none⟩])
 (g_ref08_Parse.c3)
def g_ref08_Parse.c5:ACode :=
 .seq (.region [2,5,7,8,9] (some [2,7,108]) none
 [om 82 5,
 oo 83 (.faddr 2 (.t 7)),
 oo 84 (.load none (.t 83)),
 oo 85 (.iaddr 3 (.t 82) (.t 84)),
 oo 86 (.faddr 1 (.t 85)),
 oo 87 (.load none (.t 86)),
 om 9 87])
 (g_ref08_Parse.c4)
def g_ref08_Parse.c6:ACode :=
 .seq (.seq (.region [2,5,7,8,79] (some [2,7,108]) none
 (oo 57 (.faddr 2 (.t 7)) ::
 oo 58 (.load none (.t 57)) ::
 om 59 5 ::
 oo 60 (.len (.t 59)) ::
 oo 61 (.bin .geq (.t 58) (.t 60)) ::
 oz 62 (.mv (.t 61)) [2,5,7,8,62] [2,7,108] ::
 g_ref08_Parse.o2))
 (g_ref08_Parse.c1))
 (g_ref08_Parse.c5)
def g_ref08_Parse.c7:ACode :=
 .seq (.seq (.region [2,5,7,8,52] (some [2,7,108]) none
 [oo 50 (.faddr 5 (.t 7)),
 oo 51 (.load none (.t 50)),
 oo 52 (.bin .neq (.t 51) (.c (.d (.int .i64 0))))])
 (.cond (.t 52) (.exit 0)
 (.skip)))
 (.seq (.region [2,5,7,8] (some [2,7,108]) none
 [oo 53 (.faddr 2 (.t 7)),
 oo 54 (.load none (.t 53)),
 oo 55 (.bin .add (.t 54) (.c (.d (.int .i64 1)))),
 oo 56 (.faddr 2 (.t 7)),
 ⟨none,.store 1 (.t 56) (.t 55),[],[],none,none⟩])
 (g_ref08_Parse.c6))
def g_ref08_Parse.c8:ACode :=
 .block 1 [2,5,7] (some [2,7,108]) (.seq (.region [2,5,7,8] (some [2,7,108]) none
 [oo 35 (.load (some 7) (.t 7)),
 oo 36 (.call 193 [(.t 35)]),
 om 8 36])
 (.seq (.seq (.region [2,5,7,8,40] (some [2,7,108]) none
 [om 37 8,
 oo 38 (.bsl none 1 [] 4 [(0,(.c (.d (.str [101,97,114,110])))),(1,(.c (.d (.str [112,114,101,116,97,120])))),(2,(.c (.d (.str [112,111,115,116])))),(3,(.c (.d (.str [108,101,116]))))]),
 oo 39 (.call 154 [(.t 37),(.t 38)]),
 oo 40 (.un .not (.t 39))])
 (.cond (.t 40) (.region [2,5,7,8] (some [2,7,108]) none
 [oo 41 (.load (some 7) (.t 7)),
 oo 42 (.call 194 [(.t 41),(.c (.d (.int .i64 2)))]),
 ⟨none,.store 7 (.t 7) (.t 42),[],[],none,none⟩])
 (.seq (.region [2,5,7,8,47] (some [2,7,108]) none
 [oo 43 (.faddr 3 (.t 7)),
 oo 44 (.faddr 0 (.t 43)),
 oo 45 (.load none (.t 44)),
 oo 46 (.len (.t 45)),
 oo 47 (.bin .gtr (.t 46) (.c (.d (.int .i64 59))))])
 (.cond (.t 47) (.region [2,5,7,8] (some [2,7,108]) none
 [oo 48 (.load (some 7) (.t 7)),
 oo 49 (.call 194 [(.t 48),(.c (.d (.int .i64 9)))]),
 ⟨none,.store 7 (.t 7) (.t 49),[],[],none,none⟩])
 (.skip)))))
 (g_ref08_Parse.c7)))
def g_ref08_Parse.l0:ACode :=
 .loop [2,5,7] (some [2,7,108]) (.seq (.seq (.region [2,5,7,34] (some [2,7,108]) none
 (oo 25 (.faddr 2 (.t 7)) ::
 oo 26 (.load none (.t 25)) ::
 om 27 5 ::
 oo 28 (.len (.t 27)) ::
 oo 29 (.bin .lss (.t 26) (.t 28)) ::
 oz 30 (.mv (.t 29)) [2,5,7,30] [2,7,108] ::
 g_ref08_Parse.o0))
 (g_ref08_Parse.c0))
 (g_ref08_Parse.c8))
def g_ref08_Parse.c9:ACode :=
 .seq (.region [2,3,4] (some [2,108]) none
 [oo 119 (.faddr 3 (.t 7)),
 oo 120 (.load (some 2) (.t 119)),
 ⟨none,.store 2 (.t 2) (.t 120),[],[],none,none⟩,
 oo 3 (.mv (.c (.d (.int .i64 0)))),
 oo 4 (.mv (.c (.d (.int .i64 0))))])
 (.ret)
def g_ref08_Parse.c10F (R_c9:ACode):ACode :=
 .seq (.seq (.region [2,7,113] (some [2,7,108]) none
 [oo 111 (.faddr 5 (.t 7)),
 oo 112 (.load none (.t 111)),
 oo 113 (.bin .neq (.t 112) (.c (.d (.int .i64 0))))])
 (.cond (.t 113) (.seq (.region [2,3,4] (some [2,108]) (some ([0,1,1002,3,1004],.one 5 (.one 6 (.one 7 (.done)))))
 [oo 114 (.build [.cap0,.cap0] []),
 oo 115 (.faddr 6 (.t 7)),
 ⟨some 116,.load none (.t 115),[],[1],none,none⟩,
 oo 117 (.faddr 5 (.t 7)),
 ⟨some 118,.load none (.t 117),[],[3],none,none⟩,
 ⟨none,.store 2 (.t 2) (.t 114),[],[0,0],none,none⟩,
 ⟨some 3,.mv (.t 116),[],[2,5,0,1,2,5],none,none⟩,
 ⟨some 4,.mv (.t 118),[],[4,6,0,1,2,3,4,5,6],none,none⟩])
 (.ret))
 (.skip)))
 (R_c9)
def g_ref08_Parse.c10:ACode:=g_ref08_Parse.c10F g_ref08_Parse.c9
def g_ref08_Parse.c11:ACode :=
 .seq (.block 0 [2,7] (some [2,7,108]) (g_ref08_Parse.l0))
 (g_ref08_Parse.c10)
def g_ref08_Parse.c12:ACode :=
 .seq (.region [2,5,7] (some [2,7,108]) none
 [om 21 5,
 om 22 0,
 oo 23 (.lenS (.t 22)),
 oo 24 (.build [.cap0,.d (.int .i64 0),.d (.int .i64 0),.cap0,.cap0,.d (.int .i64 0),.d (.int .i64 0)] [(0,1,(.t 21)),(1,1,(.t 23))]),
 oo 7 (.alloc 7 [.cap0,.d (.int .i64 0),.d (.int .i64 0),.cap0,.cap0,.d (.int .i64 0),.d (.int .i64 0)]),
 ⟨none,.store 7 (.t 7) (.t 24),[],[],none,none⟩])
 (g_ref08_Parse.c11)
def g_ref08_Parse.c13:ACode :=
 .seq (.seq (.region [0,2,5,6,18] (some [2,108]) none
 [om 17 6,
 oo 18 (.bin .geq (.t 17) (.c (.d (.int .i64 0))))])
 (.cond (.t 18) (.seq (.region [2,3,4] (some [2,108]) none
 [oo 19 (.build [.cap0,.cap0] []),
 om 20 6,
 ⟨none,.store 2 (.t 2) (.t 19),[],[],none,none⟩,
 om 3 20,
 oo 4 (.mv (.c (.d (.int .i64 2))))])
 (.ret))
 (.skip)))
 (g_ref08_Parse.c12)
def g_ref08_Parse.code:ACode :=
 .seq (.region [0,2] (some [2,108]) none
 [oo 2 (.alloc 2 [.cap0,.cap0]),
 oo 3 (.mv (.c (.d (.int .i64 0)))),
 oo 4 (.mv (.c (.d (.int .i64 0))))])
 (.seq (.region [0,2,5,6] (some [2,108]) none
 [om 13 0,
 oo 14 (.call 75 [(.t 13)]),
 om 12 14,
 oo 15 (.ext (.t 12) 0),
 oo 16 (.ext (.t 12) 1),
 om 5 15,
 om 6 16])
 (g_ref08_Parse.c13))
def g_ref08_Parse:AFn:={ N:=121,res:=[.cell 2 (some 2),.slot 3,.slot 4],own:=[],frz:=[2],code:=g_ref08_Parse.code }
def g_show_Text.o1:List AOper :=
 [oo 26 (.pick (.t 21) (.c (.d (.bool true))) (.t 25))]
def g_show_Text.o0:List AOper :=
 (og 22 (.load (some 2) (.t 1)) (2,21,false) ::
 og 23 (.load (some 2) (.t 5)) (2,21,false) ::
 og 24 (.call 199 [(.t 22),(.t 23)]) (2,21,false) ::
 ow 25 (.un .not (.t 24)) (2,21,false) [4,21,25] [] ::
 g_show_Text.o1)
def g_show_Text.c0:ACode :=
 .cond (.t 26) (.seq (.region [2,3] (some []) none
 [oo 2 (.mv (.c (.d (.str [])))),
 oo 3 (.mv (.c (.d (.int .i64 1))))])
 (.ret))
 (.skip)
def g_show_Text.c1:ACode :=
 .seq (.region [2,3] (some []) none
 [om 27 4,
 om 2 27,
 oo 3 (.mv (.c (.d (.int .i64 0))))])
 (.ret)
def g_show_Text.c2:ACode :=
 .seq (.seq (.region [4,26] (some []) none
 (om 19 7 ::
 oo 20 (.bin .neq (.t 19) (.c (.d (.int .i64 0)))) ::
 oz 21 (.mv (.t 20)) [1,4,5,21] [1,5] ::
 g_show_Text.o0))
 (g_show_Text.c0))
 (g_show_Text.c1)
def g_show_Text.c3:ACode :=
 .seq (.region [1,4] (some [1]) none
 [oo 11 (.load (some 2) (.t 1)),
 oo 12 (.call 198 [(.t 11)]),
 om 4 12])
 (.seq (.region [1,4,5,7] (some [1,5]) none
 [om 14 4,
 oo 15 (.call 144 [(.t 14)]),
 om 13 15,
 oo 16 (.ext (.t 13) 0),
 oo 17 (.ext (.t 13) 1),
 oo 18 (.ext (.t 13) 2),
 oo 5 (.alloc 5 [.cap0,.cap0]),
 ⟨none,.store 2 (.t 5) (.t 16),[],[],none,none⟩,
 om 6 17,
 om 7 18])
 (g_show_Text.c2))
def g_show_Text.code:ACode :=
 .seq (.region [1] (some [1]) none
 [oo 1 (.box 1 2 (.t 0)),
 oo 2 (.mv (.c (.d (.str [])))),
 oo 3 (.mv (.c (.d (.int .i64 0))))])
 (.seq (.seq (.region [1,10] (some [1]) none
 [oo 8 (.load (some 2) (.t 1)),
 oo 9 (.call 197 [(.t 8)]),
 oo 10 (.un .not (.t 9))])
 (.cond (.t 10) (.seq (.region [2,3] (some []) none
 [oo 2 (.mv (.c (.d (.str [])))),
 oo 3 (.mv (.c (.d (.int .i64 1))))])
 (.ret))
 (.skip)))
 (g_show_Text.c3))
def g_show_Text:AFn:={ N:=28,res:=[.slot 2,.slot 3],own:=[],frz:=[],code:=g_show_Text.code }
def g_show_Expr.o3:List AOper :=
 [oo 25 (.pick (.t 19) (.c (.d (.bool true))) (.t 24))]
def g_show_Expr.o2:List AOper :=
 (og 20 (.mv (.t 1)) (6,19,false) ::
 og 21 (.faddr 1 (.t 2)) (6,19,false) ::
 og 22 (.load none (.t 21)) (6,19,false) ::
 og 23 (.len (.t 22)) (6,19,false) ::
 ow 24 (.bin .geq (.t 20) (.t 23)) (6,19,false) [1,2,19,24] [2] ::
 g_show_Expr.o3)
def g_show_Expr.o1:List AOper :=
 (oo 18 (.pick (.t 15) (.c (.d (.bool true))) (.t 17)) ::
 oz 19 (.mv (.t 18)) [1,2,19] [2] ::
 g_show_Expr.o2)
def g_show_Expr.o0:List AOper :=
 (og 16 (.mv (.t 1)) (2,15,false) ::
 ow 17 (.bin .lss (.t 16) (.c (.d (.int .i64 0)))) (2,15,false) [1,2,15,17] [2] ::
 g_show_Expr.o1)
def g_show_Expr.c0:ACode :=
 .cond (.t 25) (.seq (.region [4,5] (some []) none
 [oo 4 (.mv (.c (.d (.str [])))),
 oo 5 (.mv (.c (.d (.int .i64 1))))])
 (.ret))
 (.skip)
def g_show_Expr.c1:ACode :=
 .seq (.region [1,2,25] (some [2]) none
 (om 13 7 ::
 oo 14 (.bin .neq (.t 13) (.c (.d (.int .i64 0)))) ::
 oz 15 (.mv (.t 14)) [1,2,15] [2] ::
 g_show_Expr.o0))
 (g_show_Expr.c0)
def g_show_Expr.c2:ACode :=
 .seq (.region [4,5] (some []) none
 [oo 26 (.load (some 2) (.t 2)),
 om 27 1,
 oo 28 (.call 200 [(.t 26),(.t 27)]),
 om 4 28,
 oo 5 (.mv (.c (.d (.int .i64 0))))])
 (.ret)
def g_show_Expr.code:ACode :=
 .seq (.region [1,2] (some [2]) none
 [oo 2 (.box 2 2 (.t 0)),
 oo 4 (.mv (.c (.d (.str [])))),
 oo 5 (.mv (.c (.d (.int .i64 0))))])
 (.seq (.seq (.region [1,2,7] (some [2]) none
 [oo 9 (.load (some 2) (.t 2)),
 oo 10 (.call 174 [(.t 9)]),
 om 8 10,
 oo 11 (.ext (.t 8) 0),
 oo 12 (.ext (.t 8) 1),
 om 6 11,
 om 7 12])
 (g_show_Expr.c1))
 (g_show_Expr.c2))
def g_show_Expr:AFn:={ N:=29,res:=[.slot 4,.slot 5],own:=[],frz:=[],code:=g_show_Expr.code }
def g_ref09_Text.c0:ACode :=
 .region [3,4,10,11,12] (some []) (some ([0,1,2,3,4,5,6,7,8,9,10,11,12,13,14,15],.one 16 (.done)))
 [om 16 4,
 oo 17 (.faddr 0 (.t 6)),
 ⟨some 18,.load none (.t 17),[],[1],none,none⟩,
 ⟨some 19,.bin .add (.t 16) (.t 18),[],[0,2],none,none⟩,
 ⟨some 20,.bin .add (.t 19) (.c (.d (.str [32]))),[],[3],none,none⟩,
 oo 21 (.faddr 1 (.t 6)),
 ⟨some 22,.load none (.t 21),[],[5],none,none⟩,
 ⟨some 23,.bin .add (.t 20) (.t 22),[],[4,6],none,none⟩,
 ⟨some 24,.bin .add (.t 23) (.c (.d (.str [32,61,32]))),[],[7],none,none⟩,
 om 25 3,
 oo 26 (.faddr 2 (.t 6)),
 ⟨some 27,.load none (.t 26),[],[10],none,none⟩,
 ⟨some 28,.iaddr 1 (.t 25) (.t 27),[],[9,11],none,none⟩,
 ⟨some 29,.load none (.t 28),[],[12],none,none⟩,
 ⟨some 30,.bin .add (.t 24) (.t 29),[],[8,13],none,none⟩,
 ⟨some 31,.bin .add (.t 30) (.c (.d (.str [59,10]))),[],[14],none,none⟩,
 ⟨some 4,.mv (.t 31),[],[15,0,1,2,3,4,5,6,7,8,9,10,11,12,13,14,15],none,none⟩]
def g_ref09_Text.c1:ACode :=
 .region [3,4,10,11,12] (some []) none
 [oo 32 (.bin .add (.t 12) (.c (.d (.int .i64 1)))),
 om 12 32]
def g_ref09_Text.l0:ACode :=
 .loop [3,4,10,11,12] (some []) (.seq (.region [3,4,10,11,12,13] (some []) none
 [oo 13 (.bin .lss (.t 12) (.t 11))])
 (.seq (.cond (.t 13) (.skip)
 (.exit 0))
 (.seq (.block 1 [3,4,10,11,12] (some []) (.seq (.region [3,4,6,10,11,12] (some [6]) none
 [oo 14 (.iaddr 3 (.t 10) (.t 12)),
 oo 15 (.load (some 3) (.t 14)),
 oo 6 (.alloc 6 [.d (.str []),.d (.str []),.d (.int .i64 0)]),
 ⟨none,.store 3 (.t 6) (.t 15),[],[],none,none⟩])
 (g_ref09_Text.c0)))
 (g_ref09_Text.c1))))
def g_ref09_Text.c2:ACode :=
 .block 0 [4] (some []) (g_ref09_Text.l0)
def g_ref09_Text.c3:ACode :=
 .seq (.region [2] (some []) none
 [om 33 4,
 om 2 33])
 (.ret)
def g_ref09_Text.code:ACode :=
 .seq (.region [1] (some [1]) none
 [oo 1 (.box 1 2 (.t 0)),
 oo 2 (.mv (.c (.d (.str []))))])
 (.seq (.region [1,3] (some [1]) none
 [oo 7 (.load (some 2) (.t 1)),
 oo 8 (.call 177 [(.t 7)]),
 om 3 8])
 (.seq (.region [1,3,4] (some [1]) none
 [oo 4 (.mv (.c (.d (.str []))))])
 (.seq (.seq (.region [3,4,10,11,12] (some []) none
 [oo 9 (.faddr 0 (.t 1)),
 oo 10 (.load none (.t 9)),
 oo 11 (.len (.t 10)),
 oo 12 (.mv (.c (.d (.int .i64 0))))])
 (g_ref09_Text.c2))
 (g_ref09_Text.c3))))
def g_ref09_Text:AFn:={ N:=34,res:=[.slot 2],own:=[],frz:=[],code:=g_ref09_Text.code }
def g_ref09_Texts.o1:List AOper :=
 [oo 43 (.pick (.t 39) (.t 42) (.c (.d (.bool false))))]
def g_ref09_Texts.o0:List AOper :=
 (og 40 (.mv (.t 9)) (2,39,true) ::
 og 41 (.mv (.t 4)) (2,39,true) ::
 ow 42 (.bin .lss (.t 40) (.t 41)) (2,39,true) [1,3,4,5,6,7,9,10,11,31,32,33,39,42] [1,5,58,62,192] ::
 g_ref09_Texts.o1)
def g_ref09_Texts.c0:ACode :=
 .cond (.t 43) (.region [1,3,4,5,6,7,10,11,31,32,33] (some [1,5,58,62,192]) (some ([2000,1,2002,2003,2004,2005,6,7,8,9,10],.one 11 (.one 12 (.done))))
 [om 44 3,
 om 45 9,
 ⟨some 46,.iaddr 1 (.t 44) (.t 45),[],[0,1],none,none⟩,
 ⟨some 47,.load none (.t 46),[],[2],none,none⟩,
 oo 48 (.faddr 1 (.t 1)),
 ⟨some 49,.load none (.t 48),[],[4],none,none⟩,
 om 50 9,
 ⟨some 51,.iaddr 6 (.t 49) (.t 50),[],[5,6],none,none⟩,
 ⟨some 52,.faddr 0 (.t 51),[],[7],none,none⟩,
 ⟨some 53,.load none (.t 52),[],[8],none,none⟩,
 ⟨some 54,.call 201 [(.t 53)],[],[9],none,none⟩,
 ⟨some 10,.mv (.t 47),[],[3,10,0,1,2,3],none,none⟩,
 ⟨some 11,.mv (.t 54),[],[10,11,0,1,2,3,4,5,6,7,8,9,10,11],none,none⟩])
 (.skip)
def g_ref09_Texts.c1:ACode :=
 .region [1,3,4,5,6,7,31,32,33] (some [1,5,58,62,192]) none
 [om 59 7,
 om 60 11,
 oo 61 (.bsl none 1 [] 1 [(0,(.t 60))]),
 oo 62 (.app (some 62) 1 8 (.t 59) (.t 61)),
 om 7 62]
def g_ref09_Texts.c2:ACode :=
 .seq (.region [1,3,4,5,6,7,11,31,32,33] (some [1,5,58,62,192]) none
 [om 55 6,
 om 56 10,
 oo 57 (.bsl none 1 [] 1 [(0,(.t 56))]),
 oo 58 (.app (some 58) 1 16 (.t 55) (.t 57)),
 om 6 58])
 (g_ref09_Texts.c1)
def g_ref09_Texts.c3:ACode :=
 .region [1,3,4,5,6,7,31,32,33] (some [1,5,58,62,192]) none
 [oo 63 (.bin .add (.t 33) (.c (.d (.int .i64 1)))),
 om 33 63]
def g_ref09_Texts.l1:ACode :=
 .loop [1,3,4,5,6,7,31,32,33] (some [1,5,58,62,192]) (.seq (.region [1,3,4,5,6,7,31,32,33,34] (some [1,5,58,62,192]) none
 [oo 34 (.bin .lss (.t 33) (.t 32))])
 (.seq (.cond (.t 34) (.skip)
 (.exit 2))
 (.seq (.block 3 [1,3,4,5,6,7,31,32,33] (some [1,5,58,62,192]) (.seq (.region [1,3,4,5,6,7,9,31,32,33] (some [1,5,58,62,192]) none
 [oo 35 (.iaddr 1 (.t 31) (.t 33)),
 oo 36 (.load none (.t 35)),
 om 9 36])
 (.seq (.region [1,3,4,5,6,7,9,10,11,31,32,33] (some [1,5,58,62,192]) none
 [oo 10 (.mv (.c (.d (.str [])))),
 oo 11 (.mv (.c (.d (.int .i64 0))))])
 (.seq (.seq (.region [1,3,4,5,6,7,9,10,11,31,32,33,43] (some [1,5,58,62,192]) none
 (om 37 9 ::
 oo 38 (.bin .geq (.t 37) (.c (.d (.int .i64 0)))) ::
 oz 39 (.mv (.t 38)) [1,3,4,5,6,7,9,10,11,31,32,33,39] [1,5,58,62,192] ::
 g_ref09_Texts.o0))
 (g_ref09_Texts.c0))
 (g_ref09_Texts.c2)))))
 (g_ref09_Texts.c3))))
def g_ref09_Texts.c4:ACode :=
 .block 2 [1,3,4,5,6,7] (some [1,5,58,62,192]) (g_ref09_Texts.l1)
def g_ref09_Texts.c5:ACode :=
 .cond (.t 148) (.region [1,3,4,12] (some [1,192]) (some ([2000,2001,2002,2003,2004,2005,6,7,2008,2009,10,11,2012,2013,2014,2015,2016,2017,18,19,20],.done))
 [om 151 6,
 ⟨some 152,.iaddr 1 (.t 151) (.c (.d (.int .i64 0))),[],[0],none,none⟩,
 ⟨some 153,.load none (.t 152),[],[1],none,none⟩,
 om 154 7,
 ⟨some 155,.iaddr 1 (.t 154) (.c (.d (.int .i64 0))),[],[3],none,none⟩,
 ⟨some 156,.load none (.t 155),[],[4],none,none⟩,
 ⟨some 157,.call 202 [(.t 153),(.t 156),(.c (.d (.int .i64 2)))],[],[2,5],none,none⟩,
 ⟨some 158,.bin .add (.t 157) (.c (.d (.str [32]))),[],[6],none,none⟩,
 oo 159 (.faddr 0 (.t 5)),
 ⟨some 160,.load none (.t 159),[],[8],none,none⟩,
 ⟨some 161,.bin .add (.t 158) (.t 160),[],[7,9],none,none⟩,
 ⟨some 162,.bin .add (.t 161) (.c (.d (.str [32]))),[],[10],none,none⟩,
 om 163 6,
 ⟨some 164,.iaddr 1 (.t 163) (.c (.d (.int .i64 1))),[],[12],none,none⟩,
 ⟨some 165,.load none (.t 164),[],[13],none,none⟩,
 om 166 7,
 ⟨some 167,.iaddr 1 (.t 166) (.c (.d (.int .i64 1))),[],[15],none,none⟩,
 ⟨some 168,.load none (.t 167),[],[16],none,none⟩,
 ⟨some 169,.call 202 [(.t 165),(.t 168),(.c (.d (.int .i64 3)))],[],[14,17,6],none,none⟩,
 ⟨some 170,.bin .add (.t 162) (.t 169),[],[11,18],none,none⟩,
 ⟨some 12,.mv (.t 170),[],[19,18,0,1,2,3,4,5,6,7,8,9,10,11,12,13,14,15,16,17,18,19],none,none⟩])
 (.seq (.region [1,3,4,5,6,7,171] (some [1,5,58,62,192]) none
 [oo 172 (.bin .eql (.t 65) (.c (.d (.str [42])))),
 om 171 172])
 (.cond (.t 171) (.region [1,3,4,12] (some [1,192]) (some ([2000,2001,2002,2003,2004,2005,6,7,2008,2009,2010,2011,2012,2013,14,15,16],.done))
 [om 173 6,
 ⟨some 174,.iaddr 1 (.t 173) (.c (.d (.int .i64 0))),[],[0],none,none⟩,
 ⟨some 175,.load none (.t 174),[],[1],none,none⟩,
 om 176 7,
 ⟨some 177,.iaddr 1 (.t 176) (.c (.d (.int .i64 0))),[],[3],none,none⟩,
 ⟨some 178,.load none (.t 177),[],[4],none,none⟩,
 ⟨some 179,.call 202 [(.t 175),(.t 178),(.c (.d (.int .i64 3)))],[],[2,5],none,none⟩,
 ⟨some 180,.bin .add (.t 179) (.c (.d (.str [32,42,32]))),[],[6],none,none⟩,
 om 181 6,
 ⟨some 182,.iaddr 1 (.t 181) (.c (.d (.int .i64 1))),[],[8],none,none⟩,
 ⟨some 183,.load none (.t 182),[],[9],none,none⟩,
 om 184 7,
 ⟨some 185,.iaddr 1 (.t 184) (.c (.d (.int .i64 1))),[],[11],none,none⟩,
 ⟨some 186,.load none (.t 185),[],[12],none,none⟩,
 ⟨some 187,.call 202 [(.t 183),(.t 186),(.c (.d (.int .i64 4)))],[],[10,13,6],none,none⟩,
 ⟨some 188,.bin .add (.t 180) (.t 187),[],[7,14],none,none⟩,
 ⟨some 12,.mv (.t 188),[],[15,14,0,1,2,3,4,5,6,7,8,9,10,11,12,13,14,15],none,none⟩])
 (.region [1,3,4,12] (some [1,192]) (some ([2000,2001,2002,2003,2004,2005,6,7,2008,2009,10,11,2012,2013,2014,2015,2016,2017,18,19,20],.done))
 [om 66 6,
 ⟨some 67,.iaddr 1 (.t 66) (.c (.d (.int .i64 0))),[],[0],none,none⟩,
 ⟨some 68,.load none (.t 67),[],[1],none,none⟩,
 om 69 7,
 ⟨some 70,.iaddr 1 (.t 69) (.c (.d (.int .i64 0))),[],[3],none,none⟩,
 ⟨some 71,.load none (.t 70),[],[4],none,none⟩,
 ⟨some 72,.call 202 [(.t 68),(.t 71),(.c (.d (.int .i64 2)))],[],[2,5],none,none⟩,
 ⟨some 73,.bin .add (.t 72) (.c (.d (.str [32]))),[],[6],none,none⟩,
 oo 74 (.faddr 0 (.t 5)),
 ⟨some 75,.load none (.t 74),[],[8],none,none⟩,
 ⟨some 76,.bin .add (.t 73) (.t 75),[],[7,9],none,none⟩,
 ⟨some 77,.bin .add (.t 76) (.c (.d (.str [32]))),[],[10],none,none⟩,
 om 78 6,
 ⟨some 79,.iaddr 1 (.t 78) (.c (.d (.int .i64 1))),[],[12],none,none⟩,
 ⟨some 80,.load none (.t 79),[],[13],none,none⟩,
 om 81 7,
 ⟨some 82,.iaddr 1 (.t 81) (.c (.d (.int .i64 1))),[],[15],none,none⟩,
 ⟨some 83,.load none (.t 82),[],[16],none,none⟩,
 ⟨some 84,.call 202 [(.t 80),(.t 83),(.c (.d (.int .i64 2)))],[],[14,17,6],none,none⟩,
 ⟨some 85,.bin .add (.t 77) (.t 84),[],[11,18],none,none⟩,
 ⟨some 12,.mv (.t 85),[],[19,18,0,1,2,3,4,5,6,7,8,9,10,11,12,13,14,15,16,17,18,19],none,none⟩])))
def g_ref09_Texts.c6F (R_c5:ACode):ACode :=
 .cond (.t 116) (.region [1,3,4,12] (some [1,192]) (some ([2000,2001,2,2003,2004,2005,6,7,2008,2009,2010,11,12,13],.done))
 [oo 119 (.faddr 0 (.t 5)),
 ⟨some 120,.load none (.t 119),[],[0],none,none⟩,
 ⟨some 121,.bin .add (.t 120) (.c (.d (.str [40]))),[],[1],none,none⟩,
 om 122 6,
 ⟨some 123,.iaddr 1 (.t 122) (.c (.d (.int .i64 0))),[],[3],none,none⟩,
 ⟨some 124,.load none (.t 123),[],[4],none,none⟩,
 ⟨some 125,.bin .add (.t 121) (.t 124),[],[2,5],none,none⟩,
 ⟨some 126,.bin .add (.t 125) (.c (.d (.str [44,32]))),[],[6],none,none⟩,
 om 127 6,
 ⟨some 128,.iaddr 1 (.t 127) (.c (.d (.int .i64 1))),[],[8],none,none⟩,
 ⟨some 129,.load none (.t 128),[],[9],none,none⟩,
 ⟨some 130,.bin .add (.t 126) (.t 129),[],[7,10],none,none⟩,
 ⟨some 131,.bin .add (.t 130) (.c (.d (.str [41]))),[],[11],none,none⟩,
 ⟨some 12,.mv (.t 131),[],[12,0,1,2,3,4,5,6,7,8,9,10,11,12],none,none⟩])
 (.seq (.region [1,3,4,5,6,7,65,132] (some [1,5,58,62,192]) none
 [oo 133 (.bin .eql (.t 65) (.c (.d (.str [105,102])))),
 om 132 133])
 (.cond (.t 132) (.region [1,3,4,12] (some [1,192]) (some ([2000,2001,2002,3,4,2005,2006,2007,8,9,2010,2011,2012,13,14],.done))
 [om 134 6,
 ⟨some 135,.iaddr 1 (.t 134) (.c (.d (.int .i64 0))),[],[0],none,none⟩,
 ⟨some 136,.load none (.t 135),[],[1],none,none⟩,
 ⟨some 137,.bin .add (.c (.d (.str [105,102,32]))) (.t 136),[],[2],none,none⟩,
 ⟨some 138,.bin .add (.t 137) (.c (.d (.str [32,116,104,101,110,32]))),[],[3],none,none⟩,
 om 139 6,
 ⟨some 140,.iaddr 1 (.t 139) (.c (.d (.int .i64 1))),[],[5],none,none⟩,
 ⟨some 141,.load none (.t 140),[],[6],none,none⟩,
 ⟨some 142,.bin .add (.t 138) (.t 141),[],[4,7],none,none⟩,
 ⟨some 143,.bin .add (.t 142) (.c (.d (.str [32,101,108,115,101,32]))),[],[8],none,none⟩,
 om 144 6,
 ⟨some 145,.iaddr 1 (.t 144) (.c (.d (.int .i64 2))),[],[10],none,none⟩,
 ⟨some 146,.load none (.t 145),[],[11],none,none⟩,
 ⟨some 147,.bin .add (.t 143) (.t 146),[],[9,12],none,none⟩,
 ⟨some 12,.mv (.t 147),[],[13,0,1,2,3,4,5,6,7,8,9,10,11,12,13],none,none⟩])
 (.seq (.seq (.region [1,3,4,5,6,7,65,148] (some [1,5,58,62,192]) none
 [oo 149 (.bin .eql (.t 65) (.c (.d (.str [43])))),
 om 148 149])
 (.cond (.t 148) (.skip)
 (.region [1,3,4,5,6,7,65,148] (some [1,5,58,62,192]) none
 [oo 150 (.bin .eql (.t 65) (.c (.d (.str [45])))),
 om 148 150])))
 (R_c5))))
def g_ref09_Texts.c6:ACode:=g_ref09_Texts.c6F g_ref09_Texts.c5
def g_ref09_Texts.c7:ACode :=
 .region [1,3,4] (some [1,192]) none
 [om 189 3,
 om 190 12,
 oo 191 (.bsl none 1 [] 1 [(0,(.t 190))]),
 oo 192 (.app (some 192) 1 16 (.t 189) (.t 191)),
 om 3 192]
def g_ref09_Texts.c8F (R_c6:ACode)(R_c7:ACode):ACode :=
 .seq (.region [1,3,4,5,6,7] (some [1,5,58,62,192]) none
 [oo 12 (.mv (.c (.d (.str []))))])
 (.seq (.seq (.region [1,3,4,5,6,7,65] (some [1,5,58,62,192]) none
 [oo 64 (.faddr 0 (.t 5)),
 oo 65 (.load none (.t 64))])
 (.block 4 [1,3,4,12] (some [1,192]) (.seq (.region [1,3,4,5,6,7,65,86] (some [1,5,58,62,192]) none
 [oo 87 (.bin .eql (.t 65) (.c (.d (.str [119,104,111,108,101])))),
 om 86 87])
 (.cond (.t 86) (.region [1,3,4,12] (some [1,192]) none
 [oo 88 (.faddr 2 (.t 5)),
 oo 89 (.load none (.t 88)),
 oo 90 (.call 71 [(.t 89)]),
 om 12 90])
 (.seq (.region [1,3,4,5,6,7,65,91] (some [1,5,58,62,192]) none
 [oo 92 (.bin .eql (.t 65) (.c (.d (.str [97,109,111,117,110,116])))),
 om 91 92])
 (.cond (.t 91) (.region [1,3,4,12] (some [1,192]) none
 [oo 93 (.faddr 2 (.t 5)),
 oo 94 (.load none (.t 93)),
 oo 95 (.call 54 [(.t 94)]),
 om 12 95])
 (.seq (.region [1,3,4,5,6,7,65,96] (some [1,5,58,62,192]) none
 [oo 97 (.bin .eql (.t 65) (.c (.d (.str [114,97,116,101])))),
 om 96 97])
 (.cond (.t 96) (.region [1,3,4,12] (some [1,192]) none
 [oo 98 (.faddr 2 (.t 5)),
 oo 99 (.load none (.t 98)),
 oo 100 (.call 54 [(.t 99)]),
 oo 101 (.bin .add (.t 100) (.c (.d (.str [37])))),
 om 12 101])
 (.seq (.region [1,3,4,5,6,7,65,102] (some [1,5,58,62,192]) none
 [oo 103 (.bin .eql (.t 65) (.c (.d (.str [110,97,109,101])))),
 om 102 103])
 (.cond (.t 102) (.region [1,3,4,12] (some [1,192]) none
 [oo 104 (.faddr 1 (.t 5)),
 oo 105 (.load none (.t 104)),
 om 12 105])
 (.seq (.region [1,3,4,5,6,7,65,106] (some [1,5,58,62,192]) none
 [oo 107 (.bin .eql (.t 65) (.c (.d (.str [110,101,103])))),
 om 106 107])
 (.cond (.t 106) (.region [1,3,4,12] (some [1,192]) (some ([2000,2001,2002,2003,2004,2005,6,7,8],.done))
 [om 108 6,
 ⟨some 109,.iaddr 1 (.t 108) (.c (.d (.int .i64 0))),[],[0],none,none⟩,
 ⟨some 110,.load none (.t 109),[],[1],none,none⟩,
 om 111 7,
 ⟨some 112,.iaddr 1 (.t 111) (.c (.d (.int .i64 0))),[],[3],none,none⟩,
 ⟨some 113,.load none (.t 112),[],[4],none,none⟩,
 ⟨some 114,.call 202 [(.t 110),(.t 113),(.c (.d (.int .i64 4)))],[],[2,5],none,none⟩,
 ⟨some 115,.bin .add (.c (.d (.str [45]))) (.t 114),[],[6],none,none⟩,
 ⟨some 12,.mv (.t 115),[],[7,6,0,1,2,3,4,5,6,7],none,none⟩])
 (.seq (.seq (.region [1,3,4,5,6,7,65,116] (some [1,5,58,62,192]) none
 [oo 117 (.bin .eql (.t 65) (.c (.d (.str [109,105,110])))),
 om 116 117])
 (.cond (.t 116) (.skip)
 (.region [1,3,4,5,6,7,65,116] (some [1,5,58,62,192]) none
 [oo 118 (.bin .eql (.t 65) (.c (.d (.str [109,97,120])))),
 om 116 118])))
 (R_c6))))))))))))))
 (R_c7))
def g_ref09_Texts.c8:ACode:=g_ref09_Texts.c8F g_ref09_Texts.c6 g_ref09_Texts.c7
def g_ref09_Texts.c9:ACode :=
 .seq (.region [1,3,4,5,6] (some [1,5,58,192]) none
 [oo 6 (.mv (.c (.cap0)))])
 (.seq (.region [1,3,4,5,6,7] (some [1,5,58,62,192]) none
 [oo 7 (.mv (.c (.cap0)))])
 (.seq (.seq (.region [1,3,4,5,6,7,31,32,33] (some [1,5,58,62,192]) none
 [oo 25 (.faddr 3 (.t 5)),
 oo 26 (.load none (.t 25)),
 oo 27 (.faddr 4 (.t 5)),
 oo 28 (.load none (.t 27)),
 oo 29 (.faddr 5 (.t 5)),
 oo 30 (.load none (.t 29)),
 oo 31 (.bsl none 1 [] 3 [(0,(.t 26)),(1,(.t 28)),(2,(.t 30))]),
 oo 32 (.len (.t 31)),
 oo 33 (.mv (.c (.d (.int .i64 0))))])
 (g_ref09_Texts.c4))
 (g_ref09_Texts.c8)))
def g_ref09_Texts.c10:ACode :=
 .region [1,3,4] (some [1,192]) none
 [om 18 4,
 oo 19 (.bin .add (.t 18) (.c (.d (.int .i64 1)))),
 om 4 19]
def g_ref09_Texts.c11:ACode :=
 .seq (.block 1 [1,3,4] (some [1,192]) (.seq (.region [1,3,4,5] (some [1,5,192]) none
 [oo 20 (.faddr 1 (.t 1)),
 oo 21 (.load none (.t 20)),
 om 22 4,
 oo 23 (.iaddr 6 (.t 21) (.t 22)),
 oo 24 (.load (some 6) (.t 23)),
 oo 5 (.alloc 5 [.d (.str []),.d (.str []),.d (.int .i64 0),.d (.int .i64 0),.d (.int .i64 0),.d (.int .i64 0)]),
 ⟨none,.store 6 (.t 5) (.t 24),[],[],none,none⟩])
 (g_ref09_Texts.c9)))
 (g_ref09_Texts.c10)
def g_ref09_Texts.l0:ACode :=
 .loop [1,3,4] (some [1,192]) (.seq (.seq (.region [1,3,4,17] (some [1,192]) none
 [om 13 4,
 oo 14 (.faddr 1 (.t 1)),
 oo 15 (.load none (.t 14)),
 oo 16 (.len (.t 15)),
 oo 17 (.bin .lss (.t 13) (.t 16))])
 (.cond (.t 17) (.skip)
 (.exit 0)))
 (g_ref09_Texts.c11))
def g_ref09_Texts.c12:ACode :=
 .seq (.region [2] (some [192]) none
 [om 193 3,
 om 2 193])
 (.ret)
def g_ref09_Texts.code:ACode :=
 .seq (.region [1] (some [1]) none
 [oo 1 (.box 1 2 (.t 0)),
 oo 2 (.mv (.c (.cap0)))])
 (.seq (.region [1,3] (some [1,192]) none
 [oo 3 (.mv (.c (.cap0)))])
 (.seq (.seq (.region [1,3,4] (some [1,192]) none
 [oo 4 (.mv (.c (.d (.int .i64 0))))])
 (.block 0 [3] (some [192]) (g_ref09_Texts.l0)))
 (g_ref09_Texts.c12)))
def g_ref09_Texts:AFn:={ N:=194,res:=[.slot 2],own:=[],frz:=[2],code:=g_ref09_Texts.code }
def g_ref08_Same.o1:List AOper :=
 [oo 22 (.pick (.t 14) (.c (.d (.bool true))) (.t 21))]
def g_ref08_Same.o0:List AOper :=
 (og 15 (.faddr 1 (.t 2)) (7,14,false) ::
 og 16 (.load none (.t 15)) (7,14,false) ::
 og 17 (.len (.t 16)) (7,14,false) ::
 og 18 (.faddr 1 (.t 3)) (7,14,false) ::
 og 19 (.load none (.t 18)) (7,14,false) ::
 og 20 (.len (.t 19)) (7,14,false) ::
 ow 21 (.bin .neq (.t 17) (.t 20)) (7,14,false) [2,3,14,21] [2,3] ::
 g_ref08_Same.o1)
def g_ref08_Same.c0:ACode :=
 .cond (.t 22) (.seq (.region [4] (some []) none
 [oo 4 (.mv (.c (.d (.bool false))))])
 (.ret))
 (.skip)
def g_ref08_Same.c1:ACode :=
 .region [2,3,5] (some [2,3]) none
 [om 28 5,
 oo 29 (.bin .add (.t 28) (.c (.d (.int .i64 1)))),
 om 5 29]
def g_ref08_Same.c2F (R_c1:ACode):ACode :=
 .seq (.block 1 [2,3,5] (some [2,3]) (.seq (.region [2,3,5,40] (some [2,3]) (some ([0,1,2,3,4,5,6,7,8,9,10],.done))
 [oo 30 (.faddr 0 (.t 2)),
 ⟨some 31,.load none (.t 30),[],[0],none,none⟩,
 om 32 5,
 ⟨some 33,.iaddr 3 (.t 31) (.t 32),[],[1,2],none,none⟩,
 ⟨some 34,.load (some 3) (.t 33),[],[3],none,none⟩,
 oo 35 (.faddr 0 (.t 3)),
 ⟨some 36,.load none (.t 35),[],[5],none,none⟩,
 om 37 5,
 ⟨some 38,.iaddr 3 (.t 36) (.t 37),[],[6,7],none,none⟩,
 ⟨some 39,.load (some 3) (.t 38),[],[8],none,none⟩,
 ⟨some 40,.eqs true [2,2,0] (.t 34) (.t 39),[],[4,9],none,none⟩])
 (.cond (.t 40) (.seq (.region [4] (some []) none
 [oo 4 (.mv (.c (.d (.bool false))))])
 (.ret))
 (.skip))))
 (R_c1)
def g_ref08_Same.c2:ACode:=g_ref08_Same.c2F g_ref08_Same.c1
def g_ref08_Same.l0:ACode :=
 .loop [2,3,5] (some [2,3]) (.seq (.seq (.region [2,3,5,27] (some [2,3]) none
 [om 23 5,
 oo 24 (.faddr 0 (.t 2)),
 oo 25 (.load none (.t 24)),
 oo 26 (.len (.t 25)),
 oo 27 (.bin .lss (.t 23) (.t 26))])
 (.cond (.t 27) (.skip)
 (.exit 0)))
 (g_ref08_Same.c2))
def g_ref08_Same.c3:ACode :=
 .region [2,3,6] (some [2,3]) none
 [om 46 6,
 oo 47 (.bin .add (.t 46) (.c (.d (.int .i64 1)))),
 om 6 47]
def g_ref08_Same.c4F (R_c3:ACode):ACode :=
 .seq (.block 3 [2,3,6] (some [2,3]) (.seq (.region [2,3,6,58] (some [2,3]) (some ([0,1,2,3,4,5,6,7,8,9,10],.done))
 [oo 48 (.faddr 1 (.t 2)),
 ⟨some 49,.load none (.t 48),[],[0],none,none⟩,
 om 50 6,
 ⟨some 51,.iaddr 6 (.t 49) (.t 50),[],[1,2],none,none⟩,
 ⟨some 52,.load (some 6) (.t 51),[],[3],none,none⟩,
 oo 53 (.faddr 1 (.t 3)),
 ⟨some 54,.load none (.t 53),[],[5],none,none⟩,
 om 55 6,
 ⟨some 56,.iaddr 6 (.t 54) (.t 55),[],[6,7],none,none⟩,
 ⟨some 57,.load (some 6) (.t 56),[],[8],none,none⟩,
 ⟨some 58,.eqs true [2,2,0,0,0,0] (.t 52) (.t 57),[],[4,9],none,none⟩])
 (.cond (.t 58) (.seq (.region [4] (some []) none
 [oo 4 (.mv (.c (.d (.bool false))))])
 (.ret))
 (.skip))))
 (R_c3)
def g_ref08_Same.c4:ACode:=g_ref08_Same.c4F g_ref08_Same.c3
def g_ref08_Same.l1:ACode :=
 .loop [2,3,6] (some [2,3]) (.seq (.seq (.region [2,3,6,45] (some [2,3]) none
 [om 41 6,
 oo 42 (.faddr 1 (.t 2)),
 oo 43 (.load none (.t 42)),
 oo 44 (.len (.t 43)),
 oo 45 (.bin .lss (.t 41) (.t 44))])
 (.cond (.t 45) (.skip)
 (.exit 2)))
 (g_ref08_Same.c4))
def g_ref08_Same.c5:ACode :=
 .seq (.region [4] (some []) none
 [oo 4 (.mv (.c (.d (.bool true))))])
 (.ret)
def g_ref08_Same.c6:ACode :=
 .seq (.seq (.region [2,3,6] (some [2,3]) none
 [oo 6 (.mv (.c (.d (.int .i64 0))))])
 (.block 2 [] (some []) (g_ref08_Same.l1)))
 (g_ref08_Same.c5)
def g_ref08_Same.c7:ACode :=
 .seq (.seq (.region [2,3,5] (some [2,3]) none
 [oo 5 (.mv (.c (.d (.int .i64 0))))])
 (.block 0 [2,3] (some [2,3]) (g_ref08_Same.l0)))
 (g_ref08_Same.c6)
def g_ref08_Same.code:ACode :=
 .seq (.region [2,3] (some [2,3]) none
 [oo 2 (.box 2 2 (.t 0)),
 oo 3 (.box 3 2 (.t 1)),
 oo 4 (.mv (.c (.d (.bool false))))])
 (.seq (.seq (.region [2,3,22] (some [2,3]) none
 (oo 7 (.faddr 0 (.t 2)) ::
 oo 8 (.load none (.t 7)) ::
 oo 9 (.len (.t 8)) ::
 oo 10 (.faddr 0 (.t 3)) ::
 oo 11 (.load none (.t 10)) ::
 oo 12 (.len (.t 11)) ::
 oo 13 (.bin .neq (.t 9) (.t 12)) ::
 oz 14 (.mv (.t 13)) [2,3,14] [2,3] ::
 g_ref08_Same.o0))
 (g_ref08_Same.c0))
 (g_ref08_Same.c7))
def g_ref08_Same:AFn:={ N:=59,res:=[.slot 4],own:=[],frz:=[],code:=g_ref08_Same.code }
def g_law09_ref.c0:ACode :=
 .region [1,2,3,9,10,11] (some [1,2,3,19,33]) none
 [oo 15 (.faddr 0 (.t 3)),
 oo 16 (.load none (.t 15)),
 oo 17 (.load (some 3) (.t 5)),
 oo 18 (.bsl none 3 [] 1 [(0,(.t 17))]),
 oo 19 (.app (some 19) 3 40 (.t 16) (.t 18)),
 oo 20 (.faddr 0 (.t 3)),
 ⟨none,.store 1 (.t 20) (.t 19),[],[],none,none⟩]
def g_law09_ref.c1:ACode :=
 .region [1,2,3,9,10,11] (some [1,2,3,19,33]) none
 [oo 21 (.bin .add (.t 11) (.c (.d (.int .i64 1)))),
 om 11 21]
def g_law09_ref.l0:ACode :=
 .loop [1,2,3,9,10,11] (some [1,2,3,19,33]) (.seq (.region [1,2,3,9,10,11,12] (some [1,2,3,19,33]) none
 [oo 12 (.bin .lss (.t 11) (.t 10))])
 (.seq (.cond (.t 12) (.skip)
 (.exit 0))
 (.seq (.block 1 [1,2,3,9,10,11] (some [1,2,3,19,33]) (.seq (.region [1,2,3,5,9,10,11] (some [1,2,3,5,19,33]) none
 [oo 13 (.iaddr 3 (.t 9) (.t 11)),
 oo 14 (.load (some 3) (.t 13)),
 oo 5 (.alloc 5 [.d (.str []),.d (.str []),.d (.int .i64 0)]),
 ⟨none,.store 3 (.t 5) (.t 14),[],[],none,none⟩])
 (g_law09_ref.c0)))
 (g_law09_ref.c1))))
def g_law09_ref.c2:ACode :=
 .block 0 [1,2,3] (some [1,2,3,19,33]) (g_law09_ref.l0)
def g_law09_ref.c3:ACode :=
 .region [2,3,23,24,25] (some [2,3,19,33]) none
 [oo 29 (.faddr 1 (.t 3)),
 oo 30 (.load none (.t 29)),
 oo 31 (.load (some 6) (.t 7)),
 oo 32 (.bsl none 6 [] 1 [(0,(.t 31))]),
 oo 33 (.app (some 33) 6 64 (.t 30) (.t 32)),
 oo 34 (.faddr 1 (.t 3)),
 ⟨none,.store 1 (.t 34) (.t 33),[],[],none,none⟩]
def g_law09_ref.c4:ACode :=
 .region [2,3,23,24,25] (some [2,3,19,33]) none
 [oo 35 (.bin .add (.t 25) (.c (.d (.int .i64 1)))),
 om 25 35]
def g_law09_ref.l1:ACode :=
 .loop [2,3,23,24,25] (some [2,3,19,33]) (.seq (.region [2,3,23,24,25,26] (some [2,3,19,33]) none
 [oo 26 (.bin .lss (.t 25) (.t 24))])
 (.seq (.cond (.t 26) (.skip)
 (.exit 2))
 (.seq (.block 3 [2,3,23,24,25] (some [2,3,19,33]) (.seq (.region [2,3,7,23,24,25] (some [2,3,7,19,33]) none
 [oo 27 (.iaddr 6 (.t 23) (.t 25)),
 oo 28 (.load (some 6) (.t 27)),
 oo 7 (.alloc 7 [.d (.str []),.d (.str []),.d (.int .i64 0),.d (.int .i64 0),.d (.int .i64 0),.d (.int .i64 0)]),
 ⟨none,.store 6 (.t 7) (.t 28),[],[],none,none⟩])
 (g_law09_ref.c3)))
 (g_law09_ref.c4))))
def g_law09_ref.c5:ACode :=
 .block 2 [2,3] (some [2,3,19,33]) (g_law09_ref.l1)
def g_law09_ref.c6:ACode :=
 .seq (.region [2] (some [2,19,33]) none
 [oo 36 (.load (some 2) (.t 3)),
 ⟨none,.store 2 (.t 2) (.t 36),[],[],none,none⟩])
 (.ret)
def g_law09_ref.c7:ACode :=
 .seq (.seq (.region [2,3,23,24,25] (some [2,3,19,33]) none
 [oo 22 (.faddr 1 (.t 1)),
 oo 23 (.load none (.t 22)),
 oo 24 (.len (.t 23)),
 oo 25 (.mv (.c (.d (.int .i64 0))))])
 (g_law09_ref.c5))
 (g_law09_ref.c6)
def g_law09_ref.code:ACode :=
 .seq (.region [1,2] (some [1,2,19,33]) none
 [oo 1 (.box 1 2 (.t 0)),
 oo 2 (.alloc 2 [.cap0,.cap0])])
 (.seq (.region [1,2,3] (some [1,2,3,19,33]) none
 [oo 3 (.alloc 3 [.cap0,.cap0])])
 (.seq (.seq (.region [1,2,3,9,10,11] (some [1,2,3,19,33]) none
 [oo 8 (.faddr 0 (.t 1)),
 oo 9 (.load none (.t 8)),
 oo 10 (.len (.t 9)),
 oo 11 (.mv (.c (.d (.int .i64 0))))])
 (g_law09_ref.c2))
 (g_law09_ref.c7)))
def g_law09_ref:AFn:={ N:=37,res:=[.cell 2 (some 2)],own:=[],frz:=[2],code:=g_law09_ref.code }
def g_lex_All.o1:List AOper :=
 [oo 23 (.pick (.t 18) (.c (.d (.bool true))) (.t 22))]
def g_lex_All.o0:List AOper :=
 (og 19 (.mv (.t 0)) (4,18,false) ::
 og 20 (.mv (.t 6)) (4,18,false) ::
 og 21 (.idx (.t 19) (.t 20)) (4,18,false) ::
 ow 22 (.bin .eql (.t 21) (.c (.d (.int .u8 10)))) (4,18,false) [0,5,6,18,22] [55] ::
 g_lex_All.o1)
def g_lex_All.c0:ACode :=
 .cond (.t 23) (.seq (.region [0,5,6] (some [55]) none
 [om 24 6,
 oo 25 (.bin .add (.t 24) (.c (.d (.int .i64 1)))),
 om 6 25])
 (.exit 1000000))
 (.skip)
def g_lex_All.c1:ACode :=
 .seq (.region [0,5,6] (some [55]) none
 [om 56 6,
 om 57 8,
 oo 58 (.bin .add (.t 56) (.t 57)),
 om 6 58])
 (.exit 1000000)
def g_lex_All.c2:ACode :=
 .seq (.region [0,5,6,8] (some [55]) none
 [om 44 5,
 om 45 7,
 om 46 0,
 om 47 6,
 om 48 6,
 om 49 8,
 oo 50 (.bin .add (.t 48) (.t 49)),
 oo 51 (.slcS (.t 46) (some (.t 47)) (some (.t 50))),
 om 52 6,
 oo 53 (.build [.d (.int .i64 0),.d (.str []),.d (.int .i64 0)] [(0,1,(.t 45)),(1,1,(.t 51)),(2,1,(.t 52))]),
 oo 54 (.bsl none 3 [] 1 [(0,(.t 53))]),
 oo 55 (.app (some 55) 3 32 (.t 44) (.t 54)),
 om 5 55])
 (g_lex_All.c1)
def g_lex_All.c3:ACode :=
 .seq (.seq (.region [0,5,6,7,8,42] (some [55]) none
 [om 41 7,
 oo 42 (.bin .eql (.t 41) (.c (.d (.int .i64 0))))])
 (.cond (.t 42) (.seq (.region [2,3,4] (some [55]) none
 [om 43 6,
 oo 2 (.mv (.c (.cap0))),
 om 3 43,
 oo 4 (.mv (.c (.d (.int .i64 2))))])
 (.ret))
 (.skip)))
 (g_lex_All.c2)
def g_lex_All.c4:ACode :=
 .seq (.region [0,5,6,7,8] (some [55]) none
 [om 36 0,
 om 37 6,
 oo 38 (.call 104 [(.t 36),(.t 37)]),
 om 35 38,
 oo 39 (.ext (.t 35) 0),
 oo 40 (.ext (.t 35) 1),
 om 7 39,
 om 8 40])
 (g_lex_All.c3)
def g_lex_All.c5:ACode :=
 .seq (.seq (.region [0,5,6,29] (some [55]) none
 [om 26 0,
 om 27 6,
 oo 28 (.idx (.t 26) (.t 27)),
 oo 29 (.bin .eql (.t 28) (.c (.d (.int .u8 35))))])
 (.cond (.t 29) (.seq (.region [0,5,6] (some [55]) none
 [om 30 6,
 om 31 0,
 om 32 6,
 oo 33 (.call 102 [(.t 31),(.t 32),(.f 103)]),
 oo 34 (.bin .add (.t 30) (.t 33)),
 om 6 34])
 (.exit 1000000))
 (.skip)))
 (g_lex_All.c4)
def g_lex_All.c6:ACode :=
 .seq (.seq (.region [0,5,6,23] (some [55]) none
 (om 14 0 ::
 om 15 6 ::
 oo 16 (.idx (.t 14) (.t 15)) ::
 oo 17 (.bin .eql (.t 16) (.c (.d (.int .u8 32)))) ::
 oz 18 (.mv (.t 17)) [0,5,6,18] [55] ::
 g_lex_All.o0))
 (g_lex_All.c0))
 (g_lex_All.c5)
def g_lex_All.c7:ACode :=
 .seq (.seq (.region [0,5,6,12] (some [55]) none
 [om 9 6,
 om 10 0,
 oo 11 (.lenS (.t 10)),
 oo 12 (.bin .geq (.t 9) (.t 11))])
 (.cond (.t 12) (.seq (.region [2,3,4] (some [55]) none
 [om 13 5,
 om 2 13,
 oo 3 (.mv (.c (.d (.int .i64 0)))),
 oo 4 (.mv (.c (.d (.int .i64 0))))])
 (.ret))
 (.skip)))
 (g_lex_All.c6)
def g_lex_All.code:ACode :=
 .seq (.region [0] (some []) none
 [oo 2 (.mv (.c (.cap0))),
 oo 3 (.mv (.c (.d (.int .i64 0)))),
 oo 4 (.mv (.c (.d (.int .i64 0))))])
 (.scope 0 [0,5,6] (some [55]) (.seq (.region [0,5] (some [55]) none
 [oo 5 (.mv (.c (.cap0)))])
 (.seq (.region [0,5,6] (some [55]) none
 [oo 6 (.mv (.c (.d (.int .i64 0)))),
 oo 7 (.mv (.c (.d (.int .i64 0)))),
 oo 8 (.mv (.c (.d (.int .i64 0))))])
 (.seq (.skip)
 (g_lex_All.c7))))
 (.seq .skip g_lex_All.c7))
def g_lex_All:AFn:={ N:=59,res:=[.slot 2,.slot 3,.slot 4],own:=[],frz:=[2],code:=g_lex_All.code }
def g_tree_parser_rule.a0:List AOper :=
 [om 9 0,
 ⟨some 10,.nilc (.t 9),[],[0],none,none⟩,
 ⟨some 11,.faddr 3 (.t 10),[],[1],none,none⟩,
 ⟨some 12,.faddr 0 (.t 11),[],[2],none,none⟩,
 ⟨some 13,.load none (.t 12),[],[3],none,none⟩,
 ⟨some 14,.len (.t 13),[],[4],none,none⟩,
 ⟨some 15,.bin .geq (.t 14) (.c (.d (.int .i64 60))),[],[5],none,none⟩,
 ⟨some 16,.mv (.t 15),[],[6],none,none⟩,
 ⟨some 17,.faddr 0 (.t 2),[],[7],(some (7,16,true)),none⟩,
 ⟨some 18,.load none (.t 17),[],[8,7],(some (7,16,true)),none⟩,
 ⟨some 19,.bin .eql (.t 18) (.c (.d (.int .i64 1))),[],[9,7],(some (7,16,true)),none⟩,
 ⟨some 20,.pick (.t 16) (.t 19) (.c (.d (.bool false))),[],[7,10],none,none⟩,
 ⟨some 21,.mv (.t 20),[],[11,7],none,none⟩,
 ⟨some 22,.call 157 [],[],[12,12],(some (12,21,true)),none⟩,
 ⟨some 23,.faddr 1 (.t 2),[],[12],(some (12,21,true)),none⟩,
 ⟨some 24,.load none (.t 23),[],[14,12],(some (12,21,true)),none⟩,
 ⟨some 25,.call 155 [(.t 22),(.t 24)],[],[13,15,13,12],(some (12,21,true)),none⟩,
 ⟨some 26,.pick (.t 21) (.t 25) (.c (.d (.bool false))),[],[12,16],none,none⟩]
def g_tree_parser_rule.t4:Tr:=.one 17 .done
def g_tree_parser_rule.t5:Tr:=.one 16 g_tree_parser_rule.t4
def g_tree_parser_rule.t6:Tr:=.one 15 g_tree_parser_rule.t5
def g_tree_parser_rule.t7:Tr:=.one 14 g_tree_parser_rule.t6
def g_tree_parser_rule.t8:Tr:=.one 13 g_tree_parser_rule.t5
def g_tree_parser_rule.t9:Tr:=.one 15 g_tree_parser_rule.t8
def g_tree_parser_rule.t10:Tr:=.two 13 g_tree_parser_rule.t6 g_tree_parser_rule.t9
def g_tree_parser_rule.t11:Tr:=.one 14 g_tree_parser_rule.t10
def g_tree_parser_rule.t12:Tr:=.two 13 g_tree_parser_rule.t7 g_tree_parser_rule.t11
def g_tree_parser_rule.t13:Tr:=.one 12 g_tree_parser_rule.t12
def g_tree_parser_rule.t14:Tr:=.one 11 g_tree_parser_rule.t13
def g_tree_parser_rule.t15:Tr:=.one 10 g_tree_parser_rule.t14
def g_tree_parser_rule.t16:Tr:=.one 9 g_tree_parser_rule.t15
def g_tree_parser_rule.t17:Tr:=.one 8 g_tree_parser_rule.t16
def g_tree_parser_rule.t18:Tr:=.one 7 g_tree_parser_rule.t17
def g_tree_parser_rule.t19:Tr:=.one 6 g_tree_parser_rule.t18
def g_tree_parser_rule.t20:Tr:=.one 5 g_tree_parser_rule.t19
def g_tree_parser_rule.t21:Tr:=.one 4 g_tree_parser_rule.t20
def g_tree_parser_rule.i3:List Nat:=3::[]
def g_tree_parser_rule.i2:List Nat:=2::g_tree_parser_rule.i3
def g_tree_parser_rule.i1:List Nat:=1::g_tree_parser_rule.i2
def g_tree_parser_rule.c0:ACode :=
 .cond (.t 26) (.seq (.region [] none none
 [om 27 0,
 oo 28 (.call 218 [(.t 27),(.c (.d (.int .i64 9)))])])
 (.ret))
 (.skip)
def g_tree_parser_rule.o23:List AOper :=
 [oo 49 (.pick (.t 44) (.c (.d (.bool true))) (.t 48))]
def g_tree_parser_rule.o22:List AOper :=
 (og 45 (.faddr 1 (.t 5)) (3,44,false) ::
 og 46 (.load none (.t 45)) (3,44,false) ::
 og 47 (.call 158 [(.t 46)]) (3,44,false) ::
 ⟨some 48,.un .not (.t 47),[],[],(some (3,44,false)),(some ([0,3,5,44,48],none))⟩ ::
 g_tree_parser_rule.o23)
def g_tree_parser_rule.c1:ACode :=
 .cond (.t 49) (.seq (.region [] none none
 [om 50 0,
 oo 51 (.call 218 [(.t 50),(.c (.d (.int .i64 2)))])])
 (.ret))
 (.skip)
def g_tree_parser_rule.a24:List AOper :=
 [om 65 0,
 om 66 0,
 ⟨some 67,.nilc (.t 66),[],[1],none,none⟩,
 ⟨some 68,.faddr 3 (.t 67),[],[2],none,none⟩,
 ⟨some 69,.faddr 0 (.t 68),[],[3],none,none⟩,
 ⟨some 70,.load none (.t 69),[],[4],none,none⟩,
 om 71 3,
 oo 72 (.faddr 1 (.t 5)),
 ⟨some 73,.load none (.t 72),[],[7],none,none⟩,
 om 74 6,
 ⟨some 75,.build [.d (.str []),.d (.str []),.d (.int .i64 0)] [(0,1,(.t 71)),(1,1,(.t 73)),(2,1,(.t 74))],[],[6,8,9],none,none⟩,
 ⟨some 76,.bsl none 3 [] 1 [(0,(.t 75))],[],[10],none,none⟩,
 ⟨some 77,.app (some 77) 3 40 (.t 70) (.t 76),[],[5,11],none,(some ([],none))⟩,
 ⟨some 78,.nilc (.t 65),[],[0,0,1,2,3,4,5,6,7,8,9,10,11,12],none,none⟩,
 ⟨some 79,.faddr 3 (.t 78),[],[13,0,1,2,3,4,5,6,7,8,9,10,11,12],none,none⟩,
 ⟨some 80,.faddr 0 (.t 79),[],[14,0,1,2,3,4,5,6,7,8,9,10,11,12],none,none⟩,
 ⟨none,.store 1 (.t 80) (.t 77),[],[15,12,12,0,1,2,3,4,5,6,7,8,9,10,11,12],none,none⟩]
def g_tree_parser_rule.t32:Tr:=.one 16 .done
def g_tree_parser_rule.t33:Tr:=.one 15 g_tree_parser_rule.t32
def g_tree_parser_rule.t34:Tr:=.one 14 g_tree_parser_rule.t33
def g_tree_parser_rule.t35:Tr:=.one 13 g_tree_parser_rule.t34
def g_tree_parser_rule.t36:Tr:=.one 12 g_tree_parser_rule.t35
def g_tree_parser_rule.t37:Tr:=.one 11 g_tree_parser_rule.t36
def g_tree_parser_rule.t38:Tr:=.one 10 g_tree_parser_rule.t37
def g_tree_parser_rule.t39:Tr:=.one 8 g_tree_parser_rule.t38
def g_tree_parser_rule.t40:Tr:=.one 5 g_tree_parser_rule.t36
def g_tree_parser_rule.t41:Tr:=.one 11 g_tree_parser_rule.t40
def g_tree_parser_rule.t42:Tr:=.two 5 g_tree_parser_rule.t37 g_tree_parser_rule.t41
def g_tree_parser_rule.t43:Tr:=.one 10 g_tree_parser_rule.t42
def g_tree_parser_rule.t44:Tr:=.two 5 g_tree_parser_rule.t38 g_tree_parser_rule.t43
def g_tree_parser_rule.t45:Tr:=.one 8 g_tree_parser_rule.t44
def g_tree_parser_rule.t46:Tr:=.two 5 g_tree_parser_rule.t39 g_tree_parser_rule.t45
def g_tree_parser_rule.i31:List Nat:=9::[]
def g_tree_parser_rule.i30:List Nat:=7::g_tree_parser_rule.i31
def g_tree_parser_rule.i29:List Nat:=6::g_tree_parser_rule.i30
def g_tree_parser_rule.i28:List Nat:=4::g_tree_parser_rule.i29
def g_tree_parser_rule.i27:List Nat:=3::g_tree_parser_rule.i28
def g_tree_parser_rule.i26:List Nat:=2::g_tree_parser_rule.i27
def g_tree_parser_rule.i25:List Nat:=1::g_tree_parser_rule.i26
def g_tree_parser_rule.c2F (R_i25:List Nat)(R_t46:Tr):ACode :=
 .seq (.region [0,3,5] none none
 [om 59 0,
 oo 60 (.call 220 [(.t 59),(.c (.d (.str [61])))])])
 (.seq (.region [0,3,5,6] none none
 [om 61 0,
 oo 62 (.call 221 [(.t 61),(.c (.d (.int .i64 1)))]),
 om 6 62])
 (.seq (.region [0,3,5,6] none none
 [om 63 0,
 oo 64 (.call 220 [(.t 63),(.c (.d (.str [59])))])])
 (.region [] none (some (0::R_i25,R_t46)) g_tree_parser_rule.a24)))
def g_tree_parser_rule.c2:ACode:=g_tree_parser_rule.c2F g_tree_parser_rule.i25 g_tree_parser_rule.t46
def g_tree_parser_rule.c3:ACode :=
 .seq (.region [0,3,5] none none
 [om 52 0,
 oo 53 (.nilc (.t 52)),
 oo 54 (.faddr 2 (.t 53)),
 oo 55 (.load none (.t 54)),
 oo 56 (.bin .add (.t 55) (.c (.d (.int .i64 1)))),
 oo 57 (.nilc (.t 52)),
 oo 58 (.faddr 2 (.t 57)),
 ⟨none,.store 1 (.t 58) (.t 56),[],[],none,none⟩])
 (g_tree_parser_rule.c2)
def g_tree_parser_rule.c4:ACode :=
 .seq (.seq (.region [0,3,5,49] none none
 (oo 41 (.faddr 0 (.t 5)) ::
 oo 42 (.load none (.t 41)) ::
 oo 43 (.bin .neq (.t 42) (.c (.d (.int .i64 1)))) ::
 ⟨some 44,.mv (.t 43),[],[],none,(some ([0,3,5,44],none))⟩ ::
 g_tree_parser_rule.o22))
 (g_tree_parser_rule.c1))
 (g_tree_parser_rule.c3)
def g_tree_parser_rule.c5:ACode :=
 .seq (.region [0,3,5] none none
 [om 39 0,
 oo 40 (.call 217 [(.t 39)]),
 oo 5 (.alloc 5 [.d (.int .i64 0),.d (.str []),.d (.int .i64 0)]),
 ⟨none,.store 3 (.t 5) (.t 40),[],[],none,none⟩])
 (g_tree_parser_rule.c4)
def g_tree_parser_rule.c6:ACode :=
 .seq (.seq (.region [0,3,36] none none
 [om 35 4,
 oo 36 (.un .not (.t 35))])
 (.cond (.t 36) (.seq (.region [] none none
 [om 37 0,
 oo 38 (.call 218 [(.t 37),(.c (.d (.int .i64 2)))])])
 (.ret))
 (.skip)))
 (g_tree_parser_rule.c5)
def g_tree_parser_rule.c7:ACode :=
 .seq (.region [0,3,4] none none
 [om 30 0,
 oo 31 (.call 157 []),
 oo 32 (.call 219 [(.t 30),(.t 31)]),
 om 29 32,
 oo 33 (.ext (.t 29) 0),
 oo 34 (.ext (.t 29) 1),
 om 3 33,
 om 4 34])
 (g_tree_parser_rule.c6)
def g_tree_parser_rule.c8F (R_i1:List Nat)(R_t21:Tr)(R_c0:ACode)(R_c7:ACode):ACode :=
 .seq (.seq (.region [0,26] none (some (0::R_i1,R_t21)) g_tree_parser_rule.a0)
 (R_c0))
 (R_c7)
def g_tree_parser_rule.c8:ACode:=g_tree_parser_rule.c8F g_tree_parser_rule.i1 g_tree_parser_rule.t21 g_tree_parser_rule.c0 g_tree_parser_rule.c7
def g_tree_parser_rule.code:ACode :=
 .seq (.region [0,2] none none
 [om 7 0,
 oo 8 (.call 217 [(.t 7)]),
 oo 2 (.alloc 2 [.d (.int .i64 0),.d (.str []),.d (.int .i64 0)]),
 ⟨none,.store 3 (.t 2) (.t 8),[],[],none,none⟩])
 (g_tree_parser_rule.c8)
def g_tree_parser_rule:AFn:={ N:=81,res:=[],own:=[],frz:=[],code:=g_tree_parser_rule.code }
def g_ref07_All.o1:List AOper :=
 [oo 24 (.pick (.t 21) (.c (.d (.bool true))) (.t 23)),
 om 18 24]
def g_ref07_All.o0:List AOper :=
 (og 22 (.mv (.t 6)) (2,21,false) ::
 ow 23 (.bin .eql (.t 22) (.c (.d (.int .u8 10)))) (2,21,false) [0,4,5,6,7,8,21,23] [110] ::
 g_ref07_All.o1)
def g_ref07_All.o3:List AOper :=
 [oo 37 (.pick (.t 32) (.t 36) (.c (.d (.bool false))))]
def g_ref07_All.o2:List AOper :=
 (og 33 (.mv (.t 0)) (4,32,true) ::
 og 34 (.mv (.t 7)) (4,32,true) ::
 og 35 (.idx (.t 33) (.t 34)) (4,32,true) ::
 ow 36 (.bin .neq (.t 35) (.c (.d (.int .u8 10)))) (4,32,true) [0,4,5,7,32,36] [110] ::
 g_ref07_All.o3)
def g_ref07_All.c0:ACode :=
 .cond (.t 37) (.skip)
 (.exit 3)
def g_ref07_All.c1:ACode :=
 .block 4 [0,4,5,7] (some [110]) (.region [0,4,5,7] (some [110]) none
 [om 38 7,
 oo 39 (.bin .add (.t 38) (.c (.d (.int .i64 1)))),
 om 7 39])
def g_ref07_All.l1:ACode :=
 .loop [0,4,5,7] (some [110]) (.seq (.seq (.region [0,4,5,7,37] (some [110]) none
 (om 28 7 ::
 om 29 0 ::
 oo 30 (.lenS (.t 29)) ::
 oo 31 (.bin .lss (.t 28) (.t 30)) ::
 oz 32 (.mv (.t 31)) [0,4,5,7,32] [110] ::
 g_ref07_All.o2))
 (g_ref07_All.c0))
 (g_ref07_All.c1))
def g_ref07_All.c2:ACode :=
 .region [0,4,5,7,8] (some [110]) none
 [oo 8 (.mv (.c (.d (.int .i64 (-1)))))]
def g_ref07_All.c3:ACode :=
 .seq (.region [0,4,5,7,8,49] (some [110]) none
 [om 46 7,
 om 47 5,
 oo 48 (.bin .sub (.t 46) (.t 47)),
 oo 49 (.bin .lss (.t 48) (.c (.d (.int .i64 13))))])
 (.cond (.t 49) (.region [0,4,5,7,8] (some [110]) none
 [oo 8 (.mv (.c (.d (.int .i64 1))))])
 (.skip))
def g_ref07_All.c4:ACode :=
 .region [0,4,5,7,8] (some [110]) none
 [om 56 0,
 om 57 5,
 om 58 7,
 oo 59 (.slcS (.t 56) (some (.t 57)) (some (.t 58))),
 oo 60 (.call 98 [(.t 59)]),
 om 8 60]
def g_ref07_All.o13:List AOper :=
 [oo 93 (.pick (.t 68) (.t 92) (.c (.d (.bool false))))]
def g_ref07_All.o12:List AOper :=
 (ow 92 (.pick (.t 83) (.c (.d (.bool true))) (.t 91)) (4,68,true) [0,4,5,7,8,68,92] [110] ::
 g_ref07_All.o13)
def g_ref07_All.o11:List AOper :=
 (ow 91 (.pick (.t 86) (.t 90) (.c (.d (.bool false)))) (19,83,false) [0,4,5,7,8,68,83,91] [110] ::
 g_ref07_All.o12)
def g_ref07_All.o10:List AOper :=
 (og 87 (.mv (.t 0)) (22,86,true) ::
 og 88 (.mv (.t 7)) (22,86,true) ::
 og 89 (.idx (.t 87) (.t 88)) (22,86,true) ::
 ow 90 (.bin .eql (.t 89) (.c (.d (.int .u8 61)))) (22,86,true) [0,4,5,7,8,68,83,86,90] [110] ::
 g_ref07_All.o11)
def g_ref07_All.o9:List AOper :=
 (og 84 (.mv (.t 6)) (19,83,false) ::
 og 85 (.bin .eql (.t 84) (.c (.d (.int .u8 62)))) (19,83,false) ::
 ow 86 (.mv (.t 85)) (19,83,false) [0,4,5,7,8,68,83,86] [110] ::
 g_ref07_All.o10)
def g_ref07_All.o8:List AOper :=
 (og 82 (.pick (.t 71) (.t 81) (.c (.d (.bool false)))) (4,68,true) ::
 ow 83 (.mv (.t 82)) (4,68,true) [0,4,5,6,7,8,68,83] [110] ::
 g_ref07_All.o9)
def g_ref07_All.o7:List AOper :=
 (ow 81 (.pick (.t 76) (.c (.d (.bool true))) (.t 80)) (7,71,true) [0,4,5,6,7,8,68,71,81] [110] ::
 g_ref07_All.o8)
def g_ref07_All.o6:List AOper :=
 (og 77 (.mv (.t 0)) (12,76,false) ::
 og 78 (.mv (.t 7)) (12,76,false) ::
 og 79 (.idx (.t 77) (.t 78)) (12,76,false) ::
 ow 80 (.bin .eql (.t 79) (.c (.d (.int .u8 62)))) (12,76,false) [0,4,5,6,7,8,68,71,76,80] [110] ::
 g_ref07_All.o7)
def g_ref07_All.o5:List AOper :=
 (og 72 (.mv (.t 0)) (7,71,true) ::
 og 73 (.mv (.t 7)) (7,71,true) ::
 og 74 (.idx (.t 72) (.t 73)) (7,71,true) ::
 og 75 (.bin .eql (.t 74) (.c (.d (.int .u8 61)))) (7,71,true) ::
 ow 76 (.mv (.t 75)) (7,71,true) [0,4,5,6,7,8,68,71,76] [110] ::
 g_ref07_All.o6)
def g_ref07_All.o4:List AOper :=
 (og 69 (.mv (.t 6)) (4,68,true) ::
 og 70 (.bin .eql (.t 69) (.c (.d (.int .u8 60)))) (4,68,true) ::
 ow 71 (.mv (.t 70)) (4,68,true) [0,4,5,6,7,8,68,71] [110] ::
 g_ref07_All.o5)
def g_ref07_All.c5:ACode :=
 .cond (.t 93) (.region [0,4,5,7,8] (some [110]) none
 [om 94 7,
 oo 95 (.bin .add (.t 94) (.c (.d (.int .i64 1)))),
 om 7 95])
 (.skip)
def g_ref07_All.c6:ACode :=
 .cond (.t 18) (.region [0,4,5,7,8] (some [110]) none
 [oo 8 (.mv (.c (.d (.int .i64 (-1)))))])
 (.seq (.region [0,4,5,6,7,8,25] (some [110]) none
 [om 26 6,
 oo 27 (.bin .eql (.t 26) (.c (.d (.int .u8 35)))),
 om 25 27])
 (.cond (.t 25) (.seq (.block 3 [0,4,5,7] (some [110]) (g_ref07_All.l1))
 (g_ref07_All.c2))
 (.seq (.region [0,4,5,6,7,8,40] (some [110]) none
 [om 41 6,
 oo 42 (.call 96 [(.t 41),(.c (.d (.str [97,98,99,100,101,102,103,104,105,106,107,108,109,110,111,112,113,114,115,116,117,118,119,120,121,122])))]),
 om 40 42])
 (.cond (.t 40) (.seq (.region [0,4,5,7,8] (some [110]) none
 [om 43 0,
 om 44 5,
 oo 45 (.call 97 [(.t 43),(.t 44),(.c (.d (.str [97,98,99,100,101,102,103,104,105,106,107,108,109,110,111,112,113,114,115,116,117,118,119,120,121,122,48,49,50,51,52,53,54,55,56,57])))]),
 om 7 45])
 (g_ref07_All.c3))
 (.seq (.region [0,4,5,6,7,8,50] (some [110]) none
 [om 51 6,
 oo 52 (.call 96 [(.t 51),(.c (.d (.str [48,49,50,51,52,53,54,55,56,57])))]),
 om 50 52])
 (.cond (.t 50) (.seq (.region [0,4,5,7] (some [110]) none
 [om 53 0,
 om 54 5,
 oo 55 (.call 97 [(.t 53),(.t 54),(.c (.d (.str [48,49,50,51,52,53,54,55,56,57,46,37])))]),
 om 7 55])
 (g_ref07_All.c4))
 (.seq (.region [0,4,5,6,7,8,61] (some [110]) none
 [om 62 6,
 oo 63 (.call 96 [(.t 62),(.c (.d (.str [61,60,62,43,45,42,40,41,44,59])))]),
 om 61 63])
 (.cond (.t 61) (.seq (.region [0,4,5,6,7,8] (some [110]) none
 [oo 8 (.mv (.c (.d (.int .i64 5))))])
 (.seq (.region [0,4,5,7,8,93] (some [110]) none
 (om 64 7 ::
 om 65 0 ::
 oo 66 (.lenS (.t 65)) ::
 oo 67 (.bin .lss (.t 64) (.t 66)) ::
 oz 68 (.mv (.t 67)) [0,4,5,6,7,8,68] [110] ::
 g_ref07_All.o4))
 (g_ref07_All.c5)))
 (.skip)))))))))
def g_ref07_All.c7:ACode :=
 .region [0,4,5] (some [110]) none
 [om 111 7,
 om 5 111]
def g_ref07_All.c8:ACode :=
 .seq (.seq (.region [0,4,5,7,8,100] (some [110]) none
 [om 99 8,
 oo 100 (.bin .gtr (.t 99) (.c (.d (.int .i64 0))))])
 (.cond (.t 100) (.region [0,4,7] (some [110]) none
 [om 101 4,
 om 102 8,
 om 103 0,
 om 104 5,
 om 105 7,
 oo 106 (.slcS (.t 103) (some (.t 104)) (some (.t 105))),
 om 107 5,
 oo 108 (.build [.d (.int .i64 0),.d (.str []),.d (.int .i64 0)] [(0,1,(.t 102)),(1,1,(.t 106)),(2,1,(.t 107))]),
 oo 109 (.bsl none 3 [] 1 [(0,(.t 108))]),
 oo 110 (.app (some 110) 3 32 (.t 101) (.t 109)),
 om 4 110])
 (.skip)))
 (g_ref07_All.c7)
def g_ref07_All.c9:ACode :=
 .seq (.seq (.region [0,4,5,7,8,97] (some [110]) none
 [om 96 8,
 oo 97 (.bin .eql (.t 96) (.c (.d (.int .i64 0))))])
 (.cond (.t 97) (.seq (.region [2,3] (some [110]) none
 [om 98 5,
 oo 2 (.mv (.c (.cap0))),
 om 3 98])
 (.ret))
 (.skip)))
 (g_ref07_All.c8)
def g_ref07_All.c10:ACode :=
 .seq (.block 2 [0,4,5,7,8] (some [110]) (.seq (.region [0,4,5,6,7,8,18] (some [110]) none
 (om 19 6 ::
 oo 20 (.bin .eql (.t 19) (.c (.d (.int .u8 32)))) ::
 oz 21 (.mv (.t 20)) [0,4,5,6,7,8,21] [110] ::
 g_ref07_All.o0))
 (g_ref07_All.c6)))
 (g_ref07_All.c9)
def g_ref07_All.c11:ACode :=
 .seq (.region [0,4,5,6,7,8] (some [110]) none
 [om 16 5,
 oo 17 (.bin .add (.t 16) (.c (.d (.int .i64 1)))),
 om 7 17,
 oo 8 (.mv (.c (.d (.int .i64 0))))])
 (g_ref07_All.c10)
def g_ref07_All.c12:ACode :=
 .block 1 [0,4,5] (some [110]) (.seq (.region [0,4,5,6] (some [110]) none
 [om 13 0,
 om 14 5,
 oo 15 (.idx (.t 13) (.t 14)),
 om 6 15])
 (g_ref07_All.c11))
def g_ref07_All.l0:ACode :=
 .loop [0,4,5] (some [110]) (.seq (.seq (.region [0,4,5,12] (some [110]) none
 [om 9 5,
 om 10 0,
 oo 11 (.lenS (.t 10)),
 oo 12 (.bin .lss (.t 9) (.t 11))])
 (.cond (.t 12) (.skip)
 (.exit 0)))
 (g_ref07_All.c12))
def g_ref07_All.c13:ACode :=
 .seq (.region [2,3] (some [110]) none
 [om 112 4,
 om 2 112,
 oo 3 (.mv (.c (.d (.int .i64 (-1)))))])
 (.ret)
def g_ref07_All.code:ACode :=
 .seq (.region [0] (some []) none
 [oo 2 (.mv (.c (.cap0))),
 oo 3 (.mv (.c (.d (.int .i64 0))))])
 (.seq (.region [0,4] (some [110]) none
 [oo 4 (.mv (.c (.cap0)))])
 (.seq (.seq (.region [0,4,5] (some [110]) none
 [oo 5 (.mv (.c (.d (.int .i64 0))))])
 (.block 0 [4] (some [110]) (g_ref07_All.l0)))
 (g_ref07_All.c13)))
def g_ref07_All:AFn:={ N:=113,res:=[.slot 2,.slot 3],own:=[],frz:=[2],code:=g_ref07_All.code }
def g_ref08_text.o3:List AOper :=
 [oo 28 (.pick (.t 9) (.t 27) (.c (.d (.bool false))))]
def g_ref08_text.o2:List AOper :=
 (ow 27 (.pick (.t 18) (.c (.d (.bool true))) (.t 26)) (6,9,true) [1,9,27] [1,108] ::
 g_ref08_text.o3)
def g_ref08_text.o1:List AOper :=
 (og 19 (.faddr 0 (.t 1)) (15,18,false) ::
 og 20 (.load none (.t 19)) (15,18,false) ::
 og 21 (.faddr 2 (.t 1)) (15,18,false) ::
 og 22 (.load none (.t 21)) (15,18,false) ::
 og 23 (.iaddr 3 (.t 20) (.t 22)) (15,18,false) ::
 og 24 (.faddr 0 (.t 23)) (15,18,false) ::
 og 25 (.load none (.t 24)) (15,18,false) ::
 ow 26 (.bin .eql (.t 25) (.c (.d (.int .i64 5)))) (15,18,false) [1,9,18,26] [1,108] ::
 g_ref08_text.o2)
def g_ref08_text.o0:List AOper :=
 (og 10 (.faddr 0 (.t 1)) (6,9,true) ::
 og 11 (.load none (.t 10)) (6,9,true) ::
 og 12 (.faddr 2 (.t 1)) (6,9,true) ::
 og 13 (.load none (.t 12)) (6,9,true) ::
 og 14 (.iaddr 3 (.t 11) (.t 13)) (6,9,true) ::
 og 15 (.faddr 0 (.t 14)) (6,9,true) ::
 og 16 (.load none (.t 15)) (6,9,true) ::
 og 17 (.bin .eql (.t 16) (.c (.d (.int .i64 1)))) (6,9,true) ::
 ow 18 (.mv (.t 17)) (6,9,true) [1,9,18] [1,108] ::
 g_ref08_text.o1)
def g_ref08_text.c0:ACode :=
 .cond (.t 28) (.seq (.region [2] (some [108]) none
 [oo 29 (.faddr 0 (.t 1)),
 oo 30 (.load none (.t 29)),
 oo 31 (.faddr 2 (.t 1)),
 oo 32 (.load none (.t 31)),
 oo 33 (.iaddr 3 (.t 30) (.t 32)),
 oo 34 (.faddr 1 (.t 33)),
 oo 35 (.load none (.t 34)),
 om 2 35])
 (.ret))
 (.skip)
def g_ref08_text.c1:ACode :=
 .seq (.region [2] (some [108]) none
 [oo 2 (.mv (.c (.d (.str []))))])
 (.ret)
def g_ref08_text.code:ACode :=
 .seq (.region [1] (some [1,108]) none
 [oo 1 (.box 1 7 (.t 0)),
 oo 2 (.mv (.c (.d (.str []))))])
 (.seq (.seq (.region [1,28] (some [1,108]) none
 (oo 3 (.faddr 2 (.t 1)) ::
 oo 4 (.load none (.t 3)) ::
 oo 5 (.faddr 0 (.t 1)) ::
 oo 6 (.load none (.t 5)) ::
 oo 7 (.len (.t 6)) ::
 oo 8 (.bin .lss (.t 4) (.t 7)) ::
 oz 9 (.mv (.t 8)) [1,9] [1,108] ::
 g_ref08_text.o0))
 (g_ref08_text.c0))
 (g_ref08_text.c1))
def g_ref08_text:AFn:={ N:=36,res:=[.slot 2],own:=[],frz:=[],code:=g_ref08_text.code }
def g_ref08_one.c0:ACode :=
 .region [0,1,5] (some []) none
 [om 10 5,
 oo 11 (.bin .add (.t 10) (.c (.d (.int .i64 1)))),
 om 5 11]
def g_ref08_one.c1:ACode :=
 .seq (.block 1 [0,1,5] (some []) (.seq (.region [0,1,5,17] (some []) none
 [om 12 1,
 om 13 5,
 oo 14 (.iaddr 1 (.t 12) (.t 13)),
 oo 15 (.load none (.t 14)),
 om 16 0,
 oo 17 (.bin .eql (.t 15) (.t 16))])
 (.cond (.t 17) (.seq (.region [4] (some []) none
 [oo 4 (.mv (.c (.d (.bool true))))])
 (.ret))
 (.skip))))
 (g_ref08_one.c0)
def g_ref08_one.l0:ACode :=
 .loop [0,1,5] (some []) (.seq (.seq (.region [0,1,5,9] (some []) none
 [om 6 5,
 om 7 1,
 oo 8 (.len (.t 7)),
 oo 9 (.bin .lss (.t 6) (.t 8))])
 (.cond (.t 9) (.skip)
 (.exit 0)))
 (g_ref08_one.c1))
def g_ref08_one.c2:ACode :=
 .seq (.region [4] (some []) none
 [oo 4 (.mv (.c (.d (.bool false))))])
 (.ret)
def g_ref08_one.code:ACode :=
 .seq (.region [0,1] (some []) none
 [oo 4 (.mv (.c (.d (.bool false))))])
 (.seq (.seq (.region [0,1,5] (some []) none
 [oo 5 (.mv (.c (.d (.int .i64 0))))])
 (.block 0 [] (some []) (g_ref08_one.l0)))
 (g_ref08_one.c2))
def g_ref08_one:AFn:={ N:=18,res:=[.slot 4],own:=[],frz:=[],code:=g_ref08_one.code }
def g_ref08_wrong.c0:ACode :=
 .seq (.region [2,4,18] (some [2,4,108]) none
 [oo 13 (.faddr 2 (.t 2)),
 oo 14 (.load none (.t 13)),
 oo 15 (.faddr 0 (.t 2)),
 oo 16 (.load none (.t 15)),
 oo 17 (.len (.t 16)),
 oo 18 (.bin .lss (.t 14) (.t 17))])
 (.cond (.t 18) (.region [2,4] (some [2,4,108]) none
 [oo 19 (.faddr 0 (.t 2)),
 oo 20 (.load none (.t 19)),
 oo 21 (.faddr 2 (.t 2)),
 oo 22 (.load none (.t 21)),
 oo 23 (.iaddr 3 (.t 20) (.t 22)),
 oo 24 (.faddr 2 (.t 23)),
 oo 25 (.load none (.t 24)),
 oo 26 (.faddr 6 (.t 2)),
 ⟨none,.store 1 (.t 26) (.t 25),[],[],none,none⟩])
 (.skip))
def g_ref08_wrong.c1:ACode :=
 .seq (.region [4] (some [4,108]) none
 [oo 27 (.load (some 7) (.t 2)),
 ⟨none,.store 7 (.t 4) (.t 27),[],[],none,none⟩])
 (.ret)
def g_ref08_wrong.code:ACode :=
 .seq (.region [1,2,4] (some [2,4,108]) none
 [oo 2 (.box 2 7 (.t 0)),
 oo 4 (.alloc 4 [.cap0,.d (.int .i64 0),.d (.int .i64 0),.cap0,.cap0,.d (.int .i64 0),.d (.int .i64 0)])])
 (.seq (.seq (.region [1,2,4,7] (some [2,4,108]) none
 [oo 5 (.faddr 5 (.t 2)),
 oo 6 (.load none (.t 5)),
 oo 7 (.bin .eql (.t 6) (.c (.d (.int .i64 0))))])
 (.cond (.t 7) (.seq (.region [2,4] (some [2,4,108]) none
 [om 8 1,
 oo 9 (.faddr 5 (.t 2)),
 ⟨none,.store 1 (.t 9) (.t 8),[],[],none,none⟩])
 (.seq (.region [2,4] (some [2,4,108]) none
 [oo 10 (.faddr 1 (.t 2)),
 oo 11 (.load none (.t 10)),
 oo 12 (.faddr 6 (.t 2)),
 ⟨none,.store 1 (.t 12) (.t 11),[],[],none,none⟩])
 (g_ref08_wrong.c0)))
 (.skip)))
 (g_ref08_wrong.c1))
def g_ref08_wrong:AFn:={ N:=28,res:=[.cell 4 (some 7)],own:=[],frz:=[],code:=g_ref08_wrong.code }
def g_ref08_Taken.code:ACode :=
 .seq (.region [0] (some []) none
 [oo 2 (.mv (.c (.d (.bool false))))])
 (.seq (.region [2] (some []) none
 [om 3 0,
 oo 4 (.bsl none 1 [] 9 [(0,(.c (.d (.str [101,97,114,110])))),(1,(.c (.d (.str [112,114,101,116,97,120])))),(2,(.c (.d (.str [112,111,115,116])))),(3,(.c (.d (.str [108,101,116])))),(4,(.c (.d (.str [105,102])))),(5,(.c (.d (.str [116,104,101,110])))),(6,(.c (.d (.str [101,108,115,101])))),(7,(.c (.d (.str [109,105,110])))),(8,(.c (.d (.str [109,97,120]))))]),
 oo 5 (.call 154 [(.t 3),(.t 4)]),
 om 2 5])
 (.ret))
def g_ref08_Taken:AFn:={ N:=6,res:=[.slot 2],own:=[],frz:=[],code:=g_ref08_Taken.code }
def g_ref08_whole.c0:ACode :=
 .seq (.region [4,5] (some [4,108]) none
 [oo 52 (.load (some 7) (.t 2)),
 om 53 6,
 om 54 7,
 om 55 8,
 oo 56 (.build [.d (.str []),.d (.str []),.d (.int .i64 0),.d (.int .i64 0),.d (.int .i64 0),.d (.int .i64 0)] [(0,1,(.c (.d (.str [105,102])))),(3,1,(.t 53)),(4,1,(.t 54)),(5,1,(.t 55))]),
 oo 57 (.call 209 [(.t 52),(.t 56)]),
 oo 58 (.ext (.t 57) 0),
 oo 59 (.ext (.t 57) 1),
 ⟨none,.store 7 (.t 4) (.t 58),[],[],none,none⟩,
 om 5 59])
 (.ret)
def g_ref08_whole.c1:ACode :=
 .seq (.region [2,4,6,7,8] (some [2,4,108]) none
 [oo 45 (.load (some 7) (.t 2)),
 oo 46 (.call 195 [(.t 45),(.c (.d (.str [101,108,115,101])))]),
 om 47 1,
 oo 48 (.bin .add (.t 47) (.c (.d (.int .i64 1)))),
 oo 49 (.call 196 [(.t 46),(.t 48)]),
 om 44 49,
 oo 50 (.ext (.t 44) 0),
 oo 51 (.ext (.t 44) 1),
 ⟨none,.store 7 (.t 2) (.t 50),[],[],none,none⟩,
 om 8 51])
 (g_ref08_whole.c0)
def g_ref08_whole.c2:ACode :=
 .seq (.region [1,2,4,6,7] (some [2,4,108]) none
 [oo 37 (.load (some 7) (.t 2)),
 oo 38 (.call 195 [(.t 37),(.c (.d (.str [116,104,101,110])))]),
 om 39 1,
 oo 40 (.bin .add (.t 39) (.c (.d (.int .i64 1)))),
 oo 41 (.call 196 [(.t 38),(.t 40)]),
 om 36 41,
 oo 42 (.ext (.t 36) 0),
 oo 43 (.ext (.t 36) 1),
 ⟨none,.store 7 (.t 2) (.t 42),[],[],none,none⟩,
 om 7 43])
 (g_ref08_whole.c1)
def g_ref08_whole.c3:ACode :=
 .seq (.region [1,2,4,6] (some [2,4,108]) none
 [oo 30 (.load (some 7) (.t 2)),
 om 31 1,
 oo 32 (.bin .add (.t 31) (.c (.d (.int .i64 1)))),
 oo 33 (.call 196 [(.t 30),(.t 32)]),
 om 29 33,
 oo 34 (.ext (.t 29) 0),
 oo 35 (.ext (.t 29) 1),
 ⟨none,.store 7 (.t 2) (.t 34),[],[],none,none⟩,
 om 6 35])
 (g_ref08_whole.c2)
def g_ref08_whole.c4:ACode :=
 .seq (.region [1,2,4] (some [2,4,108]) none
 [oo 25 (.faddr 2 (.t 2)),
 oo 26 (.load none (.t 25)),
 oo 27 (.bin .add (.t 26) (.c (.d (.int .i64 1)))),
 oo 28 (.faddr 2 (.t 2)),
 ⟨none,.store 1 (.t 28) (.t 27),[],[],none,none⟩])
 (g_ref08_whole.c3)
def g_ref08_whole.c5:ACode :=
 .seq (.seq (.region [1,2,4,19] (some [2,4,108]) none
 [oo 17 (.load (some 7) (.t 2)),
 oo 18 (.call 193 [(.t 17)]),
 oo 19 (.bin .neq (.t 18) (.c (.d (.str [105,102]))))])
 (.cond (.t 19) (.seq (.region [4,5] (some [4,108]) none
 [oo 20 (.load (some 7) (.t 2)),
 om 21 1,
 oo 22 (.call 208 [(.t 20),(.t 21),(.c (.d (.int .i64 0)))]),
 oo 23 (.ext (.t 22) 0),
 oo 24 (.ext (.t 22) 1),
 ⟨none,.store 7 (.t 4) (.t 23),[],[],none,none⟩,
 om 5 24])
 (.ret))
 (.skip)))
 (g_ref08_whole.c4)
def g_ref08_whole.c6:ACode :=
 .seq (.seq (.region [1,2,4,15] (some [2,4,108]) none
 [oo 13 (.faddr 5 (.t 2)),
 oo 14 (.load none (.t 13)),
 oo 15 (.bin .neq (.t 14) (.c (.d (.int .i64 0))))])
 (.cond (.t 15) (.seq (.region [4,5] (some [4,108]) none
 [oo 16 (.load (some 7) (.t 2)),
 ⟨none,.store 7 (.t 4) (.t 16),[],[],none,none⟩,
 oo 5 (.mv (.c (.d (.int .i64 0))))])
 (.ret))
 (.skip)))
 (g_ref08_whole.c5)
def g_ref08_whole.code:ACode :=
 .seq (.region [1,2,4] (some [2,4,108]) none
 [oo 2 (.box 2 7 (.t 0)),
 oo 4 (.alloc 4 [.cap0,.d (.int .i64 0),.d (.int .i64 0),.cap0,.cap0,.d (.int .i64 0),.d (.int .i64 0)]),
 oo 5 (.mv (.c (.d (.int .i64 0))))])
 (.seq (.seq (.region [1,2,4,10] (some [2,4,108]) none
 [om 9 1,
 oo 10 (.bin .gtr (.t 9) (.c (.d (.int .i64 20))))])
 (.cond (.t 10) (.region [1,2,4] (some [2,4,108]) none
 [oo 11 (.load (some 7) (.t 2)),
 oo 12 (.call 194 [(.t 11),(.c (.d (.int .i64 9)))]),
 ⟨none,.store 7 (.t 2) (.t 12),[],[],none,none⟩])
 (.skip)))
 (g_ref08_whole.c6))
def g_ref08_whole:AFn:={ N:=60,res:=[.cell 4 (some 7),.slot 5],own:=[],frz:=[],code:=g_ref08_whole.code }
def g_ref08_must.c0:ACode :=
 .seq (.region [4] (some [4,108]) none
 [oo 19 (.load (some 7) (.t 2)),
 ⟨none,.store 7 (.t 4) (.t 19),[],[],none,none⟩])
 (.ret)
def g_ref08_must.c1:ACode :=
 .seq (.region [2,4] (some [2,4,108]) none
 [oo 15 (.faddr 2 (.t 2)),
 oo 16 (.load none (.t 15)),
 oo 17 (.bin .add (.t 16) (.c (.d (.int .i64 1)))),
 oo 18 (.faddr 2 (.t 2)),
 ⟨none,.store 1 (.t 18) (.t 17),[],[],none,none⟩])
 (g_ref08_must.c0)
def g_ref08_must.c2:ACode :=
 .seq (.seq (.region [2,4,12] (some [2,4,108]) none
 [oo 9 (.load (some 7) (.t 2)),
 oo 10 (.call 193 [(.t 9)]),
 om 11 1,
 oo 12 (.bin .neq (.t 10) (.t 11))])
 (.cond (.t 12) (.seq (.region [4] (some [4,108]) none
 [oo 13 (.load (some 7) (.t 2)),
 oo 14 (.call 194 [(.t 13),(.c (.d (.int .i64 2)))]),
 ⟨none,.store 7 (.t 4) (.t 14),[],[],none,none⟩])
 (.ret))
 (.skip)))
 (g_ref08_must.c1)
def g_ref08_must.code:ACode :=
 .seq (.region [1,2,4] (some [2,4,108]) none
 [oo 2 (.box 2 7 (.t 0)),
 oo 4 (.alloc 4 [.cap0,.d (.int .i64 0),.d (.int .i64 0),.cap0,.cap0,.d (.int .i64 0),.d (.int .i64 0)])])
 (.seq (.seq (.region [1,2,4,7] (some [2,4,108]) none
 [oo 5 (.faddr 5 (.t 2)),
 oo 6 (.load none (.t 5)),
 oo 7 (.bin .neq (.t 6) (.c (.d (.int .i64 0))))])
 (.cond (.t 7) (.seq (.region [4] (some [4,108]) none
 [oo 8 (.load (some 7) (.t 2)),
 ⟨none,.store 7 (.t 4) (.t 8),[],[],none,none⟩])
 (.ret))
 (.skip)))
 (g_ref08_must.c2))
def g_ref08_must:AFn:={ N:=20,res:=[.cell 4 (some 7)],own:=[],frz:=[],code:=g_ref08_must.code }
def g_show_sound.o1:List AOper :=
 [oo 36 (.pick (.t 31) (.c (.d (.bool true))) (.t 35))]
def g_show_sound.o0:List AOper :=
 (og 32 (.mv (.t 6)) (2,31,false) ::
 og 33 (.mv (.t 3)) (2,31,false) ::
 og 34 (.mm true [(.t 33),(.c (.d (.int .i64 1)))]) (2,31,false) ::
 ow 35 (.bin .geq (.t 32) (.t 34)) (2,31,false) [1,3,4,10,11,12,23,24,25,31,35] [1,4] ::
 g_show_sound.o1)
def g_show_sound.c0:ACode :=
 .cond (.t 36) (.seq (.region [2] (some []) none
 [oo 2 (.mv (.c (.d (.bool false))))])
 (.ret))
 (.skip)
def g_show_sound.c1:ACode :=
 .region [1,3,4,10,11,12,23,24,25] (some [1,4]) none
 [oo 37 (.bin .add (.t 25) (.c (.d (.int .i64 1)))),
 om 25 37]
def g_show_sound.l1:ACode :=
 .loop [1,3,4,10,11,12,23,24,25] (some [1,4]) (.seq (.region [1,3,4,10,11,12,23,24,25,26] (some [1,4]) none
 [oo 26 (.bin .lss (.t 25) (.t 24))])
 (.seq (.cond (.t 26) (.skip)
 (.exit 2))
 (.seq (.block 3 [1,3,4,10,11,12,23,24,25] (some [1,4]) (.seq (.region [1,3,4,6,10,11,12,23,24,25] (some [1,4]) none
 [oo 27 (.iaddr 1 (.t 23) (.t 25)),
 oo 28 (.load none (.t 27)),
 om 6 28])
 (.seq (.region [1,3,4,10,11,12,23,24,25,36] (some [1,4]) none
 (om 29 6 ::
 oo 30 (.bin .lss (.t 29) (.c (.d (.int .i64 0)))) ::
 oz 31 (.mv (.t 30)) [1,3,4,6,10,11,12,23,24,25,31] [1,4] ::
 g_show_sound.o0))
 (g_show_sound.c0))))
 (g_show_sound.c1))))
def g_show_sound.c2:ACode :=
 .block 2 [1,4,10,11,12] (some [1,4]) (g_show_sound.l1)
def g_show_sound.o3:List AOper :=
 [oo 47 (.pick (.t 42) (.c (.d (.bool true))) (.t 46))]
def g_show_sound.o2:List AOper :=
 (og 43 (.faddr 1 (.t 4)) (4,42,false) ::
 og 44 (.load none (.t 43)) (4,42,false) ::
 og 45 (.lenS (.t 44)) (4,42,false) ::
 ow 46 (.bin .gtr (.t 45) (.c (.d (.int .i64 12)))) (4,42,false) [1,10,11,12,42,46] [1] ::
 g_show_sound.o3)
def g_show_sound.c3:ACode :=
 .cond (.t 47) (.seq (.region [2] (some []) none
 [oo 2 (.mv (.c (.d (.bool false))))])
 (.ret))
 (.skip)
def g_show_sound.c4:ACode :=
 .seq (.region [1,10,11,12,47] (some [1]) none
 (oo 38 (.faddr 0 (.t 4)) ::
 oo 39 (.load none (.t 38)) ::
 oo 40 (.lenS (.t 39)) ::
 oo 41 (.bin .gtr (.t 40) (.c (.d (.int .i64 12)))) ::
 oz 42 (.mv (.t 41)) [1,4,10,11,12,42] [1,4] ::
 g_show_sound.o2))
 (g_show_sound.c3)
def g_show_sound.c5:ACode :=
 .seq (.seq (.region [1,3,4,10,11,12,23,24,25] (some [1,4]) none
 [oo 17 (.faddr 3 (.t 4)),
 oo 18 (.load none (.t 17)),
 oo 19 (.faddr 4 (.t 4)),
 oo 20 (.load none (.t 19)),
 oo 21 (.faddr 5 (.t 4)),
 oo 22 (.load none (.t 21)),
 oo 23 (.bsl none 1 [] 3 [(0,(.t 18)),(1,(.t 20)),(2,(.t 22))]),
 oo 24 (.len (.t 23)),
 oo 25 (.mv (.c (.d (.int .i64 0))))])
 (g_show_sound.c2))
 (g_show_sound.c4)
def g_show_sound.c6:ACode :=
 .region [1,10,11,12] (some [1]) none
 [oo 48 (.bin .add (.t 12) (.c (.d (.int .i64 1)))),
 om 12 48]
def g_show_sound.l0:ACode :=
 .loop [1,10,11,12] (some [1]) (.seq (.region [1,10,11,12,13] (some [1]) none
 [oo 13 (.bin .lss (.t 12) (.t 11))])
 (.seq (.cond (.t 13) (.skip)
 (.exit 0))
 (.seq (.block 1 [1,10,11,12] (some [1]) (.seq (.region [1,3,4,10,11,12] (some [1,4]) none
 [om 14 12,
 oo 15 (.iaddr 6 (.t 10) (.t 12)),
 oo 16 (.load (some 6) (.t 15)),
 oo 4 (.alloc 4 [.d (.str []),.d (.str []),.d (.int .i64 0),.d (.int .i64 0),.d (.int .i64 0),.d (.int .i64 0)]),
 om 3 14,
 ⟨none,.store 6 (.t 4) (.t 16),[],[],none,none⟩])
 (g_show_sound.c5)))
 (g_show_sound.c6))))
def g_show_sound.c7:ACode :=
 .block 0 [1] (some [1]) (g_show_sound.l0)
def g_show_sound.o9:List AOper :=
 [oo 78 (.pick (.t 73) (.c (.d (.bool true))) (.t 77))]
def g_show_sound.o8:List AOper :=
 (og 74 (.faddr 1 (.t 8)) (17,73,false) ::
 og 75 (.load none (.t 74)) (17,73,false) ::
 og 76 (.lenS (.t 75)) (17,73,false) ::
 ow 77 (.bin .gtr (.t 76) (.c (.d (.int .i64 12)))) (17,73,false) [1,50,51,52,73,77] [1] ::
 g_show_sound.o9)
def g_show_sound.o7:List AOper :=
 (oo 72 (.pick (.t 67) (.c (.d (.bool true))) (.t 71)) ::
 oz 73 (.mv (.t 72)) [1,8,50,51,52,73] [1,8] ::
 g_show_sound.o8)
def g_show_sound.o6:List AOper :=
 (og 68 (.faddr 0 (.t 8)) (11,67,false) ::
 og 69 (.load none (.t 68)) (11,67,false) ::
 og 70 (.lenS (.t 69)) (11,67,false) ::
 ow 71 (.bin .gtr (.t 70) (.c (.d (.int .i64 12)))) (11,67,false) [1,8,50,51,52,67,71] [1,8] ::
 g_show_sound.o7)
def g_show_sound.o5:List AOper :=
 (oo 66 (.pick (.t 59) (.c (.d (.bool true))) (.t 65)) ::
 oz 67 (.mv (.t 66)) [1,8,50,51,52,67] [1,8] ::
 g_show_sound.o6)
def g_show_sound.o4:List AOper :=
 (og 60 (.faddr 2 (.t 8)) (3,59,false) ::
 og 61 (.load none (.t 60)) (3,59,false) ::
 og 62 (.faddr 1 (.t 1)) (3,59,false) ::
 og 63 (.load none (.t 62)) (3,59,false) ::
 og 64 (.len (.t 63)) (3,59,false) ::
 ow 65 (.bin .geq (.t 61) (.t 64)) (3,59,false) [1,8,50,51,52,59,65] [1,8] ::
 g_show_sound.o5)
def g_show_sound.c8:ACode :=
 .cond (.t 78) (.seq (.region [2] (some []) none
 [oo 2 (.mv (.c (.d (.bool false))))])
 (.ret))
 (.skip)
def g_show_sound.c9:ACode :=
 .seq (.region [1,50,51,52,78] (some [1]) none
 (oo 56 (.faddr 2 (.t 8)) ::
 oo 57 (.load none (.t 56)) ::
 oo 58 (.bin .lss (.t 57) (.c (.d (.int .i64 0)))) ::
 oz 59 (.mv (.t 58)) [1,8,50,51,52,59] [1,8] ::
 g_show_sound.o4))
 (g_show_sound.c8)
def g_show_sound.c10:ACode :=
 .region [1,50,51,52] (some [1]) none
 [oo 79 (.bin .add (.t 52) (.c (.d (.int .i64 1)))),
 om 52 79]
def g_show_sound.l2:ACode :=
 .loop [1,50,51,52] (some [1]) (.seq (.region [1,50,51,52,53] (some [1]) none
 [oo 53 (.bin .lss (.t 52) (.t 51))])
 (.seq (.cond (.t 53) (.skip)
 (.exit 4))
 (.seq (.block 5 [1,50,51,52] (some [1]) (.seq (.region [1,8,50,51,52] (some [1,8]) none
 [oo 54 (.iaddr 3 (.t 50) (.t 52)),
 oo 55 (.load (some 3) (.t 54)),
 oo 8 (.alloc 8 [.d (.str []),.d (.str []),.d (.int .i64 0)]),
 ⟨none,.store 3 (.t 8) (.t 55),[],[],none,none⟩])
 (g_show_sound.c9)))
 (g_show_sound.c10))))
def g_show_sound.c11:ACode :=
 .block 4 [1] (some [1]) (g_show_sound.l2)
def g_show_sound.c12:ACode :=
 .seq (.region [2] (some []) none
 [oo 80 (.faddr 0 (.t 1)),
 oo 81 (.load none (.t 80)),
 oo 82 (.len (.t 81)),
 oo 83 (.bin .leq (.t 82) (.c (.d (.int .i64 60)))),
 om 2 83])
 (.ret)
def g_show_sound.c13:ACode :=
 .seq (.seq (.region [1,50,51,52] (some [1]) none
 [oo 49 (.faddr 0 (.t 1)),
 oo 50 (.load none (.t 49)),
 oo 51 (.len (.t 50)),
 oo 52 (.mv (.c (.d (.int .i64 0))))])
 (g_show_sound.c11))
 (g_show_sound.c12)
def g_show_sound.code:ACode :=
 .seq (.region [1] (some [1]) none
 [oo 1 (.box 1 2 (.t 0)),
 oo 2 (.mv (.c (.d (.bool false))))])
 (.seq (.seq (.region [1,10,11,12] (some [1]) none
 [oo 9 (.faddr 1 (.t 1)),
 oo 10 (.load none (.t 9)),
 oo 11 (.len (.t 10)),
 oo 12 (.mv (.c (.d (.int .i64 0))))])
 (g_show_sound.c7))
 (g_show_sound.c13))
def g_show_sound:AFn:={ N:=84,res:=[.slot 2],own:=[],frz:=[],code:=g_show_sound.code }
def g_show_text.c0:ACode :=
 .region [1,3,7,8,9] (some [1,3,503]) (some ([0,1,2,3,4,5,6,7,8,9,10,11,12],.one 13 (.done)))
 [oo 13 (.faddr 0 (.t 5)),
 ⟨some 14,.load none (.t 13),[],[0],none,none⟩,
 ⟨some 15,.bin .add (.t 14) (.c (.d (.str [32]))),[],[1],none,none⟩,
 oo 16 (.faddr 1 (.t 5)),
 ⟨some 17,.load none (.t 16),[],[3],none,none⟩,
 ⟨some 18,.bin .add (.t 15) (.t 17),[],[2,4],none,none⟩,
 ⟨some 19,.bin .add (.t 18) (.c (.d (.str [32,61,32]))),[],[5],none,none⟩,
 oo 20 (.load (some 2) (.t 1)),
 oo 21 (.faddr 2 (.t 5)),
 ⟨some 22,.load none (.t 21),[],[8],none,none⟩,
 ⟨some 23,.call 200 [(.t 20),(.t 22)],[],[7,9],none,none⟩,
 ⟨some 24,.bin .add (.t 19) (.t 23),[],[6,10],none,none⟩,
 ⟨some 25,.bin .add (.t 24) (.c (.d (.str [59,10]))),[],[11],none,none⟩,
 ⟨some 26,.callv (.f 128) [(.t 3),(.t 25)],[],[12,10],none,none⟩]
def g_show_text.c1:ACode :=
 .region [1,3,7,8,9] (some [1,3,503]) none
 [oo 27 (.bin .add (.t 9) (.c (.d (.int .i64 1)))),
 om 9 27]
def g_show_text.l0:ACode :=
 .loop [1,3,7,8,9] (some [1,3,503]) (.seq (.region [1,3,7,8,9,10] (some [1,3,503]) none
 [oo 10 (.bin .lss (.t 9) (.t 8))])
 (.seq (.cond (.t 10) (.skip)
 (.exit 0))
 (.seq (.block 1 [1,3,7,8,9] (some [1,3,503]) (.seq (.region [1,3,5,7,8,9] (some [1,3,5,503]) none
 [oo 11 (.iaddr 3 (.t 7) (.t 9)),
 oo 12 (.load (some 3) (.t 11)),
 oo 5 (.alloc 5 [.d (.str []),.d (.str []),.d (.int .i64 0)]),
 ⟨none,.store 3 (.t 5) (.t 12),[],[],none,none⟩])
 (g_show_text.c0)))
 (g_show_text.c1))))
def g_show_text.c2:ACode :=
 .block 0 [3] (some [3,503]) (g_show_text.l0)
def g_show_text.c3:ACode :=
 .seq (.region [2] (some []) none
 [oo 28 (.call 130 [(.t 3)]),
 om 2 28])
 (.ret)
def g_show_text.code:ACode :=
 .seq (.region [1] (some [1]) none
 [oo 1 (.box 1 2 (.t 0)),
 oo 2 (.mv (.c (.d (.str []))))])
 (.seq (.region [1,3] (some [1,3,503]) none
 [oo 3 (.allocB 3 503)])
 (.seq (.seq (.region [1,3,7,8,9] (some [1,3,503]) none
 [oo 6 (.faddr 0 (.t 1)),
 oo 7 (.load none (.t 6)),
 oo 8 (.len (.t 7)),
 oo 9 (.mv (.c (.d (.int .i64 0))))])
 (g_show_text.c2))
 (g_show_text.c3)))
def g_show_text:AFn:={ N:=29,res:=[.slot 2],own:=[],frz:=[],code:=g_show_text.code }
def g_show_same.o1:List AOper :=
 [oo 22 (.pick (.t 14) (.c (.d (.bool true))) (.t 21))]
def g_show_same.o0:List AOper :=
 (og 15 (.faddr 1 (.t 2)) (7,14,false) ::
 og 16 (.load none (.t 15)) (7,14,false) ::
 og 17 (.len (.t 16)) (7,14,false) ::
 og 18 (.faddr 1 (.t 3)) (7,14,false) ::
 og 19 (.load none (.t 18)) (7,14,false) ::
 og 20 (.len (.t 19)) (7,14,false) ::
 ow 21 (.bin .neq (.t 17) (.t 20)) (7,14,false) [2,3,14,21] [2,3] ::
 g_show_same.o1)
def g_show_same.c0:ACode :=
 .cond (.t 22) (.seq (.region [4] (some []) none
 [oo 4 (.mv (.c (.d (.bool false))))])
 (.ret))
 (.skip)
def g_show_same.c1:ACode :=
 .region [2,3,25,26] (some [2,3]) none
 [oo 40 (.bin .add (.t 26) (.c (.d (.int .i64 1)))),
 om 26 40]
def g_show_same.l0F (R_c1:ACode):ACode :=
 .loop [2,3,25,26] (some [2,3]) (.seq (.region [2,3,25,26,27] (some [2,3]) none
 [oo 27 (.bin .lss (.t 26) (.t 25))])
 (.seq (.cond (.t 27) (.skip)
 (.exit 0))
 (.seq (.block 1 [2,3,25,26] (some [2,3]) (.seq (.region [2,3,5,25,26] (some [2,3]) none
 [om 28 26,
 om 5 28])
 (.seq (.region [2,3,25,26,39] (some [2,3]) (some ([0,1,2,3,4,5,6,7,8,9,10],.done))
 [oo 29 (.faddr 0 (.t 2)),
 ⟨some 30,.load none (.t 29),[],[0],none,none⟩,
 om 31 5,
 ⟨some 32,.iaddr 3 (.t 30) (.t 31),[],[1,2],none,none⟩,
 ⟨some 33,.load (some 3) (.t 32),[],[3],none,none⟩,
 oo 34 (.faddr 0 (.t 3)),
 ⟨some 35,.load none (.t 34),[],[5],none,none⟩,
 om 36 5,
 ⟨some 37,.iaddr 3 (.t 35) (.t 36),[],[6,7],none,none⟩,
 ⟨some 38,.load (some 3) (.t 37),[],[8],none,none⟩,
 ⟨some 39,.eqs true [2,2,0] (.t 33) (.t 38),[],[4,9],none,none⟩])
 (.cond (.t 39) (.seq (.region [4] (some []) none
 [oo 4 (.mv (.c (.d (.bool false))))])
 (.ret))
 (.skip)))))
 (R_c1))))
def g_show_same.l0:ACode:=g_show_same.l0F g_show_same.c1
def g_show_same.c2:ACode :=
 .block 0 [2,3] (some [2,3]) (g_show_same.l0)
def g_show_same.c3:ACode :=
 .region [2,3,43,44] (some [2,3]) none
 [oo 58 (.bin .add (.t 44) (.c (.d (.int .i64 1)))),
 om 44 58]
def g_show_same.l1F (R_c3:ACode):ACode :=
 .loop [2,3,43,44] (some [2,3]) (.seq (.region [2,3,43,44,45] (some [2,3]) none
 [oo 45 (.bin .lss (.t 44) (.t 43))])
 (.seq (.cond (.t 45) (.skip)
 (.exit 2))
 (.seq (.block 3 [2,3,43,44] (some [2,3]) (.seq (.region [2,3,6,43,44] (some [2,3]) none
 [om 46 44,
 om 6 46])
 (.seq (.region [2,3,43,44,57] (some [2,3]) (some ([0,1,2,3,4,5,6,7,8,9,10],.done))
 [oo 47 (.faddr 1 (.t 2)),
 ⟨some 48,.load none (.t 47),[],[0],none,none⟩,
 om 49 6,
 ⟨some 50,.iaddr 6 (.t 48) (.t 49),[],[1,2],none,none⟩,
 ⟨some 51,.load (some 6) (.t 50),[],[3],none,none⟩,
 oo 52 (.faddr 1 (.t 3)),
 ⟨some 53,.load none (.t 52),[],[5],none,none⟩,
 om 54 6,
 ⟨some 55,.iaddr 6 (.t 53) (.t 54),[],[6,7],none,none⟩,
 ⟨some 56,.load (some 6) (.t 55),[],[8],none,none⟩,
 ⟨some 57,.eqs true [2,2,0,0,0,0] (.t 51) (.t 56),[],[4,9],none,none⟩])
 (.cond (.t 57) (.seq (.region [4] (some []) none
 [oo 4 (.mv (.c (.d (.bool false))))])
 (.ret))
 (.skip)))))
 (R_c3))))
def g_show_same.l1:ACode:=g_show_same.l1F g_show_same.c3
def g_show_same.c4:ACode :=
 .block 2 [] (some []) (g_show_same.l1)
def g_show_same.c5:ACode :=
 .seq (.region [4] (some []) none
 [oo 4 (.mv (.c (.d (.bool true))))])
 (.ret)
def g_show_same.c6:ACode :=
 .seq (.seq (.region [2,3,43,44] (some [2,3]) none
 [oo 41 (.faddr 1 (.t 2)),
 oo 42 (.load none (.t 41)),
 oo 43 (.len (.t 42)),
 oo 44 (.mv (.c (.d (.int .i64 0))))])
 (g_show_same.c4))
 (g_show_same.c5)
def g_show_same.c7:ACode :=
 .seq (.seq (.region [2,3,25,26] (some [2,3]) none
 [oo 23 (.faddr 0 (.t 2)),
 oo 24 (.load none (.t 23)),
 oo 25 (.len (.t 24)),
 oo 26 (.mv (.c (.d (.int .i64 0))))])
 (g_show_same.c2))
 (g_show_same.c6)
def g_show_same.code:ACode :=
 .seq (.region [2,3] (some [2,3]) none
 [oo 2 (.box 2 2 (.t 0)),
 oo 3 (.box 3 2 (.t 1)),
 oo 4 (.mv (.c (.d (.bool false))))])
 (.seq (.seq (.region [2,3,22] (some [2,3]) none
 (oo 7 (.faddr 0 (.t 2)) ::
 oo 8 (.load none (.t 7)) ::
 oo 9 (.len (.t 8)) ::
 oo 10 (.faddr 0 (.t 3)) ::
 oo 11 (.load none (.t 10)) ::
 oo 12 (.len (.t 11)) ::
 oo 13 (.bin .neq (.t 9) (.t 12)) ::
 oz 14 (.mv (.t 13)) [2,3,14] [2,3] ::
 g_show_same.o0))
 (g_show_same.c0))
 (g_show_same.c7))
def g_show_same:AFn:={ N:=59,res:=[.slot 4],own:=[],frz:=[],code:=g_show_same.code }
def g_show_write.o1:List AOper :=
 [oo 23 (.pick (.t 20) (.t 22) (.c (.d (.bool false))))]
def g_show_write.o0:List AOper :=
 (og 21 (.mv (.t 7)) (3,20,true) ::
 ow 22 (.bin .geq (.t 21) (.c (.d (.int .i64 0)))) (3,20,true) [2,5,6,7,20,22] [2,5,13,50,58,60,63,68,505] ::
 g_show_write.o1)
def g_show_write.c0:ACode :=
 .cond (.t 23) (.skip)
 (.exit 0)
def g_show_write.c1:ACode :=
 .seq (.region [2,5,6,7,10] (some [2,5,13,50,58,60,63,68,505]) none
 [om 64 10,
 oo 65 (.call 212 [(.t 64)])])
 (.region [2,5,6,7] (some [2,5,13,50,58,60,63,68,505]) none
 [om 66 6,
 om 67 10,
 oo 68 (.app (some 68) 3 32 (.t 66) (.t 67)),
 om 6 68])
def g_show_write.c2F (R_c1:ACode):ACode :=
 .seq (.region [2,5,6,7,8,9,10] (some [2,5,8,9,13,50,58,60,63,68,505]) none
 [oo 49 (.load (some 6) (.t 9)),
 oo 50 (.call 210 [(.t 49)]),
 om 10 50])
 (.seq (.seq (.region [2,5,6,7,10,56] (some [2,5,13,50,58,60,63,68,505]) (some ([0,1,2,3,4,5],.done))
 [oo 51 (.faddr 0 (.t 9)),
 ⟨some 52,.load none (.t 51),[],[0],none,none⟩,
 ⟨some 53,.call 211 [(.t 52)],[],[1],none,none⟩,
 oo 54 (.faddr 2 (.t 8)),
 ⟨some 55,.load none (.t 54),[],[3],none,none⟩,
 ⟨some 56,.bin .lss (.t 53) (.t 55),[],[2,4],none,none⟩])
 (.cond (.t 56) (.region [2,5,6,7,10] (some [2,5,13,50,58,60,63,68,505]) none
 [oo 57 (.build [.d (.str []),.d (.int .i64 0),.d (.int .i64 0)] [(0,1,(.c (.d (.str [40]))))]),
 oo 58 (.bsl (some 58) 3 [] 1 [(0,(.t 57))]),
 om 59 10,
 oo 60 (.app (some 60) 3 32 (.t 58) (.t 59)),
 oo 61 (.build [.d (.str []),.d (.int .i64 0),.d (.int .i64 0)] [(0,1,(.c (.d (.str [41]))))]),
 oo 62 (.bsl none 3 [] 1 [(0,(.t 61))]),
 oo 63 (.app (some 63) 3 32 (.t 60) (.t 62)),
 om 10 63])
 (.skip)))
 (R_c1))
def g_show_write.c2:ACode:=g_show_write.c2F g_show_write.c1
def g_show_write.c3:ACode :=
 .seq (.region [2,5,6,7,8] (some [2,5,8,13,50,58,60,63,68,505]) none
 [om 41 7,
 oo 42 (.bin .sub (.t 41) (.c (.d (.int .i64 1)))),
 om 7 42])
 (.seq (.region [2,5,6,7,8,9] (some [2,5,8,9,13,50,58,60,63,68,505]) none
 [oo 43 (.faddr 1 (.t 2)),
 oo 44 (.load none (.t 43)),
 oo 45 (.faddr 1 (.t 8)),
 oo 46 (.load none (.t 45)),
 oo 47 (.iaddr 6 (.t 44) (.t 46)),
 oo 48 (.load (some 6) (.t 47)),
 oo 9 (.alloc 9 [.d (.str []),.d (.str []),.d (.int .i64 0),.d (.int .i64 0),.d (.int .i64 0),.d (.int .i64 0)]),
 ⟨none,.store 6 (.t 9) (.t 48),[],[],none,none⟩])
 (g_show_write.c2))
def g_show_write.c4:ACode :=
 .seq (.seq (.region [2,5,6,7,8,37] (some [2,5,8,13,50,58,60,63,68,505]) none
 [oo 35 (.faddr 0 (.t 8)),
 oo 36 (.load none (.t 35)),
 oo 37 (.bin .neq (.t 36) (.c (.d (.str []))))])
 (.cond (.t 37) (.seq (.region [2,5,6,7] (some [2,5,13,50,58,60,63,68,505]) none
 [oo 38 (.faddr 0 (.t 8)),
 oo 39 (.load none (.t 38)),
 oo 40 (.call 128 [(.t 5),(.t 39)])])
 (.exit 1))
 (.skip)))
 (g_show_write.c3)
def g_show_write.c5:ACode :=
 .seq (.region [2,5,6,7,8] (some [2,5,8,13,50,58,60,63,68,505]) none
 [om 30 6,
 om 31 6,
 oo 32 (.len (.t 31)),
 oo 33 (.bin .sub (.t 32) (.c (.d (.int .i64 1)))),
 oo 34 (.cut (.t 30) (.t 33)),
 om 6 34])
 (g_show_write.c4)
def g_show_write.c6:ACode :=
 .block 1 [2,5,6,7] (some [2,5,13,50,58,60,63,68,505]) (.seq (.region [2,5,6,7,8] (some [2,5,8,13,50,58,60,63,68,505]) none
 [om 24 6,
 om 25 6,
 oo 26 (.len (.t 25)),
 oo 27 (.bin .sub (.t 26) (.c (.d (.int .i64 1)))),
 oo 28 (.iaddr 3 (.t 24) (.t 27)),
 oo 29 (.load (some 3) (.t 28)),
 oo 8 (.alloc 8 [.d (.str []),.d (.int .i64 0),.d (.int .i64 0)]),
 ⟨none,.store 3 (.t 8) (.t 29),[],[],none,none⟩])
 (g_show_write.c5))
def g_show_write.l0:ACode :=
 .loop [2,5,6,7] (some [2,5,13,50,58,60,63,68,505]) (.seq (.seq (.region [2,5,6,7,23] (some [2,5,13,50,58,60,63,68,505]) none
 (om 17 6 ::
 oo 18 (.len (.t 17)) ::
 oo 19 (.bin .gtr (.t 18) (.c (.d (.int .i64 0)))) ::
 oz 20 (.mv (.t 19)) [2,5,6,7,20] [2,5,13,50,58,60,63,68,505] ::
 g_show_write.o0))
 (g_show_write.c0))
 (g_show_write.c6))
def g_show_write.c7:ACode :=
 .block 0 [5] (some [5,505]) (g_show_write.l0)
def g_show_write.c8:ACode :=
 .seq (.region [4] (some []) none
 [oo 69 (.call 130 [(.t 5)]),
 om 4 69])
 (.ret)
def g_show_write.c9:ACode :=
 .seq (.seq (.region [2,5,6,7] (some [2,5,13,50,58,60,63,68,505]) none
 [oo 14 (.faddr 1 (.t 2)),
 oo 15 (.load none (.t 14)),
 oo 16 (.len (.t 15)),
 om 7 16])
 (g_show_write.c7))
 (g_show_write.c8)
def g_show_write.code:ACode :=
 .seq (.region [1,2] (some [2]) none
 [oo 2 (.box 2 2 (.t 0)),
 oo 4 (.mv (.c (.d (.str []))))])
 (.seq (.region [1,2,5] (some [2,5,505]) none
 [oo 5 (.allocB 5 505)])
 (.seq (.region [2,5,6] (some [2,5,13,50,58,60,63,68,505]) none
 [om 11 1,
 oo 12 (.build [.d (.str []),.d (.int .i64 0),.d (.int .i64 0)] [(1,1,(.t 11))]),
 oo 13 (.bsl (some 13) 3 [] 1 [(0,(.t 12))]),
 om 6 13])
 (g_show_write.c9)))
def g_show_write:AFn:={ N:=70,res:=[.slot 4],own:=[],frz:=[],code:=g_show_write.code }
def g_ref09_level.c0:ACode :=
 .region [0,5,6,7] (some []) none
 [oo 14 (.bin .add (.t 7) (.c (.d (.int .i64 1)))),
 om 7 14]
def g_ref09_level.l0:ACode :=
 .loop [0,5,6,7] (some []) (.seq (.region [0,5,6,7,8] (some []) none
 [oo 8 (.bin .lss (.t 7) (.t 6))])
 (.seq (.cond (.t 8) (.skip)
 (.exit 0))
 (.seq (.block 1 [0,5,6,7] (some []) (.seq (.region [0,4,5,6,7] (some []) none
 [oo 9 (.iaddr 1 (.t 5) (.t 7)),
 oo 10 (.load none (.t 9)),
 om 4 10])
 (.seq (.region [0,5,6,7,13] (some []) none
 [om 11 4,
 om 12 0,
 oo 13 (.bin .eql (.t 11) (.t 12))])
 (.cond (.t 13) (.seq (.region [2] (some []) none
 [oo 2 (.mv (.c (.d (.int .i64 1))))])
 (.ret))
 (.skip)))))
 (g_ref09_level.c0))))
def g_ref09_level.c1:ACode :=
 .cond (.t 18) (.seq (.region [2] (some []) none
 [oo 2 (.mv (.c (.d (.int .i64 2))))])
 (.ret))
 (.seq (.region [21] (some []) none
 [oo 22 (.bin .eql (.t 15) (.c (.d (.str [42])))),
 om 21 22])
 (.cond (.t 21) (.seq (.region [2] (some []) none
 [oo 2 (.mv (.c (.d (.int .i64 3))))])
 (.ret))
 (.skip)))
def g_ref09_level.c2:ACode :=
 .seq (.region [2] (some []) none
 [oo 2 (.mv (.c (.d (.int .i64 4))))])
 (.ret)
def g_ref09_level.c3:ACode :=
 .seq (.seq (.region [15] (some []) none
 [om 15 0])
 (.block 2 [] (some []) (.seq (.region [15,16] (some []) none
 [oo 17 (.bin .eql (.t 15) (.c (.d (.str [105,102])))),
 om 16 17])
 (.cond (.t 16) (.seq (.region [2] (some []) none
 [oo 2 (.mv (.c (.d (.int .i64 0))))])
 (.ret))
 (.seq (.seq (.region [15,18] (some []) none
 [oo 19 (.bin .eql (.t 15) (.c (.d (.str [43])))),
 om 18 19])
 (.cond (.t 18) (.skip)
 (.region [15,18] (some []) none
 [oo 20 (.bin .eql (.t 15) (.c (.d (.str [45])))),
 om 18 20])))
 (g_ref09_level.c1))))))
 (g_ref09_level.c2)
def g_ref09_level.code:ACode :=
 .seq (.region [0] (some []) none
 [oo 2 (.mv (.c (.d (.int .i64 0))))])
 (.seq (.seq (.region [0,5,6,7] (some []) none
 [oo 5 (.bsl none 1 [] 6 [(0,(.c (.d (.str [60])))),(1,(.c (.d (.str [60,61])))),(2,(.c (.d (.str [61])))),(3,(.c (.d (.str [60,62])))),(4,(.c (.d (.str [62])))),(5,(.c (.d (.str [62,61]))))]),
 oo 6 (.len (.t 5)),
 oo 7 (.mv (.c (.d (.int .i64 0))))])
 (.block 0 [0] (some []) (g_ref09_level.l0)))
 (g_ref09_level.c3))
def g_ref09_level:AFn:={ N:=23,res:=[.slot 2],own:=[],frz:=[],code:=g_ref09_level.code }
def g_ref01_Digits.l0:ACode :=
 .loop [0,3] (some []) (.seq (.seq (.region [0,3,11] (some []) none
 [om 10 0,
 oo 11 (.bin .gtr (.t 10) (.c (.d (.int .i64 9))))])
 (.cond (.t 11) (.skip)
 (.exit 0)))
 (.block 1 [0,3] (some []) (.seq (.region [0,3] (some []) none
 [om 12 0,
 oo 13 (.bin .quo (.t 12) (.c (.d (.int .i64 10)))),
 om 0 13])
 (.region [0,3] (some []) none
 [om 14 0,
 oo 15 (.bin .rem (.t 14) (.c (.d (.int .i64 10)))),
 oo 16 (.bin .add (.c (.d (.int .i64 48))) (.t 15)),
 oo 17 (.conv .u8 (.t 16)),
 oo 18 (.bsl none 1 [] 1 [(0,(.t 17))]),
 oo 19 (.bstr (.t 18)),
 om 20 3,
 oo 21 (.bin .add (.t 19) (.t 20)),
 om 3 21]))))
def g_ref01_Digits.c0:ACode :=
 .seq (.region [2] (some []) none
 [om 22 3,
 om 2 22])
 (.ret)
def g_ref01_Digits.c1:ACode :=
 .seq (.block 0 [3] (some []) (g_ref01_Digits.l0))
 (g_ref01_Digits.c0)
def g_ref01_Digits.code:ACode :=
 .seq (.region [0] (some []) none
 [oo 2 (.mv (.c (.d (.str []))))])
 (.seq (.region [0,3] (some []) none
 [om 4 0,
 oo 5 (.bin .rem (.t 4) (.c (.d (.int .i64 10)))),
 oo 6 (.bin .add (.c (.d (.int .i64 48))) (.t 5)),
 oo 7 (.conv .u8 (.t 6)),
 oo 8 (.bsl none 1 [] 1 [(0,(.t 7))]),
 oo 9 (.bstr (.t 8)),
 om 3 9])
 (g_ref01_Digits.c1))
def g_ref01_Digits:AFn:={ N:=23,res:=[.slot 2],own:=[],frz:=[],code:=g_ref01_Digits.code }
def g_ref01_Text.c0:ACode :=
 .seq (.region [2] (some []) none
 [om 9 0,
 oo 10 (.bin .quo (.t 9) (.c (.d (.int .i64 100)))),
 oo 11 (.call 71 [(.t 10)]),
 oo 12 (.bin .add (.t 11) (.c (.d (.str [46])))),
 om 13 0,
 oo 14 (.bin .rem (.t 13) (.c (.d (.int .i64 100)))),
 oo 15 (.bin .quo (.t 14) (.c (.d (.int .i64 10)))),
 oo 16 (.call 71 [(.t 15)]),
 oo 17 (.bin .add (.t 12) (.t 16)),
 om 18 0,
 oo 19 (.bin .rem (.t 18) (.c (.d (.int .i64 10)))),
 oo 20 (.call 71 [(.t 19)]),
 oo 21 (.bin .add (.t 17) (.t 20)),
 om 2 21])
 (.ret)
def g_ref01_Text.code:ACode :=
 .seq (.region [0] (some []) none
 [oo 2 (.mv (.c (.d (.str []))))])
 (.seq (.seq (.region [0,4] (some []) none
 [om 3 0,
 oo 4 (.bin .lss (.t 3) (.c (.d (.int .i64 0))))])
 (.cond (.t 4) (.seq (.region [2] (some []) none
 [om 5 0,
 oo 6 (.un .neg (.t 5)),
 oo 7 (.call 54 [(.t 6)]),
 oo 8 (.bin .add (.c (.d (.str [45]))) (.t 7)),
 om 2 8])
 (.ret))
 (.skip)))
 (g_ref01_Text.c0))
def g_ref01_Text:AFn:={ N:=22,res:=[.slot 2],own:=[],frz:=[],code:=g_ref01_Text.code }
def g_ref09_held.c0:ACode :=
 .seq (.region [6] (some []) none
 [om 13 0,
 om 6 13])
 (.ret)
def g_ref09_held.code:ACode :=
 .seq (.region [0,1,2] (some []) none
 [oo 6 (.mv (.c (.d (.str []))))])
 (.seq (.seq (.region [0,9] (some []) none
 [om 7 1,
 om 8 2,
 oo 9 (.bin .lss (.t 7) (.t 8))])
 (.cond (.t 9) (.seq (.region [6] (some []) none
 [om 10 0,
 oo 11 (.bin .add (.c (.d (.str [40]))) (.t 10)),
 oo 12 (.bin .add (.t 11) (.c (.d (.str [41])))),
 om 6 12])
 (.ret))
 (.skip)))
 (g_ref09_held.c0))
def g_ref09_held:AFn:={ N:=14,res:=[.slot 6],own:=[],frz:=[],code:=g_ref09_held.code }
def g_lex_run.o1:List AOper :=
 [oo 19 (.pick (.t 13) (.t 18) (.c (.d (.bool false))))]
def g_lex_run.o0:List AOper :=
 (og 14 (.mv (.t 2)) (4,13,true) ::
 og 15 (.mv (.t 0)) (4,13,true) ::
 og 16 (.mv (.t 7)) (4,13,true) ::
 og 17 (.idx (.t 15) (.t 16)) (4,13,true) ::
 ⟨some 18,.callv (.t 14) [(.t 17)],[],[],(some (4,13,true)),(some ([0,1,2,7,13,18],none))⟩ ::
 g_lex_run.o1)
def g_lex_run.c0:ACode :=
 .cond (.t 19) (.skip)
 (.exit 0)
def g_lex_run.c1:ACode :=
 .block 1 [0,1,2,7] none (.region [0,1,2,7] none none
 [om 20 7,
 oo 21 (.bin .add (.t 20) (.c (.d (.int .i64 1)))),
 om 7 21])
def g_lex_run.l0:ACode :=
 .loop [0,1,2,7] none (.seq (.seq (.region [0,1,2,7,19] none none
 (om 9 7 ::
 om 10 0 ::
 oo 11 (.lenS (.t 10)) ::
 oo 12 (.bin .lss (.t 9) (.t 11)) ::
 ⟨some 13,.mv (.t 12),[],[],none,(some ([0,1,2,7,13],none))⟩ ::
 g_lex_run.o0))
 (g_lex_run.c0))
 (g_lex_run.c1))
def g_lex_run.c2:ACode :=
 .seq (.region [6] none none
 [om 22 7,
 om 23 1,
 oo 24 (.bin .sub (.t 22) (.t 23)),
 om 6 24])
 (.ret)
def g_lex_run.code:ACode :=
 .seq (.region [0,1,2] none none
 [oo 6 (.mv (.c (.d (.int .i64 0))))])
 (.seq (.region [0,1,2,7] none none
 [om 8 1,
 om 7 8])
 (.seq (.block 0 [1,7] none (g_lex_run.l0))
 (g_lex_run.c2)))
def g_lex_run:AFn:={ N:=25,res:=[.slot 6],own:=[],frz:=[],code:=g_lex_run.code }
def g_lex_All_1.code:ACode :=
 .seq (.region [0] (some []) none
 [oo 2 (.mv (.c (.d (.bool false))))])
 (.seq (.region [2] (some []) none
 [om 3 0,
 oo 4 (.bin .neq (.t 3) (.c (.d (.int .u8 10)))),
 om 2 4])
 (.ret))
def g_lex_All_1:AFn:={ N:=5,res:=[.slot 2],own:=[],frz:=[],code:=g_lex_All_1.code }
def g_lex_one.c0:ACode :=
 .seq (.region [4,5] (some []) none
 [om 21 7,
 oo 4 (.mv (.c (.d (.int .i64 1)))),
 om 5 21])
 (.ret)
def g_lex_one.c1:ACode :=
 .seq (.seq (.region [7,20] (some []) none
 [om 19 7,
 oo 20 (.bin .gtr (.t 19) (.c (.d (.int .i64 12))))])
 (.cond (.t 20) (.seq (.region [4,5] (some []) none
 [oo 4 (.mv (.c (.d (.int .i64 0)))),
 oo 5 (.mv (.c (.d (.int .i64 0))))])
 (.ret))
 (.skip)))
 (g_lex_one.c0)
def g_lex_one.c2:ACode :=
 .seq (.region [4,5] (some []) none
 [om 28 0,
 om 29 1,
 om 30 1,
 om 31 8,
 oo 32 (.bin .add (.t 30) (.t 31)),
 oo 33 (.slcS (.t 28) (some (.t 29)) (some (.t 32))),
 oo 34 (.call 109 [(.t 33)]),
 om 35 8,
 om 4 34,
 om 5 35])
 (.ret)
def g_lex_one.c3:ACode :=
 .block 0 [0,1] (some []) (.seq (.region [0,1,6,13] (some []) none
 [om 14 6,
 oo 15 (.call 105 [(.t 14)]),
 om 13 15])
 (.cond (.t 13) (.seq (.region [7] (some []) none
 [om 16 0,
 om 17 1,
 oo 18 (.call 102 [(.t 16),(.t 17),(.f 106)]),
 om 7 18])
 (g_lex_one.c1))
 (.seq (.region [0,1,22] (some []) none
 [om 23 6,
 oo 24 (.call 107 [(.t 23)]),
 om 22 24])
 (.cond (.t 22) (.seq (.region [0,1,8] (some []) none
 [om 25 0,
 om 26 1,
 oo 27 (.call 102 [(.t 25),(.t 26),(.f 108)]),
 om 8 27])
 (g_lex_one.c2))
 (.skip)))))
def g_lex_one.c4:ACode :=
 .seq (.region [4,5] (some []) none
 [om 42 9,
 oo 4 (.mv (.c (.d (.int .i64 5)))),
 om 5 42])
 (.ret)
def g_lex_one.c5:ACode :=
 .seq (.seq (.region [9,41] (some []) none
 [om 40 9,
 oo 41 (.bin .eql (.t 40) (.c (.d (.int .i64 0))))])
 (.cond (.t 41) (.seq (.region [4,5] (some []) none
 [oo 4 (.mv (.c (.d (.int .i64 0)))),
 oo 5 (.mv (.c (.d (.int .i64 0))))])
 (.ret))
 (.skip)))
 (g_lex_one.c4)
def g_lex_one.c6:ACode :=
 .seq (.region [9] (some []) none
 [om 36 0,
 om 37 1,
 oo 38 (.slcS (.t 36) (some (.t 37)) none),
 oo 39 (.call 110 [(.t 38)]),
 om 9 39])
 (g_lex_one.c5)
def g_lex_one.code:ACode :=
 .seq (.region [0,1] (some []) none
 [oo 4 (.mv (.c (.d (.int .i64 0)))),
 oo 5 (.mv (.c (.d (.int .i64 0))))])
 (.seq (.seq (.region [0,1,6] (some []) none
 [om 10 0,
 om 11 1,
 oo 12 (.idx (.t 10) (.t 11)),
 om 6 12])
 (g_lex_one.c3))
 (g_lex_one.c6))
def g_lex_one:AFn:={ N:=43,res:=[.slot 4,.slot 5],own:=[],frz:=[],code:=g_lex_one.code }
def g_tree_parser_token.c0:ACode :=
 .seq (.region [2] none none
 [om 23 0,
 oo 24 (.nilc (.t 23)),
 oo 25 (.faddr 1 (.t 24)),
 oo 26 (.load none (.t 25)),
 oo 27 (.build [.d (.int .i64 0),.d (.str []),.d (.int .i64 0)] [(2,1,(.t 26))]),
 ⟨none,.store 3 (.t 2) (.t 27),[],[],none,none⟩])
 (.ret)
def g_tree_parser_token.codeF (R_c0:ACode):ACode :=
 .seq (.region [0,2] none none
 [oo 2 (.alloc 2 [.d (.int .i64 0),.d (.str []),.d (.int .i64 0)])])
 (.seq (.seq (.region [0,2,12] none (some ([0,1,2,3,4,5,6,7,8,9],.done))
 [om 3 0,
 ⟨some 4,.nilc (.t 3),[],[0],none,none⟩,
 ⟨some 5,.faddr 2 (.t 4),[],[1],none,none⟩,
 ⟨some 6,.load none (.t 5),[],[2],none,none⟩,
 om 7 0,
 ⟨some 8,.nilc (.t 7),[],[4],none,none⟩,
 ⟨some 9,.faddr 0 (.t 8),[],[5],none,none⟩,
 ⟨some 10,.load none (.t 9),[],[6],none,none⟩,
 ⟨some 11,.len (.t 10),[],[7],none,none⟩,
 ⟨some 12,.bin .lss (.t 6) (.t 11),[],[3,8],none,none⟩])
 (.cond (.t 12) (.seq (.region [2] none (some ([0,1,2,3,4,5,6,7,8,9],.one 10 (.done)))
 [om 13 0,
 ⟨some 14,.nilc (.t 13),[],[0],none,none⟩,
 ⟨some 15,.faddr 0 (.t 14),[],[1],none,none⟩,
 ⟨some 16,.load none (.t 15),[],[2],none,none⟩,
 om 17 0,
 ⟨some 18,.nilc (.t 17),[],[4],none,none⟩,
 ⟨some 19,.faddr 2 (.t 18),[],[5],none,none⟩,
 ⟨some 20,.load none (.t 19),[],[6],none,none⟩,
 ⟨some 21,.iaddr 3 (.t 16) (.t 20),[],[3,7],none,none⟩,
 ⟨some 22,.load (some 3) (.t 21),[],[8],none,none⟩,
 ⟨none,.store 3 (.t 2) (.t 22),[],[9,0,1,2,3,4,5,6,7,8,9],none,none⟩])
 (.ret))
 (.skip)))
 (R_c0))
def g_tree_parser_token.code:ACode:=g_tree_parser_token.codeF g_tree_parser_token.c0
def g_tree_parser_token:AFn:={ N:=28,res:=[.cell 2 (some 3)],own:=[],frz:=[2],code:=g_tree_parser_token.code }
def g_slices_Contains_string.code:ACode :=
 .seq (.region [0,1] (some []) none
 [oo 4 (.mv (.c (.d (.bool false))))])
 (.seq (.region [4] (some []) none
 [om 5 0,
 om 6 1,
 oo 7 (.call 156 [(.t 5),(.t 6)]),
 oo 8 (.bin .geq (.t 7) (.c (.d (.int .i64 0)))),
 om 4 8])
 (.ret))
def g_slices_Contains_string:AFn:={ N:=9,res:=[.slot 4],own:=[],frz:=[],code:=g_slices_Contains_string.code }
def g_tree_kinds.code:ACode :=
 .seq (.region [] (some []) none
 [oo 0 (.mv (.c (.cap0)))])
 (.seq (.region [0] (some [1]) none
 [oo 1 (.bsl (some 1) 1 [] 4 [(0,(.c (.d (.str [101,97,114,110])))),(1,(.c (.d (.str [112,114,101,116,97,120])))),(2,(.c (.d (.str [112,111,115,116])))),(3,(.c (.d (.str [108,101,116]))))]),
 om 0 1])
 (.ret))
def g_tree_kinds:AFn:={ N:=2,res:=[.slot 0],own:=[(0,1,1)],frz:=[],code:=g_tree_kinds.code }
def g_tree_parser_fail.code:ACode :=
 .seq (.region [0,1,8] none none
 [om 4 0,
 oo 5 (.nilc (.t 4)),
 oo 6 (.faddr 5 (.t 5)),
 oo 7 (.load none (.t 6)),
 oo 8 (.bin .eql (.t 7) (.c (.d (.int .i64 0))))])
 (.cond (.t 8) (.region [] none none
 [om 9 0,
 om 10 0,
 om 11 1,
 om 12 0,
 oo 13 (.call 217 [(.t 12)]),
 oo 14 (.fld 2 none (.t 13)),
 oo 15 (.nilc (.t 9)),
 oo 16 (.faddr 5 (.t 15)),
 ⟨none,.store 1 (.t 16) (.t 11),[],[],none,none⟩,
 oo 17 (.nilc (.t 10)),
 oo 18 (.faddr 6 (.t 17)),
 ⟨none,.store 1 (.t 18) (.t 14),[],[],none,none⟩])
 (.skip))
def g_tree_parser_fail:AFn:={ N:=19,res:=[],own:=[],frz:=[],code:=g_tree_parser_fail.code }
def g_tree_parser_take.o5:List AOper :=
 [oo 30 (.pick (.t 24) (.c (.d (.bool true))) (.t 29))]
def g_tree_parser_take.o4:List AOper :=
 (og 25 (.mv (.t 1)) (15,24,false) ::
 og 26 (.faddr 1 (.t 6)) (15,24,false) ::
 og 27 (.load none (.t 26)) (15,24,false) ::
 og 28 (.call 155 [(.t 25),(.t 27)]) (15,24,false) ::
 ⟨some 29,.un .not (.t 28),[],[],(some (15,24,false)),(some ([0,6,24,29],none))⟩ ::
 g_tree_parser_take.o5)
def g_tree_parser_take.o3:List AOper :=
 (oo 23 (.pick (.t 14) (.c (.d (.bool true))) (.t 22)) ::
 ⟨some 24,.mv (.t 23),[],[],none,(some ([0,1,6,24],none))⟩ ::
 g_tree_parser_take.o4)
def g_tree_parser_take.o2:List AOper :=
 (⟨some 22,.pick (.t 18) (.t 21) (.c (.d (.bool false))),[],[],(some (5,14,false)),(some ([0,1,6,14,22],none))⟩ ::
 g_tree_parser_take.o3)
def g_tree_parser_take.o1:List AOper :=
 (og 19 (.faddr 0 (.t 6)) (9,18,true) ::
 og 20 (.load none (.t 19)) (9,18,true) ::
 ⟨some 21,.bin .neq (.t 20) (.c (.d (.int .i64 5))),[],[],(some (9,18,true)),(some ([0,1,6,14,18,21],none))⟩ ::
 g_tree_parser_take.o2)
def g_tree_parser_take.o0:List AOper :=
 (og 15 (.faddr 0 (.t 6)) (5,14,false) ::
 og 16 (.load none (.t 15)) (5,14,false) ::
 og 17 (.bin .neq (.t 16) (.c (.d (.int .i64 1)))) (5,14,false) ::
 ⟨some 18,.mv (.t 17),[],[],(some (5,14,false)),(some ([0,1,6,14,18],none))⟩ ::
 g_tree_parser_take.o1)
def g_tree_parser_take.c0:ACode :=
 .cond (.t 30) (.seq (.region [4,5] none none
 [oo 4 (.mv (.c (.d (.str [])))),
 oo 5 (.mv (.c (.d (.bool false))))])
 (.ret))
 (.skip)
def g_tree_parser_take.c1:ACode :=
 .seq (.region [4,5] none none
 [oo 38 (.faddr 1 (.t 6)),
 oo 39 (.load none (.t 38)),
 om 4 39,
 oo 5 (.mv (.c (.d (.bool true))))])
 (.ret)
def g_tree_parser_take.c2:ACode :=
 .seq (.region [6] none none
 [om 31 0,
 oo 32 (.nilc (.t 31)),
 oo 33 (.faddr 2 (.t 32)),
 oo 34 (.load none (.t 33)),
 oo 35 (.bin .add (.t 34) (.c (.d (.int .i64 1)))),
 oo 36 (.nilc (.t 31)),
 oo 37 (.faddr 2 (.t 36)),
 ⟨none,.store 1 (.t 37) (.t 35),[],[],none,none⟩])
 (g_tree_parser_take.c1)
def g_tree_parser_take.c3:ACode :=
 .seq (.seq (.region [0,6,30] none none
 (om 9 0 ::
 oo 10 (.nilc (.t 9)) ::
 oo 11 (.faddr 5 (.t 10)) ::
 oo 12 (.load none (.t 11)) ::
 oo 13 (.bin .neq (.t 12) (.c (.d (.int .i64 0)))) ::
 ⟨some 14,.mv (.t 13),[],[],none,(some ([0,1,6,14],none))⟩ ::
 g_tree_parser_take.o0))
 (g_tree_parser_take.c0))
 (g_tree_parser_take.c2)
def g_tree_parser_take.code:ACode :=
 .seq (.region [0,1] none none
 [oo 4 (.mv (.c (.d (.str [])))),
 oo 5 (.mv (.c (.d (.bool false))))])
 (.seq (.region [0,1,6] none none
 [om 7 0,
 oo 8 (.call 217 [(.t 7)]),
 oo 6 (.alloc 6 [.d (.int .i64 0),.d (.str []),.d (.int .i64 0)]),
 ⟨none,.store 3 (.t 6) (.t 8),[],[],none,none⟩])
 (g_tree_parser_take.c3))
def g_tree_parser_take:AFn:={ N:=40,res:=[.slot 4,.slot 5],own:=[],frz:=[],code:=g_tree_parser_take.code }
def g_tree_named.code:ACode :=
 .seq (.region [0] (some []) none
 [oo 2 (.mv (.c (.d (.bool false))))])
 (.seq (.region [2] (some []) none
 [oo 3 (.call 157 []),
 oo 4 (.bsl none 1 [] 5 [(0,(.c (.d (.str [105,102])))),(1,(.c (.d (.str [116,104,101,110])))),(2,(.c (.d (.str [101,108,115,101])))),(3,(.c (.d (.str [109,105,110])))),(4,(.c (.d (.str [109,97,120]))))]),
 oo 5 (.app none 1 16 (.t 3) (.t 4)),
 om 6 0,
 oo 7 (.call 155 [(.t 5),(.t 6)]),
 oo 8 (.un .not (.t 7)),
 om 2 8])
 (.ret))
def g_tree_named:AFn:={ N:=9,res:=[.slot 2],own:=[],frz:=[],code:=g_tree_named.code }
def g_tree_parser_need.c0:ACode :=
 .seq (.region [0,14] none none
 [om 13 5,
 oo 14 (.un .not (.t 13))])
 (.cond (.t 14) (.region [] none none
 [om 15 0,
 oo 16 (.call 218 [(.t 15),(.c (.d (.int .i64 2)))])])
 (.skip))
def g_tree_parser_need.code:ACode :=
 .seq (.region [0,5] none none
 [om 7 0,
 om 8 1,
 oo 9 (.bsl none 1 [] 1 [(0,(.t 8))]),
 oo 10 (.call 219 [(.t 7),(.t 9)]),
 om 6 10,
 oo 11 (.ext (.t 6) 0),
 oo 12 (.ext (.t 6) 1),
 om 4 11,
 om 5 12])
 (g_tree_parser_need.c0)
def g_tree_parser_need:AFn:={ N:=17,res:=[],own:=[],frz:=[],code:=g_tree_parser_need.code }
def g_tree_parser_expression.c0:ACode :=
 .seq (.region [4] none none
 [om 46 0,
 om 47 7,
 om 48 8,
 om 49 9,
 oo 50 (.build [.d (.str []),.d (.str []),.d (.int .i64 0),.d (.int .i64 0),.d (.int .i64 0),.d (.int .i64 0)] [(0,1,(.c (.d (.str [105,102])))),(3,1,(.t 47)),(4,1,(.t 48)),(5,1,(.t 49))]),
 oo 51 (.call 222 [(.t 46),(.t 50)]),
 om 4 51])
 (.ret)
def g_tree_parser_expression.c1:ACode :=
 .seq (.region [0,1,7,8] none none
 [om 40 0,
 oo 41 (.call 220 [(.t 40),(.c (.d (.str [101,108,115,101])))])])
 (.seq (.region [0,7,8,9] none none
 [om 42 0,
 om 43 1,
 oo 44 (.bin .add (.t 43) (.c (.d (.int .i64 1)))),
 oo 45 (.call 221 [(.t 42),(.t 44)]),
 om 9 45])
 (g_tree_parser_expression.c0))
def g_tree_parser_expression.c2:ACode :=
 .seq (.region [0,1,7] none none
 [om 34 0,
 oo 35 (.call 220 [(.t 34),(.c (.d (.str [116,104,101,110])))])])
 (.seq (.region [0,1,7,8] none none
 [om 36 0,
 om 37 1,
 oo 38 (.bin .add (.t 37) (.c (.d (.int .i64 1)))),
 oo 39 (.call 221 [(.t 36),(.t 38)]),
 om 8 39])
 (g_tree_parser_expression.c1))
def g_tree_parser_expression.c3:ACode :=
 .seq (.region [0,1,29] none none
 [om 29 6])
 (.cond (.t 29) (.seq (.region [0,1,7] none none
 [om 30 0,
 om 31 1,
 oo 32 (.bin .add (.t 31) (.c (.d (.int .i64 1)))),
 oo 33 (.call 221 [(.t 30),(.t 32)]),
 om 7 33])
 (g_tree_parser_expression.c2))
 (.skip))
def g_tree_parser_expression.c4:ACode :=
 .seq (.region [4] none none
 [om 65 0,
 om 66 11,
 om 67 10,
 om 68 13,
 oo 69 (.build [.d (.str []),.d (.str []),.d (.int .i64 0),.d (.int .i64 0),.d (.int .i64 0),.d (.int .i64 0)] [(0,1,(.t 66)),(3,1,(.t 67)),(4,1,(.t 68))]),
 oo 70 (.call 222 [(.t 65),(.t 69)]),
 om 4 70])
 (.ret)
def g_tree_parser_expression.c5:ACode :=
 .seq (.region [0,1,10,11,61] none none
 [om 61 12])
 (.cond (.t 61) (.seq (.region [0,10,11,13] none none
 [om 62 0,
 om 63 1,
 oo 64 (.call 223 [(.t 62),(.t 63)]),
 om 13 64])
 (g_tree_parser_expression.c4))
 (.skip))
def g_tree_parser_expression.c6:ACode :=
 .seq (.region [4] none none
 [om 71 10,
 om 4 71])
 (.ret)
def g_tree_parser_expression.c7:ACode :=
 .seq (.seq (.region [0,1,10,11,12] none none
 [om 56 0,
 oo 57 (.bsl none 1 [] 6 [(0,(.c (.d (.str [60])))),(1,(.c (.d (.str [60,61])))),(2,(.c (.d (.str [61])))),(3,(.c (.d (.str [60,62])))),(4,(.c (.d (.str [62])))),(5,(.c (.d (.str [62,61]))))]),
 oo 58 (.call 219 [(.t 56),(.t 57)]),
 om 55 58,
 oo 59 (.ext (.t 55) 0),
 oo 60 (.ext (.t 55) 1),
 om 11 59,
 om 12 60])
 (g_tree_parser_expression.c5))
 (g_tree_parser_expression.c6)
def g_tree_parser_expression.c8:ACode :=
 .seq (.region [0,1,10] none none
 [om 52 0,
 om 53 1,
 oo 54 (.call 223 [(.t 52),(.t 53)]),
 om 10 54])
 (g_tree_parser_expression.c7)
def g_tree_parser_expression.c9:ACode :=
 .seq (.seq (.region [0,1,6] none none
 [om 24 0,
 oo 25 (.bsl none 1 [] 1 [(0,(.c (.d (.str [105,102]))))]),
 oo 26 (.call 219 [(.t 24),(.t 25)]),
 om 23 26,
 oo 27 (.ext (.t 23) 0),
 oo 28 (.ext (.t 23) 1),
 om 5 27,
 om 6 28])
 (g_tree_parser_expression.c3))
 (g_tree_parser_expression.c8)
def g_tree_parser_expression.c10:ACode :=
 .seq (.seq (.region [0,1,22] none none
 [om 18 0,
 oo 19 (.nilc (.t 18)),
 oo 20 (.faddr 5 (.t 19)),
 oo 21 (.load none (.t 20)),
 oo 22 (.bin .neq (.t 21) (.c (.d (.int .i64 0))))])
 (.cond (.t 22) (.seq (.region [4] none none
 [oo 4 (.mv (.c (.d (.int .i64 0))))])
 (.ret))
 (.skip)))
 (g_tree_parser_expression.c9)
def g_tree_parser_expression.code:ACode :=
 .seq (.region [0,1] none none
 [oo 4 (.mv (.c (.d (.int .i64 0))))])
 (.seq (.seq (.region [0,1,15] none none
 [om 14 1,
 oo 15 (.bin .gtr (.t 14) (.c (.d (.int .i64 20))))])
 (.cond (.t 15) (.region [0,1] none none
 [om 16 0,
 oo 17 (.call 218 [(.t 16),(.c (.d (.int .i64 9)))])])
 (.skip)))
 (g_tree_parser_expression.c10))
def g_tree_parser_expression:AFn:={ N:=72,res:=[.slot 4],own:=[],frz:=[],code:=g_tree_parser_expression.code }
def g_ref07_in.c0:ACode :=
 .region [0,1,5] (some []) none
 [om 10 5,
 oo 11 (.bin .add (.t 10) (.c (.d (.int .i64 1)))),
 om 5 11]
def g_ref07_in.c1:ACode :=
 .seq (.block 1 [0,1,5] (some []) (.seq (.region [0,1,5,16] (some []) none
 [om 12 1,
 om 13 5,
 oo 14 (.idx (.t 12) (.t 13)),
 om 15 0,
 oo 16 (.bin .eql (.t 14) (.t 15))])
 (.cond (.t 16) (.seq (.region [4] (some []) none
 [oo 4 (.mv (.c (.d (.bool true))))])
 (.ret))
 (.skip))))
 (g_ref07_in.c0)
def g_ref07_in.l0:ACode :=
 .loop [0,1,5] (some []) (.seq (.seq (.region [0,1,5,9] (some []) none
 [om 6 5,
 om 7 1,
 oo 8 (.lenS (.t 7)),
 oo 9 (.bin .lss (.t 6) (.t 8))])
 (.cond (.t 9) (.skip)
 (.exit 0)))
 (g_ref07_in.c1))
def g_ref07_in.c2:ACode :=
 .seq (.region [4] (some []) none
 [oo 4 (.mv (.c (.d (.bool false))))])
 (.ret)
def g_ref07_in.code:ACode :=
 .seq (.region [0,1] (some []) none
 [oo 4 (.mv (.c (.d (.bool false))))])
 (.seq (.seq (.region [0,1,5] (some []) none
 [oo 5 (.mv (.c (.d (.int .i64 0))))])
 (.block 0 [] (some []) (g_ref07_in.l0)))
 (g_ref07_in.c2))
def g_ref07_in:AFn:={ N:=17,res:=[.slot 4],own:=[],frz:=[],code:=g_ref07_in.code }
def g_ref07_end.o1:List AOper :=
 [oo 17 (.pick (.t 11) (.t 16) (.c (.d (.bool false))))]
def g_ref07_end.o0:List AOper :=
 (og 12 (.mv (.t 0)) (4,11,true) ::
 og 13 (.mv (.t 1)) (4,11,true) ::
 og 14 (.idx (.t 12) (.t 13)) (4,11,true) ::
 og 15 (.mv (.t 2)) (4,11,true) ::
 ow 16 (.call 96 [(.t 14),(.t 15)]) (4,11,true) [0,1,2,11,16] [] ::
 g_ref07_end.o1)
def g_ref07_end.c0:ACode :=
 .cond (.t 17) (.skip)
 (.exit 0)
def g_ref07_end.c1:ACode :=
 .block 1 [0,1,2] (some []) (.region [0,1,2] (some []) none
 [om 18 1,
 oo 19 (.bin .add (.t 18) (.c (.d (.int .i64 1)))),
 om 1 19])
def g_ref07_end.l0:ACode :=
 .loop [0,1,2] (some []) (.seq (.seq (.region [0,1,2,17] (some []) none
 (om 7 1 ::
 om 8 0 ::
 oo 9 (.lenS (.t 8)) ::
 oo 10 (.bin .lss (.t 7) (.t 9)) ::
 oz 11 (.mv (.t 10)) [0,1,2,11] [] ::
 g_ref07_end.o0))
 (g_ref07_end.c0))
 (g_ref07_end.c1))
def g_ref07_end.c2:ACode :=
 .seq (.region [6] (some []) none
 [om 20 1,
 om 6 20])
 (.ret)
def g_ref07_end.code:ACode :=
 .seq (.region [0,1,2] (some []) none
 [oo 6 (.mv (.c (.d (.int .i64 0))))])
 (.seq (.block 0 [1] (some []) (g_ref07_end.l0))
 (g_ref07_end.c2))
def g_ref07_end:AFn:={ N:=21,res:=[.slot 6],own:=[],frz:=[],code:=g_ref07_end.code }
def g_ref07_kind.c0:ACode :=
 .seq (.seq (.region [0,6,17] (some []) none
 [om 17 4])
 (.cond (.t 17) (.seq (.region [2] (some []) none
 [oo 2 (.mv (.c (.d (.int .i64 3))))])
 (.ret))
 (.skip)))
 (.seq (.seq (.region [0,18] (some []) none
 [om 18 6])
 (.cond (.t 18) (.seq (.region [2] (some []) none
 [oo 2 (.mv (.c (.d (.int .i64 4))))])
 (.ret))
 (.skip)))
 (.seq (.seq (.region [20] (some []) none
 [om 19 0,
 oo 20 (.call 111 [(.t 19)])])
 (.cond (.t 20) (.seq (.region [2] (some []) none
 [oo 2 (.mv (.c (.d (.int .i64 2))))])
 (.ret))
 (.skip)))
 (.seq (.region [2] (some []) none
 [oo 2 (.mv (.c (.d (.int .i64 0))))])
 (.ret))))
def g_ref07_kind.c1:ACode :=
 .seq (.region [0,4,6] (some []) none
 [om 13 0,
 oo 14 (.call 93 [(.t 13)]),
 om 12 14,
 oo 15 (.ext (.t 12) 0),
 oo 16 (.ext (.t 12) 1),
 om 5 15,
 om 6 16])
 (g_ref07_kind.c0)
def g_ref07_kind.code:ACode :=
 .seq (.region [0] (some []) none
 [oo 2 (.mv (.c (.d (.int .i64 0))))])
 (.seq (.region [0,4] (some []) none
 [om 8 0,
 oo 9 (.call 52 [(.t 8)]),
 om 7 9,
 oo 10 (.ext (.t 7) 0),
 oo 11 (.ext (.t 7) 1),
 om 3 10,
 om 4 11])
 (g_ref07_kind.c1))
def g_ref07_kind:AFn:={ N:=21,res:=[.slot 2],own:=[],frz:=[],code:=g_ref07_kind.code }
def g_ref08_chain.o1:List AOper :=
 [oo 38 (.pick (.t 32) (.t 37) (.c (.d (.bool false))))]
def g_ref08_chain.o0:List AOper :=
 (og 33 (.load (some 7) (.t 3)) (3,32,true) ::
 og 34 (.call 193 [(.t 33)]) (3,32,true) ::
 og 35 (.mv (.t 2)) (3,32,true) ::
 og 36 (.call 215 [(.t 35)]) (3,32,true) ::
 ow 37 (.call 154 [(.t 34),(.t 36)]) (3,32,true) [1,2,3,6,8,32,37] [3,6,108] ::
 g_ref08_chain.o1)
def g_ref08_chain.c0:ACode :=
 .cond (.t 38) (.skip)
 (.exit 0)
def g_ref08_chain.c1:ACode :=
 .seq (.region [1,2,3,6,8,65] (some [3,6,108]) none
 [om 64 2,
 oo 65 (.bin .eql (.t 64) (.c (.d (.int .i64 0))))])
 (.cond (.t 65) (.exit 0)
 (.skip))
def g_ref08_chain.c2:ACode :=
 .seq (.region [1,2,3,6,8] (some [3,6,108]) none
 [oo 62 (.load (some 7) (.t 12)),
 om 63 13,
 ⟨none,.store 7 (.t 3) (.t 62),[],[],none,none⟩,
 om 8 63])
 (g_ref08_chain.c1)
def g_ref08_chain.c3:ACode :=
 .seq (.region [1,2,3,6,12,13] (some [3,6,12,108]) none
 [oo 54 (.load (some 7) (.t 10)),
 om 55 9,
 om 56 8,
 om 57 11,
 oo 58 (.build [.d (.str []),.d (.str []),.d (.int .i64 0),.d (.int .i64 0),.d (.int .i64 0),.d (.int .i64 0)] [(0,1,(.t 55)),(3,1,(.t 56)),(4,1,(.t 57))]),
 oo 59 (.call 209 [(.t 54),(.t 58)]),
 om 53 59,
 oo 60 (.ext (.t 53) 0),
 oo 61 (.ext (.t 53) 1),
 oo 12 (.alloc 12 [.cap0,.d (.int .i64 0),.d (.int .i64 0),.cap0,.cap0,.d (.int .i64 0),.d (.int .i64 0)]),
 ⟨none,.store 7 (.t 12) (.t 60),[],[],none,none⟩,
 om 13 61])
 (g_ref08_chain.c2)
def g_ref08_chain.c4:ACode :=
 .seq (.region [1,2,3,6,8,9,10,11] (some [3,6,10,108]) none
 [oo 46 (.load (some 7) (.t 3)),
 om 47 1,
 om 48 2,
 oo 49 (.bin .add (.t 48) (.c (.d (.int .i64 1)))),
 oo 50 (.call 208 [(.t 46),(.t 47),(.t 49)]),
 om 45 50,
 oo 51 (.ext (.t 45) 0),
 oo 52 (.ext (.t 45) 1),
 oo 10 (.alloc 10 [.cap0,.d (.int .i64 0),.d (.int .i64 0),.cap0,.cap0,.d (.int .i64 0),.d (.int .i64 0)]),
 ⟨none,.store 7 (.t 10) (.t 51),[],[],none,none⟩,
 om 11 52])
 (g_ref08_chain.c3)
def g_ref08_chain.c5:ACode :=
 .block 1 [1,2,3,6,8] (some [3,6,108]) (.seq (.region [1,2,3,6,8,9] (some [3,6,108]) none
 [oo 39 (.load (some 7) (.t 3)),
 oo 40 (.call 193 [(.t 39)]),
 om 9 40])
 (.seq (.region [1,2,3,6,8,9] (some [3,6,108]) none
 [oo 41 (.faddr 2 (.t 3)),
 oo 42 (.load none (.t 41)),
 oo 43 (.bin .add (.t 42) (.c (.d (.int .i64 1)))),
 oo 44 (.faddr 2 (.t 3)),
 ⟨none,.store 1 (.t 44) (.t 43),[],[],none,none⟩])
 (g_ref08_chain.c4)))
def g_ref08_chain.l0:ACode :=
 .loop [1,2,3,6,8] (some [3,6,108]) (.seq (.seq (.region [1,2,3,6,8,38] (some [3,6,108]) none
 (oo 29 (.faddr 5 (.t 3)) ::
 oo 30 (.load none (.t 29)) ::
 oo 31 (.bin .eql (.t 30) (.c (.d (.int .i64 0)))) ::
 oz 32 (.mv (.t 31)) [1,2,3,6,8,32] [3,6,108] ::
 g_ref08_chain.o0))
 (g_ref08_chain.c0))
 (g_ref08_chain.c5))
def g_ref08_chain.c6:ACode :=
 .seq (.region [6,7] (some [6,108]) none
 [oo 66 (.load (some 7) (.t 3)),
 om 67 8,
 ⟨none,.store 7 (.t 6) (.t 66),[],[],none,none⟩,
 om 7 67])
 (.ret)
def g_ref08_chain.c7:ACode :=
 .seq (.block 0 [3,6,8] (some [3,6,108]) (g_ref08_chain.l0))
 (g_ref08_chain.c6)
def g_ref08_chain.c8:ACode :=
 .seq (.region [1,2,3,6,8] (some [3,6,108]) none
 [oo 22 (.load (some 7) (.t 3)),
 om 23 1,
 om 24 2,
 oo 25 (.bin .add (.t 24) (.c (.d (.int .i64 1)))),
 oo 26 (.call 208 [(.t 22),(.t 23),(.t 25)]),
 om 21 26,
 oo 27 (.ext (.t 21) 0),
 oo 28 (.ext (.t 21) 1),
 ⟨none,.store 7 (.t 3) (.t 27),[],[],none,none⟩,
 om 8 28])
 (g_ref08_chain.c7)
def g_ref08_chain.code:ACode :=
 .seq (.region [1,2,3,6] (some [3,6,108]) none
 [oo 3 (.box 3 7 (.t 0)),
 oo 6 (.alloc 6 [.cap0,.d (.int .i64 0),.d (.int .i64 0),.cap0,.cap0,.d (.int .i64 0),.d (.int .i64 0)]),
 oo 7 (.mv (.c (.d (.int .i64 0))))])
 (.seq (.seq (.region [1,2,3,6,15] (some [3,6,108]) none
 [om 14 2,
 oo 15 (.bin .eql (.t 14) (.c (.d (.int .i64 3))))])
 (.cond (.t 15) (.seq (.region [6,7] (some [6,108]) none
 [oo 16 (.load (some 7) (.t 3)),
 om 17 1,
 oo 18 (.call 214 [(.t 16),(.t 17)]),
 oo 19 (.ext (.t 18) 0),
 oo 20 (.ext (.t 18) 1),
 ⟨none,.store 7 (.t 6) (.t 19),[],[],none,none⟩,
 om 7 20])
 (.ret))
 (.skip)))
 (g_ref08_chain.c8))
def g_ref08_chain:AFn:={ N:=68,res:=[.cell 6 (some 7),.slot 7],own:=[],frz:=[],code:=g_ref08_chain.code }
def g_ref08_put.c0:ACode :=
 .seq (.region [4,5] (some [4,108]) none
 [oo 18 (.load (some 7) (.t 2)),
 om 19 6,
 oo 20 (.len (.t 19)),
 ⟨none,.store 7 (.t 4) (.t 18),[],[],none,none⟩,
 om 5 20])
 (.ret)
def g_ref08_put.c1:ACode :=
 .seq (.region [2,4,6] (some [2,4,11,108]) none
 [om 12 6,
 oo 13 (.load (some 6) (.t 3)),
 oo 14 (.bsl none 6 [] 1 [(0,(.t 13))]),
 oo 15 (.appD 6 64 (.t 12) (.t 14)),
 oo 16 (.faddr 3 (.t 2)),
 oo 17 (.faddr 1 (.t 16)),
 ⟨none,.store 1 (.t 17) (.t 15),[],[],none,none⟩])
 (g_ref08_put.c0)
def g_ref08_put.c2:ACode :=
 .seq (.region [2,3,4,6] (some [2,3,4,11,108]) none
 [oo 6 (.mv (.c (.cap0)))])
 (.seq (.region [2,3,4,6] (some [2,3,4,11,108]) none
 [om 7 6,
 oo 8 (.faddr 3 (.t 2)),
 oo 9 (.faddr 1 (.t 8)),
 oo 10 (.load none (.t 9)),
 oo 11 (.app (some 11) 6 64 (.t 7) (.t 10)),
 om 6 11])
 (g_ref08_put.c1))
def g_ref08_put.code:ACode :=
 .seq (.region [2,3,4] (some [2,3,4,108]) none
 [oo 2 (.box 2 7 (.t 0)),
 oo 3 (.box 3 6 (.t 1)),
 oo 4 (.alloc 4 [.cap0,.d (.int .i64 0),.d (.int .i64 0),.cap0,.cap0,.d (.int .i64 0),.d (.int .i64 0)]),
 oo 5 (.mv (.c (.d (.int .i64 0))))])
 (g_ref08_put.c2)
def g_ref08_put:AFn:={ N:=21,res:=[.cell 4 (some 7),.slot 5],own:=[],frz:=[],code:=g_ref08_put.code }
def g_show_parts.c0:ACode :=
 .cond (.t 21) (.seq (.region [2] (some [11,20,36,51,70]) none
 [oo 24 (.faddr 0 (.t 1)),
 oo 25 (.load none (.t 24)),
 oo 26 (.bin .add (.t 25) (.c (.d (.str [40])))),
 oo 27 (.build [.d (.str []),.d (.int .i64 0),.d (.int .i64 0)] [(0,1,(.t 26))]),
 oo 28 (.faddr 3 (.t 1)),
 oo 29 (.load none (.t 28)),
 oo 30 (.build [.d (.str []),.d (.int .i64 0),.d (.int .i64 0)] [(1,1,(.t 29))]),
 oo 31 (.build [.d (.str []),.d (.int .i64 0),.d (.int .i64 0)] [(0,1,(.c (.d (.str [44,32]))))]),
 oo 32 (.faddr 4 (.t 1)),
 oo 33 (.load none (.t 32)),
 oo 34 (.build [.d (.str []),.d (.int .i64 0),.d (.int .i64 0)] [(1,1,(.t 33))]),
 oo 35 (.build [.d (.str []),.d (.int .i64 0),.d (.int .i64 0)] [(0,1,(.c (.d (.str [41]))))]),
 oo 36 (.bsl (some 36) 3 [] 5 [(0,(.t 27)),(1,(.t 30)),(2,(.t 31)),(3,(.t 34)),(4,(.t 35))]),
 om 2 36])
 (.ret))
 (.seq (.region [1,37] (some [1]) none
 [oo 38 (.bin .eql (.t 13) (.c (.d (.str [105,102])))),
 om 37 38])
 (.cond (.t 37) (.seq (.region [2] (some [11,20,36,51,70]) none
 [oo 39 (.build [.d (.str []),.d (.int .i64 0),.d (.int .i64 0)] [(0,1,(.c (.d (.str [105,102,32]))))]),
 oo 40 (.faddr 3 (.t 1)),
 oo 41 (.load none (.t 40)),
 oo 42 (.build [.d (.str []),.d (.int .i64 0),.d (.int .i64 0)] [(1,1,(.t 41))]),
 oo 43 (.build [.d (.str []),.d (.int .i64 0),.d (.int .i64 0)] [(0,1,(.c (.d (.str [32,116,104,101,110,32]))))]),
 oo 44 (.faddr 4 (.t 1)),
 oo 45 (.load none (.t 44)),
 oo 46 (.build [.d (.str []),.d (.int .i64 0),.d (.int .i64 0)] [(1,1,(.t 45))]),
 oo 47 (.build [.d (.str []),.d (.int .i64 0),.d (.int .i64 0)] [(0,1,(.c (.d (.str [32,101,108,115,101,32]))))]),
 oo 48 (.faddr 5 (.t 1)),
 oo 49 (.load none (.t 48)),
 oo 50 (.build [.d (.str []),.d (.int .i64 0),.d (.int .i64 0)] [(1,1,(.t 49))]),
 oo 51 (.bsl (some 51) 3 [] 6 [(0,(.t 39)),(1,(.t 42)),(2,(.t 43)),(3,(.t 46)),(4,(.t 47)),(5,(.t 50))]),
 om 2 51])
 (.ret))
 (.skip)))
def g_show_parts.c1:ACode :=
 .seq (.region [2] (some [11,20,36,51,70]) none
 [oo 55 (.faddr 3 (.t 1)),
 oo 56 (.load none (.t 55)),
 om 57 4,
 oo 58 (.mm true [(.t 57),(.c (.d (.int .i64 2)))]),
 oo 59 (.build [.d (.str []),.d (.int .i64 0),.d (.int .i64 0)] [(1,1,(.t 56)),(2,1,(.t 58))]),
 oo 60 (.faddr 0 (.t 1)),
 oo 61 (.load none (.t 60)),
 oo 62 (.bin .add (.c (.d (.str [32]))) (.t 61)),
 oo 63 (.bin .add (.t 62) (.c (.d (.str [32])))),
 oo 64 (.build [.d (.str []),.d (.int .i64 0),.d (.int .i64 0)] [(0,1,(.t 63))]),
 oo 65 (.faddr 4 (.t 1)),
 oo 66 (.load none (.t 65)),
 om 67 4,
 oo 68 (.bin .add (.t 67) (.c (.d (.int .i64 1)))),
 oo 69 (.build [.d (.str []),.d (.int .i64 0),.d (.int .i64 0)] [(1,1,(.t 66)),(2,1,(.t 68))]),
 oo 70 (.bsl (some 70) 3 [] 3 [(0,(.t 59)),(1,(.t 64)),(2,(.t 69))]),
 om 2 70])
 (.ret)
def g_show_parts.c2:ACode :=
 .seq (.region [1,4] (some [1]) none
 [oo 52 (.faddr 0 (.t 1)),
 oo 53 (.load none (.t 52)),
 oo 54 (.call 211 [(.t 53)]),
 om 4 54])
 (g_show_parts.c1)
def g_show_parts.c3:ACode :=
 .seq (.seq (.region [1,13] (some [1]) none
 [oo 12 (.faddr 0 (.t 1)),
 oo 13 (.load none (.t 12))])
 (.block 0 [1] (some [1]) (.seq (.region [1,13,14] (some [1]) none
 [oo 15 (.bin .eql (.t 13) (.c (.d (.str [110,101,103])))),
 om 14 15])
 (.cond (.t 14) (.seq (.region [2] (some [11,20,36,51,70]) none
 [oo 16 (.build [.d (.str []),.d (.int .i64 0),.d (.int .i64 0)] [(0,1,(.c (.d (.str [45]))))]),
 oo 17 (.faddr 3 (.t 1)),
 oo 18 (.load none (.t 17)),
 oo 19 (.build [.d (.str []),.d (.int .i64 0),.d (.int .i64 0)] [(1,1,(.t 18)),(2,1,(.c (.d (.int .i64 4))))]),
 oo 20 (.bsl (some 20) 3 [] 2 [(0,(.t 16)),(1,(.t 19))]),
 om 2 20])
 (.ret))
 (.seq (.seq (.region [1,13,21] (some [1]) none
 [oo 22 (.bin .eql (.t 13) (.c (.d (.str [109,105,110])))),
 om 21 22])
 (.cond (.t 21) (.skip)
 (.region [1,13,21] (some [1]) none
 [oo 23 (.bin .eql (.t 13) (.c (.d (.str [109,97,120])))),
 om 21 23])))
 (g_show_parts.c0))))))
 (g_show_parts.c2)
def g_show_parts.code:ACode :=
 .seq (.region [1] (some [1]) none
 [oo 1 (.box 1 6 (.t 0)),
 oo 2 (.mv (.c (.cap0)))])
 (.seq (.seq (.region [1,3] (some [1]) none
 [oo 5 (.load (some 6) (.t 1)),
 oo 6 (.call 216 [(.t 5)]),
 om 3 6])
 (.seq (.region [1,3,8] (some [1]) none
 [om 7 3,
 oo 8 (.bin .neq (.t 7) (.c (.d (.str []))))])
 (.cond (.t 8) (.seq (.region [2] (some [11,20,36,51,70]) none
 [om 9 3,
 oo 10 (.build [.d (.str []),.d (.int .i64 0),.d (.int .i64 0)] [(0,1,(.t 9))]),
 oo 11 (.bsl (some 11) 3 [] 1 [(0,(.t 10))]),
 om 2 11])
 (.ret))
 (.skip))))
 (g_show_parts.c3))
def g_show_parts:AFn:={ N:=71,res:=[.slot 2],own:=[(2,70,3)],frz:=[],code:=g_show_parts.code }
def g_show_level.c0:ACode :=
 .cond (.t 13) (.seq (.region [2] (some []) none
 [oo 2 (.mv (.c (.d (.int .i64 2))))])
 (.ret))
 (.seq (.region [16] (some []) none
 [oo 17 (.bin .eql (.t 3) (.c (.d (.str [42])))),
 om 16 17])
 (.cond (.t 16) (.seq (.region [2] (some []) none
 [oo 2 (.mv (.c (.d (.int .i64 3))))])
 (.ret))
 (.skip)))
def g_show_level.c1:ACode :=
 .cond (.t 6) (.seq (.region [2] (some []) none
 [oo 2 (.mv (.c (.d (.int .i64 1))))])
 (.ret))
 (.seq (.seq (.region [3,13] (some []) none
 [oo 14 (.bin .eql (.t 3) (.c (.d (.str [43])))),
 om 13 14])
 (.cond (.t 13) (.skip)
 (.region [3,13] (some []) none
 [oo 15 (.bin .eql (.t 3) (.c (.d (.str [45])))),
 om 13 15])))
 (g_show_level.c0))
def g_show_level.c2:ACode :=
 .seq (.region [2] (some []) none
 [oo 2 (.mv (.c (.d (.int .i64 4))))])
 (.ret)
def g_show_level.code:ACode :=
 .seq (.region [0] (some []) none
 [oo 2 (.mv (.c (.d (.int .i64 0))))])
 (.seq (.seq (.region [3] (some []) none
 [om 3 0])
 (.block 0 [] (some []) (.seq (.region [3,4] (some []) none
 [oo 5 (.bin .eql (.t 3) (.c (.d (.str [105,102])))),
 om 4 5])
 (.cond (.t 4) (.seq (.region [2] (some []) none
 [oo 2 (.mv (.c (.d (.int .i64 0))))])
 (.ret))
 (.seq (.seq (.region [3,6] (some []) none
 [oo 7 (.bin .eql (.t 3) (.c (.d (.str [60])))),
 om 6 7])
 (.cond (.t 6) (.skip)
 (.seq (.region [3,6] (some []) none
 [oo 8 (.bin .eql (.t 3) (.c (.d (.str [60,61])))),
 om 6 8])
 (.cond (.t 6) (.skip)
 (.seq (.region [3,6] (some []) none
 [oo 9 (.bin .eql (.t 3) (.c (.d (.str [61])))),
 om 6 9])
 (.cond (.t 6) (.skip)
 (.seq (.region [3,6] (some []) none
 [oo 10 (.bin .eql (.t 3) (.c (.d (.str [60,62])))),
 om 6 10])
 (.cond (.t 6) (.skip)
 (.seq (.region [3,6] (some []) none
 [oo 11 (.bin .eql (.t 3) (.c (.d (.str [62])))),
 om 6 11])
 (.cond (.t 6) (.skip)
 (.region [3,6] (some []) none
 [oo 12 (.bin .eql (.t 3) (.c (.d (.str [62,61])))),
 om 6 12])))))))))))
 (g_show_level.c1))))))
 (g_show_level.c2))
def g_show_level:AFn:={ N:=18,res:=[.slot 2],own:=[],frz:=[],code:=g_show_level.code }
def g_slices_Reverse_item.a0:List AOper :=
 [om 14 0,
 om 15 2,
 om 16 0,
 om 17 3,
 om 18 0,
 om 19 3,
 ⟨some 20,.iaddr 3 (.t 18) (.t 19),[],[4,5],none,none⟩,
 ⟨some 21,.load (some 3) (.t 20),[],[6],none,none⟩,
 om 22 0,
 om 23 2,
 ⟨some 24,.iaddr 3 (.t 22) (.t 23),[],[8,9],none,none⟩,
 ⟨some 25,.load (some 3) (.t 24),[],[10],none,none⟩,
 ⟨some 26,.iaddr 3 (.t 14) (.t 15),[],[0,1,0,1,4,5,6,7,11],none,none⟩,
 ⟨none,.store 3 (.t 26) (.t 21),[],[12,7,0,1,4,5,6,7,11],none,none⟩,
 ⟨some 27,.iaddr 3 (.t 16) (.t 17),[],[2,3,0,1,2,3,4,5,6,7,8,9,10,11,12,13],none,none⟩,
 ⟨none,.store 3 (.t 27) (.t 25),[],[14,11,13,0,1,2,3,4,5,6,7,8,9,10,11,12,13],none,none⟩]
def g_slices_Reverse_item.t8:Tr:=.one 15 .done
def g_slices_Reverse_item.t9:Tr:=.one 14 g_slices_Reverse_item.t8
def g_slices_Reverse_item.t10:Tr:=.one 13 g_slices_Reverse_item.t9
def g_slices_Reverse_item.t11:Tr:=.one 12 g_slices_Reverse_item.t10
def g_slices_Reverse_item.t12:Tr:=.one 11 g_slices_Reverse_item.t11
def g_slices_Reverse_item.t13:Tr:=.one 10 g_slices_Reverse_item.t12
def g_slices_Reverse_item.t14:Tr:=.one 7 g_slices_Reverse_item.t11
def g_slices_Reverse_item.t15:Tr:=.one 11 g_slices_Reverse_item.t14
def g_slices_Reverse_item.t16:Tr:=.two 7 g_slices_Reverse_item.t12 g_slices_Reverse_item.t15
def g_slices_Reverse_item.t17:Tr:=.one 10 g_slices_Reverse_item.t16
def g_slices_Reverse_item.t18:Tr:=.two 7 g_slices_Reverse_item.t13 g_slices_Reverse_item.t17
def g_slices_Reverse_item.t19:Tr:=.one 6 g_slices_Reverse_item.t14
def g_slices_Reverse_item.t20:Tr:=.one 11 g_slices_Reverse_item.t19
def g_slices_Reverse_item.t21:Tr:=.two 6 g_slices_Reverse_item.t16 g_slices_Reverse_item.t20
def g_slices_Reverse_item.t22:Tr:=.one 10 g_slices_Reverse_item.t21
def g_slices_Reverse_item.t23:Tr:=.two 6 g_slices_Reverse_item.t18 g_slices_Reverse_item.t22
def g_slices_Reverse_item.i7:List Nat:=9::[]
def g_slices_Reverse_item.i6:List Nat:=2008::g_slices_Reverse_item.i7
def g_slices_Reverse_item.i5:List Nat:=5::g_slices_Reverse_item.i6
def g_slices_Reverse_item.i4:List Nat:=2004::g_slices_Reverse_item.i5
def g_slices_Reverse_item.i3:List Nat:=3::g_slices_Reverse_item.i4
def g_slices_Reverse_item.i2:List Nat:=2002::g_slices_Reverse_item.i3
def g_slices_Reverse_item.i1:List Nat:=1::g_slices_Reverse_item.i2
def g_slices_Reverse_item.c0:ACode :=
 .region [0,2,3] none none
 [om 10 2,
 oo 11 (.bin .add (.t 10) (.c (.d (.int .i64 1)))),
 om 12 3,
 oo 13 (.bin .sub (.t 12) (.c (.d (.int .i64 1)))),
 om 2 11,
 om 3 13]
def g_slices_Reverse_item.l0F (R_i1:List Nat)(R_t23:Tr)(R_c0:ACode):ACode :=
 .loop [0,2,3] none (.seq (.seq (.region [0,2,3,9] none none
 [om 7 2,
 om 8 3,
 oo 9 (.bin .lss (.t 7) (.t 8))])
 (.cond (.t 9) (.skip)
 (.exit 0)))
 (.seq (.block 1 [0,2,3] none (.region [0,2,3] none (some (2000::R_i1,R_t23)) g_slices_Reverse_item.a0))
 (R_c0)))
def g_slices_Reverse_item.l0:ACode:=g_slices_Reverse_item.l0F g_slices_Reverse_item.i1 g_slices_Reverse_item.t23 g_slices_Reverse_item.c0
def g_slices_Reverse_item.c1:ACode :=
 .block 0 [] none (g_slices_Reverse_item.l0)
def g_slices_Reverse_item.code:ACode :=
 .seq (.region [0,2,3] none none
 [om 4 0,
 oo 5 (.len (.t 4)),
 oo 6 (.bin .sub (.t 5) (.c (.d (.int .i64 1)))),
 oo 2 (.mv (.c (.d (.int .i64 0)))),
 om 3 6])
 (g_slices_Reverse_item.c1)
def g_slices_Reverse_item:AFn:={ N:=28,res:=[],own:=[],frz:=[],code:=g_slices_Reverse_item.code }
def g_lex_letter.o1:List AOper :=
 [oo 8 (.pick (.t 5) (.t 7) (.c (.d (.bool false)))),
 om 2 8]
def g_lex_letter.o0:List AOper :=
 (og 6 (.mv (.t 0)) (2,5,true) ::
 ow 7 (.bin .leq (.t 6) (.c (.d (.int .u8 122)))) (2,5,true) [5,7] [] ::
 g_lex_letter.o1)
def g_lex_letter.c0:ACode :=
 .ret
def g_lex_letter.code:ACode :=
 .seq (.region [0] (some []) none
 [oo 2 (.mv (.c (.d (.bool false))))])
 (.seq (.region [2] (some []) none
 (om 3 0 ::
 oo 4 (.bin .geq (.t 3) (.c (.d (.int .u8 97)))) ::
 oz 5 (.mv (.t 4)) [0,5] [] ::
 g_lex_letter.o0))
 (g_lex_letter.c0))
def g_lex_letter:AFn:={ N:=9,res:=[.slot 2],own:=[],frz:=[],code:=g_lex_letter.code }
def g_lex_one_1.o1:List AOper :=
 [oo 8 (.pick (.t 5) (.c (.d (.bool true))) (.t 7)),
 om 2 8]
def g_lex_one_1.o0:List AOper :=
 (og 6 (.mv (.t 0)) (2,5,false) ::
 ow 7 (.call 107 [(.t 6)]) (2,5,false) [5,7] [] ::
 g_lex_one_1.o1)
def g_lex_one_1.c0:ACode :=
 .ret
def g_lex_one_1.code:ACode :=
 .seq (.region [0] (some []) none
 [oo 2 (.mv (.c (.d (.bool false))))])
 (.seq (.region [2] (some []) none
 (om 3 0 ::
 oo 4 (.call 105 [(.t 3)]) ::
 oz 5 (.mv (.t 4)) [0,5] [] ::
 g_lex_one_1.o0))
 (g_lex_one_1.c0))
def g_lex_one_1:AFn:={ N:=9,res:=[.slot 2],own:=[],frz:=[],code:=g_lex_one_1.code }
def g_lex_digit.o1:List AOper :=
 [oo 8 (.pick (.t 5) (.t 7) (.c (.d (.bool false)))),
 om 2 8]
def g_lex_digit.o0:List AOper :=
 (og 6 (.mv (.t 0)) (2,5,true) ::
 ow 7 (.bin .leq (.t 6) (.c (.d (.int .u8 57)))) (2,5,true) [5,7] [] ::
 g_lex_digit.o1)
def g_lex_digit.c0:ACode :=
 .ret
def g_lex_digit.code:ACode :=
 .seq (.region [0] (some []) none
 [oo 2 (.mv (.c (.d (.bool false))))])
 (.seq (.region [2] (some []) none
 (om 3 0 ::
 oo 4 (.bin .geq (.t 3) (.c (.d (.int .u8 48)))) ::
 oz 5 (.mv (.t 4)) [0,5] [] ::
 g_lex_digit.o0))
 (g_lex_digit.c0))
def g_lex_digit:AFn:={ N:=9,res:=[.slot 2],own:=[],frz:=[],code:=g_lex_digit.code }
def g_lex_one_2.o3:List AOper :=
 [oo 12 (.pick (.t 9) (.c (.d (.bool true))) (.t 11)),
 om 2 12]
def g_lex_one_2.o2:List AOper :=
 (og 10 (.mv (.t 0)) (6,9,false) ::
 ow 11 (.bin .eql (.t 10) (.c (.d (.int .u8 37)))) (6,9,false) [9,11] [] ::
 g_lex_one_2.o3)
def g_lex_one_2.o1:List AOper :=
 (oo 8 (.pick (.t 5) (.c (.d (.bool true))) (.t 7)) ::
 oz 9 (.mv (.t 8)) [0,9] [] ::
 g_lex_one_2.o2)
def g_lex_one_2.o0:List AOper :=
 (og 6 (.mv (.t 0)) (2,5,false) ::
 ow 7 (.bin .eql (.t 6) (.c (.d (.int .u8 46)))) (2,5,false) [0,5,7] [] ::
 g_lex_one_2.o1)
def g_lex_one_2.c0:ACode :=
 .ret
def g_lex_one_2.code:ACode :=
 .seq (.region [0] (some []) none
 [oo 2 (.mv (.c (.d (.bool false))))])
 (.seq (.region [2] (some []) none
 (om 3 0 ::
 oo 4 (.call 107 [(.t 3)]) ::
 oz 5 (.mv (.t 4)) [0,5] [] ::
 g_lex_one_2.o0))
 (g_lex_one_2.c0))
def g_lex_one_2:AFn:={ N:=13,res:=[.slot 2],own:=[],frz:=[],code:=g_lex_one_2.code }
def g_lex_figure.c0:ACode :=
 .seq (.region [0,12] (some []) none
 [om 12 4])
 (.cond (.t 12) (.seq (.region [2] (some []) none
 [oo 2 (.mv (.c (.d (.int .i64 3))))])
 (.ret))
 (.skip))
def g_lex_figure.c1:ACode :=
 .seq (.region [0,18] (some []) none
 [om 18 6])
 (.cond (.t 18) (.seq (.region [2] (some []) none
 [oo 2 (.mv (.c (.d (.int .i64 4))))])
 (.ret))
 (.skip))
def g_lex_figure.o5:List AOper :=
 [oo 37 (.pick (.t 29) (.t 36) (.c (.d (.bool false))))]
def g_lex_figure.o4:List AOper :=
 (ow 36 (.pick (.t 32) (.c (.d (.bool true))) (.t 35)) (10,29,true) [29,36] [] ::
 g_lex_figure.o5)
def g_lex_figure.o3:List AOper :=
 (og 33 (.mv (.t 0)) (13,32,false) ::
 og 34 (.idx (.t 33) (.c (.d (.int .i64 0)))) (13,32,false) ::
 ow 35 (.bin .neq (.t 34) (.c (.d (.int .u8 48)))) (13,32,false) [29,32,35] [] ::
 g_lex_figure.o4)
def g_lex_figure.o2:List AOper :=
 (og 30 (.mv (.t 0)) (10,29,true) ::
 og 31 (.bin .eql (.t 30) (.c (.d (.str [48])))) (10,29,true) ::
 ow 32 (.mv (.t 31)) (10,29,true) [0,29,32] [] ::
 g_lex_figure.o3)
def g_lex_figure.o1:List AOper :=
 (oo 28 (.pick (.t 22) (.t 27) (.c (.d (.bool false)))) ::
 oz 29 (.mv (.t 28)) [0,29] [] ::
 g_lex_figure.o2)
def g_lex_figure.o0:List AOper :=
 (og 23 (.mv (.t 0)) (3,22,true) ::
 og 24 (.call 102 [(.t 23),(.c (.d (.int .i64 0))),(.f 107)]) (3,22,true) ::
 og 25 (.mv (.t 0)) (3,22,true) ::
 og 26 (.lenS (.t 25)) (3,22,true) ::
 ow 27 (.bin .eql (.t 24) (.t 26)) (3,22,true) [0,22,27] [] ::
 g_lex_figure.o1)
def g_lex_figure.c2:ACode :=
 .cond (.t 37) (.seq (.region [2] (some []) none
 [oo 2 (.mv (.c (.d (.int .i64 2))))])
 (.ret))
 (.skip)
def g_lex_figure.c3:ACode :=
 .seq (.region [2] (some []) none
 [oo 2 (.mv (.c (.d (.int .i64 0))))])
 (.ret)
def g_lex_figure.c4:ACode :=
 .seq (.seq (.region [37] (some []) none
 (om 19 0 ::
 oo 20 (.lenS (.t 19)) ::
 oo 21 (.bin .leq (.t 20) (.c (.d (.int .i64 9)))) ::
 oz 22 (.mv (.t 21)) [0,22] [] ::
 g_lex_figure.o0))
 (g_lex_figure.c2))
 (g_lex_figure.c3)
def g_lex_figure.c5:ACode :=
 .seq (.seq (.region [0,6] (some []) none
 [om 14 0,
 oo 15 (.call 92 [(.t 14)]),
 om 13 15,
 oo 16 (.ext (.t 13) 0),
 oo 17 (.ext (.t 13) 1),
 om 5 16,
 om 6 17])
 (g_lex_figure.c1))
 (g_lex_figure.c4)
def g_lex_figure.code:ACode :=
 .seq (.region [0] (some []) none
 [oo 2 (.mv (.c (.d (.int .i64 0))))])
 (.seq (.seq (.region [0,4] (some []) none
 [om 8 0,
 oo 9 (.call 51 [(.t 8)]),
 om 7 9,
 oo 10 (.ext (.t 7) 0),
 oo 11 (.ext (.t 7) 1),
 om 3 10,
 om 4 11])
 (g_lex_figure.c0))
 (g_lex_figure.c5))
def g_lex_figure:AFn:={ N:=38,res:=[.slot 2],own:=[],frz:=[],code:=g_lex_figure.code }
def g_lex_sign.c0:ACode :=
 .region [0,5,6,7] (some []) none
 [oo 16 (.bin .add (.t 7) (.c (.d (.int .i64 1)))),
 om 7 16]
def g_lex_sign.l0:ACode :=
 .loop [0,5,6,7] (some []) (.seq (.region [0,5,6,7,8] (some []) none
 [oo 8 (.bin .lss (.t 7) (.t 6))])
 (.seq (.cond (.t 8) (.skip)
 (.exit 0))
 (.seq (.block 1 [0,5,6,7] (some []) (.seq (.region [0,4,5,6,7] (some []) none
 [oo 9 (.iaddr 1 (.t 5) (.t 7)),
 oo 10 (.load none (.t 9)),
 om 4 10])
 (.seq (.region [0,4,5,6,7,13] (some []) none
 [om 11 0,
 om 12 4,
 oo 13 (.call 123 [(.t 11),(.t 12)])])
 (.cond (.t 13) (.seq (.region [2] (some []) none
 [om 14 4,
 oo 15 (.lenS (.t 14)),
 om 2 15])
 (.ret))
 (.skip)))))
 (g_lex_sign.c0))))
def g_lex_sign.c1:ACode :=
 .seq (.region [2] (some []) none
 [oo 2 (.mv (.c (.d (.int .i64 0))))])
 (.ret)
def g_lex_sign.c2:ACode :=
 .seq (.seq (.region [20] (some []) none
 [om 17 0,
 oo 18 (.idx (.t 17) (.c (.d (.int .i64 0)))),
 oo 19 (.call 124 [(.c (.d (.str [61,60,62,43,45,42,40,41,44,59]))),(.t 18)]),
 oo 20 (.bin .geq (.t 19) (.c (.d (.int .i64 0))))])
 (.cond (.t 20) (.seq (.region [2] (some []) none
 [oo 2 (.mv (.c (.d (.int .i64 1))))])
 (.ret))
 (.skip)))
 (g_lex_sign.c1)
def g_lex_sign.code:ACode :=
 .seq (.region [0] (some []) none
 [oo 2 (.mv (.c (.d (.int .i64 0))))])
 (.seq (.seq (.region [0,5,6,7] (some []) none
 [oo 5 (.bsl none 1 [] 3 [(0,(.c (.d (.str [60,61])))),(1,(.c (.d (.str [62,61])))),(2,(.c (.d (.str [60,62]))))]),
 oo 6 (.len (.t 5)),
 oo 7 (.mv (.c (.d (.int .i64 0))))])
 (.block 0 [0] (some []) (g_lex_sign.l0)))
 (g_lex_sign.c2))
def g_lex_sign:AFn:={ N:=21,res:=[.slot 2],own:=[],frz:=[],code:=g_lex_sign.code }
def g_slices_Index_string.c0:ACode :=
 .region [0,1,7,8] (some []) none
 [oo 18 (.bin .add (.t 8) (.c (.d (.int .i64 1)))),
 om 8 18]
def g_slices_Index_string.l0:ACode :=
 .loop [0,1,7,8] (some []) (.seq (.region [0,1,7,8,9] (some []) none
 [oo 9 (.bin .lss (.t 8) (.t 7))])
 (.seq (.cond (.t 9) (.skip)
 (.exit 0))
 (.seq (.block 1 [0,1,7,8] (some []) (.seq (.region [0,1,5,7,8] (some []) none
 [om 10 8,
 om 5 10])
 (.seq (.region [0,1,5,7,8,16] (some []) none
 [om 11 1,
 om 12 0,
 om 13 5,
 oo 14 (.iaddr 1 (.t 12) (.t 13)),
 oo 15 (.load none (.t 14)),
 oo 16 (.bin .eql (.t 11) (.t 15))])
 (.cond (.t 16) (.seq (.region [4] (some []) none
 [om 17 5,
 om 4 17])
 (.ret))
 (.skip)))))
 (g_slices_Index_string.c0))))
def g_slices_Index_string.c1:ACode :=
 .seq (.region [4] (some []) none
 [oo 4 (.mv (.c (.d (.int .i64 (-1)))))])
 (.ret)
def g_slices_Index_string.code:ACode :=
 .seq (.region [0,1] (some []) none
 [oo 4 (.mv (.c (.d (.int .i64 0))))])
 (.seq (.seq (.region [0,1,7,8] (some []) none
 [om 6 0,
 oo 7 (.len (.t 6)),
 oo 8 (.mv (.c (.d (.int .i64 0))))])
 (.block 0 [] (some []) (g_slices_Index_string.l0)))
 (g_slices_Index_string.c1))
def g_slices_Index_string:AFn:={ N:=19,res:=[.slot 4],own:=[],frz:=[],code:=g_slices_Index_string.code }
def g_tree_parser_put.a0:List AOper :=
 [om 5 0,
 om 6 0,
 ⟨some 7,.nilc (.t 6),[],[1],none,none⟩,
 ⟨some 8,.faddr 3 (.t 7),[],[2],none,none⟩,
 ⟨some 9,.faddr 1 (.t 8),[],[3],none,none⟩,
 ⟨some 10,.load none (.t 9),[],[4],none,none⟩,
 oo 11 (.load (some 6) (.t 3)),
 ⟨some 12,.bsl none 6 [] 1 [(0,(.t 11))],[],[6],none,none⟩,
 ⟨some 13,.app (some 13) 6 64 (.t 10) (.t 12),[],[5,7],none,(some ([],none))⟩,
 ⟨some 14,.nilc (.t 5),[],[0,0,1,2,3,4,5,6,7,8],none,none⟩,
 ⟨some 15,.faddr 3 (.t 14),[],[9,0,1,2,3,4,5,6,7,8],none,none⟩,
 ⟨some 16,.faddr 1 (.t 15),[],[10,0,1,2,3,4,5,6,7,8],none,none⟩,
 ⟨none,.store 1 (.t 16) (.t 13),[],[11,8,8,0,1,2,3,4,5,6,7,8],none,none⟩]
def g_tree_parser_put.t5:Tr:=.one 12 .done
def g_tree_parser_put.t6:Tr:=.one 11 g_tree_parser_put.t5
def g_tree_parser_put.t7:Tr:=.one 10 g_tree_parser_put.t6
def g_tree_parser_put.t8:Tr:=.one 9 g_tree_parser_put.t7
def g_tree_parser_put.t9:Tr:=.one 8 g_tree_parser_put.t8
def g_tree_parser_put.t10:Tr:=.one 7 g_tree_parser_put.t9
def g_tree_parser_put.t11:Tr:=.one 6 g_tree_parser_put.t10
def g_tree_parser_put.t12:Tr:=.one 5 g_tree_parser_put.t9
def g_tree_parser_put.t13:Tr:=.one 7 g_tree_parser_put.t12
def g_tree_parser_put.t14:Tr:=.two 5 g_tree_parser_put.t10 g_tree_parser_put.t13
def g_tree_parser_put.t15:Tr:=.one 6 g_tree_parser_put.t14
def g_tree_parser_put.t16:Tr:=.two 5 g_tree_parser_put.t11 g_tree_parser_put.t15
def g_tree_parser_put.i4:List Nat:=4::[]
def g_tree_parser_put.i3:List Nat:=3::g_tree_parser_put.i4
def g_tree_parser_put.i2:List Nat:=2::g_tree_parser_put.i3
def g_tree_parser_put.i1:List Nat:=1::g_tree_parser_put.i2
def g_tree_parser_put.c0:ACode :=
 .seq (.region [4] none none
 [om 17 0,
 oo 18 (.nilc (.t 17)),
 oo 19 (.faddr 3 (.t 18)),
 oo 20 (.faddr 1 (.t 19)),
 oo 21 (.load none (.t 20)),
 oo 22 (.len (.t 21)),
 oo 23 (.bin .sub (.t 22) (.c (.d (.int .i64 1)))),
 om 4 23])
 (.ret)
def g_tree_parser_put.codeF (R_i1:List Nat)(R_t16:Tr)(R_c0:ACode):ACode :=
 .seq (.region [0,3] none none
 [oo 3 (.box 3 6 (.t 1)),
 oo 4 (.mv (.c (.d (.int .i64 0))))])
 (.seq (.region [0] none (some (0::R_i1,R_t16)) g_tree_parser_put.a0)
 (R_c0))
def g_tree_parser_put.code:ACode:=g_tree_parser_put.codeF g_tree_parser_put.i1 g_tree_parser_put.t16 g_tree_parser_put.c0
def g_tree_parser_put:AFn:={ N:=24,res:=[.slot 4],own:=[],frz:=[],code:=g_tree_parser_put.code }
def g_tree_parser_sum.c0:ACode :=
 .region [0,1,5] none none
 [om 24 0,
 om 25 6,
 om 26 5,
 om 27 8,
 oo 28 (.build [.d (.str []),.d (.str []),.d (.int .i64 0),.d (.int .i64 0),.d (.int .i64 0),.d (.int .i64 0)] [(0,1,(.t 25)),(3,1,(.t 26)),(4,1,(.t 27))]),
 oo 29 (.call 222 [(.t 24),(.t 28)]),
 om 5 29]
def g_tree_parser_sum.c1:ACode :=
 .seq (.region [0,1,5,6,8] none none
 [om 21 0,
 om 22 1,
 oo 23 (.call 224 [(.t 21),(.t 22)]),
 om 8 23])
 (g_tree_parser_sum.c0)
def g_tree_parser_sum.c2:ACode :=
 .seq (.seq (.region [0,1,5,6,19] none none
 [om 18 7,
 oo 19 (.un .not (.t 18))])
 (.cond (.t 19) (.seq (.region [4] none none
 [om 20 5,
 om 4 20])
 (.ret))
 (.skip)))
 (g_tree_parser_sum.c1)
def g_tree_parser_sum.l0:ACode :=
 .loop [0,1,5] none (.block 1 [0,1,5] none (.seq (.region [0,1,5,6,7] none none
 [om 13 0,
 oo 14 (.bsl none 1 [] 2 [(0,(.c (.d (.str [43])))),(1,(.c (.d (.str [45]))))]),
 oo 15 (.call 219 [(.t 13),(.t 14)]),
 om 12 15,
 oo 16 (.ext (.t 12) 0),
 oo 17 (.ext (.t 12) 1),
 om 6 16,
 om 7 17])
 (g_tree_parser_sum.c2)))
def g_tree_parser_sum.c3:ACode :=
 .block 0 [4] none (g_tree_parser_sum.l0)
def g_tree_parser_sum.code:ACode :=
 .seq (.region [0,1] none none
 [oo 4 (.mv (.c (.d (.int .i64 0))))])
 (.seq (.region [0,1,5] none none
 [om 9 0,
 om 10 1,
 oo 11 (.call 224 [(.t 9),(.t 10)]),
 om 5 11])
 (g_tree_parser_sum.c3))
def g_tree_parser_sum:AFn:={ N:=30,res:=[.slot 4],own:=[],frz:=[],code:=g_tree_parser_sum.code }
def g_ref01_Parse.o1:List AOper :=
 [oo 18 (.pick (.t 14) (.t 17) (.c (.d (.bool false))))]
def g_ref01_Parse.o0:List AOper :=
 (og 15 (.mv (.t 4)) (3,14,true) ::
 og 16 (.idx (.t 15) (.c (.d (.int .i64 0)))) (3,14,true) ::
 ow 17 (.bin .eql (.t 16) (.c (.d (.int .u8 45)))) (3,14,true) [0,4,5,14,17] [] ::
 g_ref01_Parse.o1)
def g_ref01_Parse.c0:ACode :=
 .cond (.t 18) (.region [0,4,5] (some []) none
 [om 19 4,
 oo 20 (.slcS (.t 19) (some (.c (.d (.int .i64 1)))) none),
 om 4 20,
 oo 5 (.mv (.c (.d (.bool true))))])
 (.skip)
def g_ref01_Parse.o3:List AOper :=
 [oo 42 (.pick (.t 39) (.c (.d (.bool true))) (.t 41))]
def g_ref01_Parse.o2:List AOper :=
 (og 40 (.mv (.t 8)) (2,39,false) ::
 ow 41 (.bin .gtr (.t 40) (.c (.d (.int .u8 57)))) (2,39,false) [0,4,5,6,7,8,39,41] [] ::
 g_ref01_Parse.o3)
def g_ref01_Parse.c1:ACode :=
 .cond (.t 42) (.seq (.region [2,3] (some []) none
 [oo 2 (.mv (.c (.d (.int .i64 0)))),
 oo 3 (.mv (.c (.d (.bool false))))])
 (.ret))
 (.skip)
def g_ref01_Parse.c2:ACode :=
 .region [0,4,5,6,7] (some []) none
 [om 51 6,
 oo 52 (.bin .mul (.c (.d (.int .i64 10))) (.t 51)),
 om 53 9,
 oo 54 (.bin .add (.t 52) (.t 53)),
 om 6 54]
def g_ref01_Parse.c3:ACode :=
 .seq (.seq (.region [0,4,5,6,7,9,50] (some []) none
 [om 46 6,
 om 47 9,
 oo 48 (.bin .sub (.c (.d (.int .i64 9223372036854775807))) (.t 47)),
 oo 49 (.bin .quo (.t 48) (.c (.d (.int .i64 10)))),
 oo 50 (.bin .gtr (.t 46) (.t 49))])
 (.cond (.t 50) (.seq (.region [2,3] (some []) none
 [oo 2 (.mv (.c (.d (.int .i64 0)))),
 oo 3 (.mv (.c (.d (.bool false))))])
 (.ret))
 (.skip)))
 (g_ref01_Parse.c2)
def g_ref01_Parse.c4:ACode :=
 .seq (.region [0,4,5,6,7,9] (some []) none
 [om 43 8,
 oo 44 (.bin .sub (.t 43) (.c (.d (.int .u8 48)))),
 oo 45 (.conv .i64 (.t 44)),
 om 9 45])
 (g_ref01_Parse.c3)
def g_ref01_Parse.c5:ACode :=
 .seq (.seq (.region [0,4,5,6,7,8,42] (some []) none
 (om 37 8 ::
 oo 38 (.bin .lss (.t 37) (.c (.d (.int .u8 48)))) ::
 oz 39 (.mv (.t 38)) [0,4,5,6,7,8,39] [] ::
 g_ref01_Parse.o2))
 (g_ref01_Parse.c1))
 (g_ref01_Parse.c4)
def g_ref01_Parse.c6:ACode :=
 .seq (.seq (.region [0,4,5,6,7,8,34] (some []) none
 [om 30 7,
 om 31 4,
 oo 32 (.lenS (.t 31)),
 oo 33 (.bin .sub (.t 32) (.c (.d (.int .i64 3)))),
 oo 34 (.bin .eql (.t 30) (.t 33))])
 (.cond (.t 34) (.seq (.seq (.region [0,4,5,6,7,36] (some []) none
 [om 35 8,
 oo 36 (.bin .neq (.t 35) (.c (.d (.int .u8 46))))])
 (.cond (.t 36) (.seq (.region [2,3] (some []) none
 [oo 2 (.mv (.c (.d (.int .i64 0)))),
 oo 3 (.mv (.c (.d (.bool false))))])
 (.ret))
 (.skip)))
 (.exit 1))
 (.skip)))
 (g_ref01_Parse.c5)
def g_ref01_Parse.c7:ACode :=
 .region [0,4,5,6,7] (some []) none
 [om 25 7,
 oo 26 (.bin .add (.t 25) (.c (.d (.int .i64 1)))),
 om 7 26]
def g_ref01_Parse.c8:ACode :=
 .seq (.block 1 [0,4,5,6,7] (some []) (.seq (.region [0,4,5,6,7,8] (some []) none
 [om 27 4,
 om 28 7,
 oo 29 (.idx (.t 27) (.t 28)),
 om 8 29])
 (g_ref01_Parse.c6)))
 (g_ref01_Parse.c7)
def g_ref01_Parse.l0:ACode :=
 .loop [0,4,5,6,7] (some []) (.seq (.seq (.region [0,4,5,6,7,24] (some []) none
 [om 21 7,
 om 22 4,
 oo 23 (.lenS (.t 22)),
 oo 24 (.bin .lss (.t 21) (.t 23))])
 (.cond (.t 24) (.skip)
 (.exit 0)))
 (g_ref01_Parse.c8))
def g_ref01_Parse.o5:List AOper :=
 [oo 67 (.pick (.t 62) (.t 66) (.c (.d (.bool false)))),
 om 2 58,
 om 3 67]
def g_ref01_Parse.o4:List AOper :=
 (og 63 (.mv (.t 6)) (4,62,true) ::
 og 64 (.call 54 [(.t 63)]) (4,62,true) ::
 og 65 (.mv (.t 0)) (4,62,true) ::
 ow 66 (.bin .eql (.t 64) (.t 65)) (4,62,true) [58,62,66] [] ::
 g_ref01_Parse.o5)
def g_ref01_Parse.c9:ACode :=
 .ret
def g_ref01_Parse.c10:ACode :=
 .seq (.region [2,3] (some []) none
 (om 58 6 ::
 om 59 4 ::
 oo 60 (.lenS (.t 59)) ::
 oo 61 (.bin .geq (.t 60) (.c (.d (.int .i64 4)))) ::
 oz 62 (.mv (.t 61)) [0,6,58,62] [] ::
 g_ref01_Parse.o4))
 (g_ref01_Parse.c9)
def g_ref01_Parse.c11:ACode :=
 .seq (.seq (.region [0,4,6,55] (some []) none
 [om 55 5])
 (.cond (.t 55) (.region [0,4,6] (some []) none
 [om 56 6,
 oo 57 (.un .neg (.t 56)),
 om 6 57])
 (.skip)))
 (g_ref01_Parse.c10)
def g_ref01_Parse.c12:ACode :=
 .seq (.region [0,4,5,6] (some []) none
 [oo 6 (.mv (.c (.d (.int .i64 0))))])
 (.seq (.seq (.region [0,4,5,6,7] (some []) none
 [oo 7 (.mv (.c (.d (.int .i64 0))))])
 (.block 0 [0,4,5,6] (some []) (g_ref01_Parse.l0)))
 (g_ref01_Parse.c11))
def g_ref01_Parse.code:ACode :=
 .seq (.region [0] (some []) none
 [oo 2 (.mv (.c (.d (.int .i64 0)))),
 oo 3 (.mv (.c (.d (.bool false))))])
 (.seq (.region [0,4,5] (some []) none
 [om 10 0,
 om 4 10,
 oo 5 (.mv (.c (.d (.bool false))))])
 (.seq (.seq (.region [0,4,5,18] (some []) none
 (om 11 4 ::
 oo 12 (.lenS (.t 11)) ::
 oo 13 (.bin .gtr (.t 12) (.c (.d (.int .i64 0)))) ::
 oz 14 (.mv (.t 13)) [0,4,5,14] [] ::
 g_ref01_Parse.o0))
 (g_ref01_Parse.c0))
 (g_ref01_Parse.c12)))
def g_ref01_Parse:AFn:={ N:=68,res:=[.slot 2,.slot 3],own:=[],frz:=[],code:=g_ref01_Parse.code }
def g_ref03_Parse.o1:List AOper :=
 [oo 17 (.pick (.t 12) (.t 16) (.c (.d (.bool false))))]
def g_ref03_Parse.o0:List AOper :=
 (og 13 (.mv (.t 4)) (3,12,true) ::
 og 14 (.call 94 [(.t 13)]) (3,12,true) ::
 og 15 (.mv (.t 0)) (3,12,true) ::
 ow 16 (.bin .eql (.t 14) (.t 15)) (3,12,true) [0,4,12,16] [] ::
 g_ref03_Parse.o1)
def g_ref03_Parse.c0:ACode :=
 .cond (.t 17) (.seq (.region [2,3] (some []) none
 [om 18 4,
 om 2 18,
 oo 3 (.mv (.c (.d (.bool true))))])
 (.ret))
 (.skip)
def g_ref03_Parse.c1:ACode :=
 .region [0,4] (some []) none
 [om 7 4,
 oo 8 (.bin .add (.t 7) (.c (.d (.int .i64 1)))),
 om 4 8]
def g_ref03_Parse.l0:ACode :=
 .loop [0,4] (some []) (.seq (.seq (.region [0,4,6] (some []) none
 [om 5 4,
 oo 6 (.bin .leq (.t 5) (.c (.d (.int .i64 10000))))])
 (.cond (.t 6) (.skip)
 (.exit 0)))
 (.seq (.block 1 [0,4] (some []) (.seq (.region [0,4,17] (some []) none
 (om 9 0 ::
 oo 10 (.lenS (.t 9)) ::
 oo 11 (.bin .lss (.t 10) (.c (.d (.int .i64 9)))) ::
 oz 12 (.mv (.t 11)) [0,4,12] [] ::
 g_ref03_Parse.o0))
 (g_ref03_Parse.c0)))
 (g_ref03_Parse.c1)))
def g_ref03_Parse.c2:ACode :=
 .seq (.region [2,3] (some []) none
 [oo 2 (.mv (.c (.d (.int .i64 0)))),
 oo 3 (.mv (.c (.d (.bool false))))])
 (.ret)
def g_ref03_Parse.code:ACode :=
 .seq (.region [0] (some []) none
 [oo 2 (.mv (.c (.d (.int .i64 0)))),
 oo 3 (.mv (.c (.d (.bool false))))])
 (.seq (.seq (.region [0,4] (some []) none
 [oo 4 (.mv (.c (.d (.int .i64 0))))])
 (.block 0 [] (some []) (g_ref03_Parse.l0)))
 (g_ref03_Parse.c2))
def g_ref03_Parse:AFn:={ N:=19,res:=[.slot 2,.slot 3],own:=[],frz:=[],code:=g_ref03_Parse.code }
def g_ref07_whole.c0:ACode :=
 .region [0,3] (some []) none
 [om 8 3,
 oo 9 (.bin .add (.t 8) (.c (.d (.int .i64 1)))),
 om 3 9]
def g_ref07_whole.c1:ACode :=
 .seq (.block 1 [0,3] (some []) (.seq (.region [0,3,14] (some []) none
 [om 10 0,
 om 11 3,
 oo 12 (.idx (.t 10) (.t 11)),
 oo 13 (.call 96 [(.t 12),(.c (.d (.str [48,49,50,51,52,53,54,55,56,57])))]),
 oo 14 (.un .not (.t 13))])
 (.cond (.t 14) (.seq (.region [2] (some []) none
 [oo 2 (.mv (.c (.d (.bool false))))])
 (.ret))
 (.skip))))
 (g_ref07_whole.c0)
def g_ref07_whole.l0:ACode :=
 .loop [0,3] (some []) (.seq (.seq (.region [0,3,7] (some []) none
 [om 4 3,
 om 5 0,
 oo 6 (.lenS (.t 5)),
 oo 7 (.bin .lss (.t 4) (.t 6))])
 (.cond (.t 7) (.skip)
 (.exit 0)))
 (g_ref07_whole.c1))
def g_ref07_whole.o5:List AOper :=
 [oo 32 (.pick (.t 23) (.t 31) (.c (.d (.bool false)))),
 om 2 32]
def g_ref07_whole.o4:List AOper :=
 (ow 31 (.pick (.t 27) (.c (.d (.bool true))) (.t 30)) (8,23,true) [23,31] [] ::
 g_ref07_whole.o5)
def g_ref07_whole.o3:List AOper :=
 (og 28 (.mv (.t 0)) (12,27,false) ::
 og 29 (.idx (.t 28) (.c (.d (.int .i64 0)))) (12,27,false) ::
 ow 30 (.bin .neq (.t 29) (.c (.d (.int .u8 48)))) (12,27,false) [23,27,30] [] ::
 g_ref07_whole.o4)
def g_ref07_whole.o2:List AOper :=
 (og 24 (.mv (.t 0)) (8,23,true) ::
 og 25 (.lenS (.t 24)) (8,23,true) ::
 og 26 (.bin .eql (.t 25) (.c (.d (.int .i64 1)))) (8,23,true) ::
 ow 27 (.mv (.t 26)) (8,23,true) [0,23,27] [] ::
 g_ref07_whole.o3)
def g_ref07_whole.o1:List AOper :=
 (oo 22 (.pick (.t 18) (.t 21) (.c (.d (.bool false)))) ::
 oz 23 (.mv (.t 22)) [0,23] [] ::
 g_ref07_whole.o2)
def g_ref07_whole.o0:List AOper :=
 (og 19 (.mv (.t 0)) (3,18,true) ::
 og 20 (.lenS (.t 19)) (3,18,true) ::
 ow 21 (.bin .lss (.t 20) (.c (.d (.int .i64 10)))) (3,18,true) [0,18,21] [] ::
 g_ref07_whole.o1)
def g_ref07_whole.c2:ACode :=
 .ret
def g_ref07_whole.c3:ACode :=
 .seq (.region [2] (some []) none
 (om 15 0 ::
 oo 16 (.lenS (.t 15)) ::
 oo 17 (.bin .gtr (.t 16) (.c (.d (.int .i64 0)))) ::
 oz 18 (.mv (.t 17)) [0,18] [] ::
 g_ref07_whole.o0))
 (g_ref07_whole.c2)
def g_ref07_whole.code:ACode :=
 .seq (.region [0] (some []) none
 [oo 2 (.mv (.c (.d (.bool false))))])
 (.seq (.seq (.region [0,3] (some []) none
 [oo 3 (.mv (.c (.d (.int .i64 0))))])
 (.block 0 [0] (some []) (g_ref07_whole.l0)))
 (g_ref07_whole.c3))
def g_ref07_whole:AFn:={ N:=33,res:=[.slot 2],own:=[],frz:=[],code:=g_ref07_whole.code }
def g_ref08_factor.c0:ACode :=
 .seq (.region [4,5] (some [4,108]) none
 [oo 46 (.load (some 7) (.t 7)),
 om 47 8,
 oo 48 (.build [.d (.str []),.d (.str []),.d (.int .i64 0),.d (.int .i64 0),.d (.int .i64 0),.d (.int .i64 0)] [(0,1,(.c (.d (.str [110,101,103])))),(3,1,(.t 47))]),
 oo 49 (.call 209 [(.t 46),(.t 48)]),
 oo 50 (.ext (.t 49) 0),
 oo 51 (.ext (.t 49) 1),
 ⟨none,.store 7 (.t 4) (.t 50),[],[],none,none⟩,
 om 5 51])
 (.ret)
def g_ref08_factor.c1:ACode :=
 .seq (.region [4,7,8] (some [4,7,108]) none
 [oo 40 (.load (some 7) (.t 2)),
 om 41 1,
 oo 42 (.bin .add (.t 41) (.c (.d (.int .i64 1)))),
 oo 43 (.call 214 [(.t 40),(.t 42)]),
 om 39 43,
 oo 44 (.ext (.t 39) 0),
 oo 45 (.ext (.t 39) 1),
 oo 7 (.alloc 7 [.cap0,.d (.int .i64 0),.d (.int .i64 0),.cap0,.cap0,.d (.int .i64 0),.d (.int .i64 0)]),
 ⟨none,.store 7 (.t 7) (.t 44),[],[],none,none⟩,
 om 8 45])
 (g_ref08_factor.c0)
def g_ref08_factor.c2:ACode :=
 .seq (.region [4,5] (some [4,108]) none
 [oo 65 (.load (some 7) (.t 9)),
 oo 66 (.call 195 [(.t 65),(.c (.d (.str [41])))]),
 om 67 10,
 ⟨none,.store 7 (.t 4) (.t 66),[],[],none,none⟩,
 om 5 67])
 (.ret)
def g_ref08_factor.c3:ACode :=
 .seq (.region [4,9,10] (some [4,9,108]) none
 [oo 59 (.load (some 7) (.t 2)),
 om 60 1,
 oo 61 (.bin .add (.t 60) (.c (.d (.int .i64 1)))),
 oo 62 (.call 196 [(.t 59),(.t 61)]),
 om 58 62,
 oo 63 (.ext (.t 58) 0),
 oo 64 (.ext (.t 58) 1),
 oo 9 (.alloc 9 [.cap0,.d (.int .i64 0),.d (.int .i64 0),.cap0,.cap0,.d (.int .i64 0),.d (.int .i64 0)]),
 ⟨none,.store 7 (.t 9) (.t 63),[],[],none,none⟩,
 om 10 64])
 (g_ref08_factor.c2)
def g_ref08_factor.o1:List AOper :=
 [oo 73 (.pick (.t 70) (.c (.d (.bool true))) (.t 72))]
def g_ref08_factor.o0:List AOper :=
 (og 71 (.mv (.t 6)) (2,70,false) ::
 ow 72 (.bin .eql (.t 71) (.c (.d (.str [109,97,120])))) (2,70,false) [1,2,4,6,70,72] [2,4,108] ::
 g_ref08_factor.o1)
def g_ref08_factor.c4:ACode :=
 .seq (.region [4,5] (some [4,108]) none
 [oo 94 (.load (some 7) (.t 13)),
 oo 95 (.call 195 [(.t 94),(.c (.d (.str [41])))]),
 om 96 6,
 om 97 12,
 om 98 14,
 oo 99 (.build [.d (.str []),.d (.str []),.d (.int .i64 0),.d (.int .i64 0),.d (.int .i64 0),.d (.int .i64 0)] [(0,1,(.t 96)),(3,1,(.t 97)),(4,1,(.t 98))]),
 oo 100 (.call 209 [(.t 95),(.t 99)]),
 oo 101 (.ext (.t 100) 0),
 oo 102 (.ext (.t 100) 1),
 ⟨none,.store 7 (.t 4) (.t 101),[],[],none,none⟩,
 om 5 102])
 (.ret)
def g_ref08_factor.c5:ACode :=
 .seq (.region [4,6,12,13,14] (some [4,13,108]) none
 [oo 87 (.load (some 7) (.t 11)),
 oo 88 (.call 195 [(.t 87),(.c (.d (.str [44])))]),
 om 89 1,
 oo 90 (.bin .add (.t 89) (.c (.d (.int .i64 1)))),
 oo 91 (.call 196 [(.t 88),(.t 90)]),
 om 86 91,
 oo 92 (.ext (.t 86) 0),
 oo 93 (.ext (.t 86) 1),
 oo 13 (.alloc 13 [.cap0,.d (.int .i64 0),.d (.int .i64 0),.cap0,.cap0,.d (.int .i64 0),.d (.int .i64 0)]),
 ⟨none,.store 7 (.t 13) (.t 92),[],[],none,none⟩,
 om 14 93])
 (g_ref08_factor.c4)
def g_ref08_factor.c6:ACode :=
 .seq (.region [1,4,6,11,12] (some [4,11,108]) none
 [oo 79 (.load (some 7) (.t 2)),
 oo 80 (.call 195 [(.t 79),(.c (.d (.str [40])))]),
 om 81 1,
 oo 82 (.bin .add (.t 81) (.c (.d (.int .i64 1)))),
 oo 83 (.call 196 [(.t 80),(.t 82)]),
 om 78 83,
 oo 84 (.ext (.t 78) 0),
 oo 85 (.ext (.t 78) 1),
 oo 11 (.alloc 11 [.cap0,.d (.int .i64 0),.d (.int .i64 0),.cap0,.cap0,.d (.int .i64 0),.d (.int .i64 0)]),
 ⟨none,.store 7 (.t 11) (.t 84),[],[],none,none⟩,
 om 12 85])
 (g_ref08_factor.c5)
def g_ref08_factor.c7:ACode :=
 .cond (.t 73) (.seq (.region [1,2,4,6] (some [2,4,108]) none
 [oo 74 (.faddr 2 (.t 2)),
 oo 75 (.load none (.t 74)),
 oo 76 (.bin .add (.t 75) (.c (.d (.int .i64 1)))),
 oo 77 (.faddr 2 (.t 2)),
 ⟨none,.store 1 (.t 77) (.t 76),[],[],none,none⟩])
 (g_ref08_factor.c6))
 (.skip)
def g_ref08_factor.c8:ACode :=
 .region [2,4,15,16,17,18] (some [2,4,15,16,108]) none
 [om 138 18,
 oo 139 (.bin .add (.t 138) (.c (.d (.int .i64 1)))),
 om 18 139]
def g_ref08_factor.c9:ACode :=
 .seq (.block 2 [2,4,15,16,17,18] (some [2,4,15,16,108]) (.region [2,4,15,16,17,18] (some [2,4,15,16,108]) none
 [om 140 17,
 oo 141 (.bin .mul (.c (.d (.int .i64 10))) (.t 140)),
 oo 142 (.faddr 1 (.t 15)),
 oo 143 (.load none (.t 142)),
 om 144 18,
 oo 145 (.idx (.t 143) (.t 144)),
 oo 146 (.bin .sub (.t 145) (.c (.d (.int .u8 48)))),
 oo 147 (.conv .i64 (.t 146)),
 oo 148 (.bin .add (.t 141) (.t 147)),
 om 17 148]))
 (g_ref08_factor.c8)
def g_ref08_factor.l0:ACode :=
 .loop [2,4,15,16,17,18] (some [2,4,15,16,108]) (.seq (.seq (.region [2,4,15,16,17,18,137] (some [2,4,15,16,108]) none
 [om 133 18,
 oo 134 (.faddr 1 (.t 15)),
 oo 135 (.load none (.t 134)),
 oo 136 (.lenS (.t 135)),
 oo 137 (.bin .lss (.t 133) (.t 136))])
 (.cond (.t 137) (.skip)
 (.exit 1)))
 (g_ref08_factor.c9))
def g_ref08_factor.c10:ACode :=
 .region [2,4,16] (some [2,4,16,108]) none
 [om 149 17,
 oo 150 (.build [.d (.str []),.d (.str []),.d (.int .i64 0),.d (.int .i64 0),.d (.int .i64 0),.d (.int .i64 0)] [(0,1,(.c (.d (.str [119,104,111,108,101])))),(2,1,(.t 149))]),
 ⟨none,.store 6 (.t 16) (.t 150),[],[],none,none⟩]
def g_ref08_factor.c11:ACode :=
 .region [2,4,16] (some [2,4,16,108]) none
 [om 159 19,
 oo 160 (.build [.d (.str []),.d (.str []),.d (.int .i64 0),.d (.int .i64 0),.d (.int .i64 0),.d (.int .i64 0)] [(0,1,(.c (.d (.str [97,109,111,117,110,116])))),(2,1,(.t 159))]),
 ⟨none,.store 6 (.t 16) (.t 160),[],[],none,none⟩]
def g_ref08_factor.c12:ACode :=
 .region [2,4,16] (some [2,4,16,108]) none
 [om 169 21,
 oo 170 (.build [.d (.str []),.d (.str []),.d (.int .i64 0),.d (.int .i64 0),.d (.int .i64 0),.d (.int .i64 0)] [(0,1,(.c (.d (.str [114,97,116,101])))),(2,1,(.t 169))]),
 ⟨none,.store 6 (.t 16) (.t 170),[],[],none,none⟩]
def g_ref08_factor.c13:ACode :=
 .seq (.region [4,5] (some [4,108]) none
 [oo 175 (.load (some 7) (.t 2)),
 oo 176 (.load (some 6) (.t 16)),
 oo 177 (.call 209 [(.t 175),(.t 176)]),
 oo 178 (.ext (.t 177) 0),
 oo 179 (.ext (.t 177) 1),
 ⟨none,.store 7 (.t 4) (.t 178),[],[],none,none⟩,
 om 5 179])
 (.ret)
def g_ref08_factor.c14:ACode :=
 .seq (.region [2,4,16] (some [2,4,16,108]) none
 [oo 171 (.faddr 2 (.t 2)),
 oo 172 (.load none (.t 171)),
 oo 173 (.bin .add (.t 172) (.c (.d (.int .i64 1)))),
 oo 174 (.faddr 2 (.t 2)),
 ⟨none,.store 1 (.t 174) (.t 173),[],[],none,none⟩])
 (g_ref08_factor.c13)
def g_ref08_factor.c15:ACode :=
 .seq (.seq (.region [2,4,15,16,121] (some [2,4,15,16,108]) none
 [oo 120 (.faddr 0 (.t 15)),
 oo 121 (.load none (.t 120))])
 (.block 0 [2,4,16] (some [2,4,16,108]) (.seq (.region [2,4,15,16,121,124] (some [2,4,15,16,108]) none
 [oo 125 (.bin .eql (.t 121) (.c (.d (.int .i64 1)))),
 om 124 125])
 (.cond (.t 124) (.seq (.region [2,4,16,128] (some [2,4,16,108]) none
 [oo 126 (.faddr 1 (.t 15)),
 oo 127 (.load none (.t 126)),
 oo 128 (.call 152 [(.t 127)])])
 (.cond (.t 128) (.seq (.region [4,5] (some [4,108]) none
 [oo 129 (.load (some 7) (.t 2)),
 oo 130 (.call 194 [(.t 129),(.c (.d (.int .i64 2)))]),
 ⟨none,.store 7 (.t 4) (.t 130),[],[],none,none⟩,
 oo 5 (.mv (.c (.d (.int .i64 0))))])
 (.ret))
 (.skip)))
 (.seq (.region [2,4,15,16,121,131] (some [2,4,15,16,108]) none
 [oo 132 (.bin .eql (.t 121) (.c (.d (.int .i64 2)))),
 om 131 132])
 (.cond (.t 131) (.seq (.region [2,4,15,16,17] (some [2,4,15,16,108]) none
 [oo 17 (.mv (.c (.d (.int .i64 0))))])
 (.seq (.seq (.region [2,4,15,16,17,18] (some [2,4,15,16,108]) none
 [oo 18 (.mv (.c (.d (.int .i64 0))))])
 (.block 1 [2,4,16,17] (some [2,4,16,108]) (g_ref08_factor.l0)))
 (g_ref08_factor.c10)))
 (.seq (.region [2,4,15,16,121,151] (some [2,4,15,16,108]) none
 [oo 152 (.bin .eql (.t 121) (.c (.d (.int .i64 3)))),
 om 151 152])
 (.cond (.t 151) (.seq (.region [2,4,16,19] (some [2,4,16,108]) none
 [oo 154 (.faddr 1 (.t 15)),
 oo 155 (.load none (.t 154)),
 oo 156 (.call 52 [(.t 155)]),
 om 153 156,
 oo 157 (.ext (.t 153) 0),
 oo 158 (.ext (.t 153) 1),
 om 19 157,
 om 20 158])
 (g_ref08_factor.c11))
 (.seq (.region [2,4,15,16,161] (some [2,4,15,16,108]) none
 [oo 162 (.bin .eql (.t 121) (.c (.d (.int .i64 4)))),
 om 161 162])
 (.cond (.t 161) (.seq (.region [2,4,16,21] (some [2,4,16,108]) none
 [oo 164 (.faddr 1 (.t 15)),
 oo 165 (.load none (.t 164)),
 oo 166 (.call 93 [(.t 165)]),
 om 163 166,
 oo 167 (.ext (.t 163) 0),
 oo 168 (.ext (.t 163) 1),
 om 21 167,
 om 22 168])
 (g_ref08_factor.c12))
 (.seq (.region [4,5] (some [4,108]) none
 [oo 122 (.load (some 7) (.t 2)),
 oo 123 (.call 194 [(.t 122),(.c (.d (.int .i64 2)))]),
 ⟨none,.store 7 (.t 4) (.t 123),[],[],none,none⟩,
 oo 5 (.mv (.c (.d (.int .i64 0))))])
 (.ret))))))))))))
 (g_ref08_factor.c14)
def g_ref08_factor.c16:ACode :=
 .seq (.region [2,4,15,16] (some [2,4,15,16,108]) none
 [oo 117 (.faddr 1 (.t 15)),
 oo 118 (.load none (.t 117)),
 oo 119 (.build [.d (.str []),.d (.str []),.d (.int .i64 0),.d (.int .i64 0),.d (.int .i64 0),.d (.int .i64 0)] [(0,1,(.c (.d (.str [110,97,109,101])))),(1,1,(.t 118))]),
 oo 16 (.alloc 16 [.d (.str []),.d (.str []),.d (.int .i64 0),.d (.int .i64 0),.d (.int .i64 0),.d (.int .i64 0)]),
 ⟨none,.store 6 (.t 16) (.t 119),[],[],none,none⟩])
 (g_ref08_factor.c15)
def g_ref08_factor.c17:ACode :=
 .seq (.region [2,4,15] (some [2,4,15,108]) none
 [oo 111 (.faddr 0 (.t 2)),
 oo 112 (.load none (.t 111)),
 oo 113 (.faddr 2 (.t 2)),
 oo 114 (.load none (.t 113)),
 oo 115 (.iaddr 3 (.t 112) (.t 114)),
 oo 116 (.load (some 3) (.t 115)),
 oo 15 (.alloc 15 [.d (.int .i64 0),.d (.str []),.d (.int .i64 0)]),
 ⟨none,.store 3 (.t 15) (.t 116),[],[],none,none⟩])
 (g_ref08_factor.c16)
def g_ref08_factor.c18:ACode :=
 .seq (.seq (.region [2,4,108] (some [2,4,108]) none
 [oo 103 (.faddr 2 (.t 2)),
 oo 104 (.load none (.t 103)),
 oo 105 (.faddr 0 (.t 2)),
 oo 106 (.load none (.t 105)),
 oo 107 (.len (.t 106)),
 oo 108 (.bin .geq (.t 104) (.t 107))])
 (.cond (.t 108) (.seq (.region [4,5] (some [4,108]) none
 [oo 109 (.load (some 7) (.t 2)),
 oo 110 (.call 194 [(.t 109),(.c (.d (.int .i64 2)))]),
 ⟨none,.store 7 (.t 4) (.t 110),[],[],none,none⟩,
 oo 5 (.mv (.c (.d (.int .i64 0))))])
 (.ret))
 (.skip)))
 (g_ref08_factor.c17)
def g_ref08_factor.c19:ACode :=
 .seq (.seq (.region [1,2,4,6,73] (some [2,4,108]) none
 (om 68 6 ::
 oo 69 (.bin .eql (.t 68) (.c (.d (.str [109,105,110])))) ::
 oz 70 (.mv (.t 69)) [1,2,4,6,70] [2,4,108] ::
 g_ref08_factor.o0))
 (g_ref08_factor.c7))
 (g_ref08_factor.c18)
def g_ref08_factor.c20:ACode :=
 .seq (.seq (.region [1,2,4,6,53] (some [2,4,108]) none
 [om 52 6,
 oo 53 (.bin .eql (.t 52) (.c (.d (.str [40]))))])
 (.cond (.t 53) (.seq (.region [1,2,4] (some [2,4,108]) none
 [oo 54 (.faddr 2 (.t 2)),
 oo 55 (.load none (.t 54)),
 oo 56 (.bin .add (.t 55) (.c (.d (.int .i64 1)))),
 oo 57 (.faddr 2 (.t 2)),
 ⟨none,.store 1 (.t 57) (.t 56),[],[],none,none⟩])
 (g_ref08_factor.c3))
 (.skip)))
 (g_ref08_factor.c19)
def g_ref08_factor.c21:ACode :=
 .seq (.region [1,2,4,6] (some [2,4,108]) none
 [oo 31 (.load (some 7) (.t 2)),
 oo 32 (.call 193 [(.t 31)]),
 om 6 32])
 (.seq (.seq (.region [1,2,4,6,34] (some [2,4,108]) none
 [om 33 6,
 oo 34 (.bin .eql (.t 33) (.c (.d (.str [45]))))])
 (.cond (.t 34) (.seq (.region [1,2,4] (some [2,4,108]) none
 [oo 35 (.faddr 2 (.t 2)),
 oo 36 (.load none (.t 35)),
 oo 37 (.bin .add (.t 36) (.c (.d (.int .i64 1)))),
 oo 38 (.faddr 2 (.t 2)),
 ⟨none,.store 1 (.t 38) (.t 37),[],[],none,none⟩])
 (g_ref08_factor.c1))
 (.skip)))
 (g_ref08_factor.c20))
def g_ref08_factor.c22:ACode :=
 .seq (.seq (.region [1,2,4,29] (some [2,4,108]) none
 [oo 27 (.faddr 5 (.t 2)),
 oo 28 (.load none (.t 27)),
 oo 29 (.bin .neq (.t 28) (.c (.d (.int .i64 0))))])
 (.cond (.t 29) (.seq (.region [4,5] (some [4,108]) none
 [oo 30 (.load (some 7) (.t 2)),
 ⟨none,.store 7 (.t 4) (.t 30),[],[],none,none⟩,
 oo 5 (.mv (.c (.d (.int .i64 0))))])
 (.ret))
 (.skip)))
 (g_ref08_factor.c21)
def g_ref08_factor.code:ACode :=
 .seq (.region [1,2,4] (some [2,4,108]) none
 [oo 2 (.box 2 7 (.t 0)),
 oo 4 (.alloc 4 [.cap0,.d (.int .i64 0),.d (.int .i64 0),.cap0,.cap0,.d (.int .i64 0),.d (.int .i64 0)]),
 oo 5 (.mv (.c (.d (.int .i64 0))))])
 (.seq (.seq (.region [1,2,4,24] (some [2,4,108]) none
 [om 23 1,
 oo 24 (.bin .gtr (.t 23) (.c (.d (.int .i64 20))))])
 (.cond (.t 24) (.region [1,2,4] (some [2,4,108]) none
 [oo 25 (.load (some 7) (.t 2)),
 oo 26 (.call 194 [(.t 25),(.c (.d (.int .i64 9)))]),
 ⟨none,.store 7 (.t 2) (.t 26),[],[],none,none⟩])
 (.skip)))
 (g_ref08_factor.c22))
def g_ref08_factor:AFn:={ N:=180,res:=[.cell 4 (some 7),.slot 5],own:=[],frz:=[],code:=g_ref08_factor.code }
def g_ref08_level.c0:ACode :=
 .seq (.region [2] (some []) none
 [oo 9 (.bsl none 1 [] 1 [(0,(.c (.d (.str [42]))))]),
 om 2 9])
 (.ret)
def g_ref08_level.c1:ACode :=
 .seq (.seq (.region [7] (some []) none
 [om 6 0,
 oo 7 (.bin .eql (.t 6) (.c (.d (.int .i64 1))))])
 (.cond (.t 7) (.seq (.region [2] (some []) none
 [oo 8 (.bsl none 1 [] 2 [(0,(.c (.d (.str [43])))),(1,(.c (.d (.str [45]))))]),
 om 2 8])
 (.ret))
 (.skip)))
 (g_ref08_level.c0)
def g_ref08_level.code:ACode :=
 .seq (.region [0] (some []) none
 [oo 2 (.mv (.c (.cap0)))])
 (.seq (.seq (.region [0,4] (some []) none
 [om 3 0,
 oo 4 (.bin .eql (.t 3) (.c (.d (.int .i64 0))))])
 (.cond (.t 4) (.seq (.region [2] (some []) none
 [oo 5 (.bsl none 1 [] 6 [(0,(.c (.d (.str [60])))),(1,(.c (.d (.str [60,61])))),(2,(.c (.d (.str [61])))),(3,(.c (.d (.str [60,62])))),(4,(.c (.d (.str [62])))),(5,(.c (.d (.str [62,61]))))]),
 om 2 5])
 (.ret))
 (.skip)))
 (g_ref08_level.c1))
def g_ref08_level:AFn:={ N:=10,res:=[.slot 2],own:=[],frz:=[],code:=g_ref08_level.code }
def g_show_leaf.c0:ACode :=
 .seq (.region [2] (some []) none
 [om 31 3,
 om 2 31])
 (.ret)
def g_show_leaf.code:ACode :=
 .seq (.region [1] (some [1]) none
 [oo 1 (.box 1 6 (.t 0)),
 oo 2 (.mv (.c (.d (.str []))))])
 (.seq (.region [1,3] (some [1]) none
 [oo 3 (.mv (.c (.d (.str []))))])
 (.seq (.seq (.region [1,3,5] (some [1]) none
 [oo 4 (.faddr 0 (.t 1)),
 oo 5 (.load none (.t 4))])
 (.block 0 [3] (some []) (.seq (.region [1,3,5,6] (some [1]) none
 [oo 7 (.bin .eql (.t 5) (.c (.d (.str [119,104,111,108,101])))),
 om 6 7])
 (.cond (.t 6) (.region [3] (some []) none
 [oo 8 (.faddr 2 (.t 1)),
 oo 9 (.load none (.t 8)),
 oo 10 (.call 68 [(.t 9)]),
 om 3 10])
 (.seq (.region [1,3,5,11] (some [1]) none
 [oo 12 (.bin .eql (.t 5) (.c (.d (.str [97,109,111,117,110,116])))),
 om 11 12])
 (.cond (.t 11) (.region [3] (some []) none
 [oo 14 (.faddr 2 (.t 1)),
 oo 15 (.load none (.t 14)),
 oo 16 (.call 50 [(.t 15)]),
 om 13 16,
 oo 17 (.ext (.t 13) 0),
 oo 18 (.ext (.t 13) 1),
 om 3 17])
 (.seq (.region [1,3,5,19] (some [1]) none
 [oo 20 (.bin .eql (.t 5) (.c (.d (.str [114,97,116,101])))),
 om 19 20])
 (.cond (.t 19) (.region [3] (some []) none
 [oo 22 (.faddr 2 (.t 1)),
 oo 23 (.load none (.t 22)),
 oo 24 (.call 91 [(.t 23)]),
 om 21 24,
 oo 25 (.ext (.t 21) 0),
 oo 26 (.ext (.t 21) 1),
 om 3 25])
 (.seq (.region [1,3,27] (some [1]) none
 [oo 28 (.bin .eql (.t 5) (.c (.d (.str [110,97,109,101])))),
 om 27 28])
 (.cond (.t 27) (.region [3] (some []) none
 [oo 29 (.faddr 1 (.t 1)),
 oo 30 (.load none (.t 29)),
 om 3 30])
 (.skip)))))))))))
 (g_show_leaf.c0)))
def g_show_leaf:AFn:={ N:=32,res:=[.slot 2],own:=[],frz:=[],code:=g_show_leaf.code }
def g_money_Parse.o1:List AOper :=
 [oo 20 (.pick (.t 16) (.c (.d (.bool true))) (.t 19))]
def g_money_Parse.o0:List AOper :=
 (og 17 (.mv (.t 4)) (2,16,false) ::
 og 18 (.call 58 [(.t 17)]) (2,16,false) ::
 ow 19 (.un .not (.t 18)) (2,16,false) [0,4,16,19] [] ::
 g_money_Parse.o1)
def g_money_Parse.c0:ACode :=
 .cond (.t 20) (.seq (.region [2,3] (some []) none
 [oo 2 (.mv (.c (.d (.int .i64 0)))),
 oo 3 (.mv (.c (.d (.bool false))))])
 (.ret))
 (.skip)
def g_money_Parse.c1:ACode :=
 .seq (.region [4,28] (some []) none
 [om 26 6,
 om 27 0,
 oo 28 (.bin .neq (.t 26) (.t 27))])
 (.cond (.t 28) (.seq (.region [2,3] (some []) none
 [oo 2 (.mv (.c (.d (.int .i64 0)))),
 oo 3 (.mv (.c (.d (.bool false))))])
 (.ret))
 (.skip))
def g_money_Parse.c2:ACode :=
 .seq (.region [2,3] (some []) none
 [om 29 4,
 om 2 29,
 oo 3 (.mv (.c (.d (.bool true))))])
 (.ret)
def g_money_Parse.c3:ACode :=
 .seq (.seq (.region [0,4,6] (some []) none
 [om 22 4,
 oo 23 (.call 50 [(.t 22)]),
 om 21 23,
 oo 24 (.ext (.t 21) 0),
 oo 25 (.ext (.t 21) 1),
 om 6 24,
 om 7 25])
 (g_money_Parse.c1))
 (g_money_Parse.c2)
def g_money_Parse.c4:ACode :=
 .seq (.seq (.region [0,4,20] (some []) none
 (om 14 5 ::
 oo 15 (.nilE true (.t 14)) ::
 oz 16 (.mv (.t 15)) [0,4,16] [] ::
 g_money_Parse.o0))
 (g_money_Parse.c0))
 (g_money_Parse.c3)
def g_money_Parse.code:ACode :=
 .seq (.region [0] (some []) none
 [oo 2 (.mv (.c (.d (.int .i64 0)))),
 oo 3 (.mv (.c (.d (.bool false))))])
 (.seq (.region [0,4,5] (some []) none
 [om 9 0,
 oo 10 (.call 69 [(.t 9),(.c (.d (.str [46]))),(.c (.d (.str []))),(.c (.d (.int .i64 1)))]),
 oo 11 (.call 70 [(.t 10)]),
 om 8 11,
 oo 12 (.ext (.t 8) 0),
 oo 13 (.ext (.t 8) 1),
 om 4 12,
 om 5 13])
 (g_money_Parse.c4))
def g_money_Parse:AFn:={ N:=30,res:=[.slot 2,.slot 3],own:=[],frz:=[],code:=g_money_Parse.code }
def g_rate_Parse.o3:List AOper :=
 [oo 28 (.pick (.t 24) (.c (.d (.bool true))) (.t 27))]
def g_rate_Parse.o2:List AOper :=
 (og 25 (.mv (.t 6)) (6,24,false) ::
 og 26 (.call 88 [(.t 25)]) (6,24,false) ::
 ow 27 (.un .not (.t 26)) (6,24,false) [6,24,27] [] ::
 g_rate_Parse.o3)
def g_rate_Parse.o1:List AOper :=
 (oo 23 (.pick (.t 20) (.c (.d (.bool true))) (.t 22)) ::
 oz 24 (.mv (.t 23)) [6,24] [] ::
 g_rate_Parse.o2)
def g_rate_Parse.o0:List AOper :=
 (og 21 (.mv (.t 7)) (2,20,false) ::
 ow 22 (.un .not (.t 21)) (2,20,false) [6,20,22] [] ::
 g_rate_Parse.o1)
def g_rate_Parse.c0:ACode :=
 .cond (.t 28) (.seq (.region [2,3] (some []) none
 [oo 2 (.mv (.c (.d (.int .i64 0)))),
 oo 3 (.mv (.c (.d (.bool false))))])
 (.ret))
 (.skip)
def g_rate_Parse.c1:ACode :=
 .seq (.region [2,3] (some []) none
 [om 29 6,
 om 2 29,
 oo 3 (.mv (.c (.d (.bool true))))])
 (.ret)
def g_rate_Parse.c2:ACode :=
 .seq (.seq (.region [6,28] (some []) none
 (om 18 5 ::
 oo 19 (.un .not (.t 18)) ::
 oz 20 (.mv (.t 19)) [6,7,20] [] ::
 g_rate_Parse.o0))
 (g_rate_Parse.c0))
 (g_rate_Parse.c1)
def g_rate_Parse.c3:ACode :=
 .seq (.region [5,6,7] (some []) none
 [om 14 4,
 oo 15 (.call 51 [(.t 14)]),
 om 13 15,
 oo 16 (.ext (.t 13) 0),
 oo 17 (.ext (.t 13) 1),
 om 6 16,
 om 7 17])
 (g_rate_Parse.c2)
def g_rate_Parse.code:ACode :=
 .seq (.region [0] (some []) none
 [oo 2 (.mv (.c (.d (.int .i64 0)))),
 oo 3 (.mv (.c (.d (.bool false))))])
 (.seq (.region [4,5] (some []) none
 [om 9 0,
 oo 10 (.call 101 [(.t 9),(.c (.d (.str [37])))]),
 om 8 10,
 oo 11 (.ext (.t 8) 0),
 oo 12 (.ext (.t 8) 1),
 om 4 11,
 om 5 12])
 (g_rate_Parse.c3))
def g_rate_Parse:AFn:={ N:=30,res:=[.slot 2,.slot 3],own:=[],frz:=[],code:=g_rate_Parse.code }
def g_strings_HasPrefix.code:ACode :=
 .seq (.region [0,1] (some []) none
 [oo 4 (.mv (.c (.d (.bool false))))])
 (.seq (.region [4] (some []) none
 [om 5 0,
 om 6 1,
 oo 7 (.call 131 [(.t 5),(.t 6)]),
 om 4 7])
 (.ret))
def g_strings_HasPrefix:AFn:={ N:=8,res:=[.slot 4],own:=[],frz:=[],code:=g_strings_HasPrefix.code }
def g_tree_parser_product.c0:ACode :=
 .seq (.region [0,1,5,19] none none
 [om 18 7,
 oo 19 (.un .not (.t 18))])
 (.cond (.t 19) (.seq (.region [4] none none
 [om 20 5,
 om 4 20])
 (.ret))
 (.skip))
def g_tree_parser_product.c1:ACode :=
 .region [0,1,5] none none
 [om 24 0,
 om 25 5,
 om 26 8,
 oo 27 (.build [.d (.str []),.d (.str []),.d (.int .i64 0),.d (.int .i64 0),.d (.int .i64 0),.d (.int .i64 0)] [(0,1,(.c (.d (.str [42])))),(3,1,(.t 25)),(4,1,(.t 26))]),
 oo 28 (.call 222 [(.t 24),(.t 27)]),
 om 5 28]
def g_tree_parser_product.c2:ACode :=
 .seq (.region [0,1,5,8] none none
 [om 21 0,
 om 22 1,
 oo 23 (.call 225 [(.t 21),(.t 22)]),
 om 8 23])
 (g_tree_parser_product.c1)
def g_tree_parser_product.l0:ACode :=
 .loop [0,1,5] none (.block 1 [0,1,5] none (.seq (.seq (.region [0,1,5,7] none none
 [om 13 0,
 oo 14 (.bsl none 1 [] 1 [(0,(.c (.d (.str [42]))))]),
 oo 15 (.call 219 [(.t 13),(.t 14)]),
 om 12 15,
 oo 16 (.ext (.t 12) 0),
 oo 17 (.ext (.t 12) 1),
 om 6 16,
 om 7 17])
 (g_tree_parser_product.c0))
 (g_tree_parser_product.c2)))
def g_tree_parser_product.c3:ACode :=
 .block 0 [4] none (g_tree_parser_product.l0)
def g_tree_parser_product.code:ACode :=
 .seq (.region [0,1] none none
 [oo 4 (.mv (.c (.d (.int .i64 0))))])
 (.seq (.region [0,1,5] none none
 [om 9 0,
 om 10 1,
 oo 11 (.call 225 [(.t 9),(.t 10)]),
 om 5 11])
 (g_tree_parser_product.c3))
def g_tree_parser_product:AFn:={ N:=29,res:=[.slot 4],own:=[],frz:=[],code:=g_tree_parser_product.code }
def g_ref03_Text.code:ACode :=
 .seq (.region [0] (some []) none
 [oo 2 (.mv (.c (.d (.str []))))])
 (.seq (.region [2] (some []) none
 [om 3 0,
 oo 4 (.call 54 [(.t 3)]),
 oo 5 (.bin .add (.t 4) (.c (.d (.str [37])))),
 om 2 5])
 (.ret))
def g_ref03_Text:AFn:={ N:=6,res:=[.slot 2],own:=[],frz:=[],code:=g_ref03_Text.code }
def g_money_Text.c0:ACode :=
 .seq (.region [2,3] (some []) (some ([0,1,2,3,4,5,6,7,8,9,10],.done))
 [om 17 4,
 om 18 0,
 ⟨some 19,.bin .quo (.t 18) (.c (.d (.int .i64 100))),[],[1],none,none⟩,
 ⟨some 20,.call 68 [(.t 19)],[],[2],none,none⟩,
 ⟨some 21,.bin .add (.t 17) (.t 20),[],[0,3],none,none⟩,
 ⟨some 22,.bin .add (.t 21) (.c (.d (.str [46]))),[],[4],none,none⟩,
 om 23 5,
 ⟨some 24,.slcS (.t 23) (some (.c (.d (.int .i64 1)))) none,[],[6],none,none⟩,
 ⟨some 25,.bin .add (.t 22) (.t 24),[],[5,7],none,none⟩,
 ⟨some 2,.mv (.t 25),[],[8,3,0,1,2,3,4,5,6,7,8],none,none⟩,
 ⟨some 3,.mv (.c (.d (.int .i64 0))),[],[9,0,1,2,3,4,5,6,7,8,9],none,none⟩])
 (.ret)
def g_money_Text.c1:ACode :=
 .seq (.region [0,4,5] (some []) none
 [om 13 0,
 oo 14 (.bin .rem (.t 13) (.c (.d (.int .i64 100)))),
 oo 15 (.bin .add (.c (.d (.int .i64 100))) (.t 14)),
 oo 16 (.call 68 [(.t 15)]),
 om 5 16])
 (g_money_Text.c0)
def g_money_Text.c2:ACode :=
 .seq (.region [0,4] (some []) none
 [oo 4 (.mv (.c (.d (.str []))))])
 (.seq (.seq (.region [0,4,10] (some []) none
 [om 9 0,
 oo 10 (.bin .lss (.t 9) (.c (.d (.int .i64 0))))])
 (.cond (.t 10) (.region [0,4] (some []) none
 [om 11 0,
 oo 12 (.un .neg (.t 11)),
 oo 4 (.mv (.c (.d (.str [45])))),
 om 0 12])
 (.skip)))
 (g_money_Text.c1))
def g_money_Text.code:ACode :=
 .seq (.region [0] (some []) none
 [oo 2 (.mv (.c (.d (.str [])))),
 oo 3 (.mv (.c (.d (.int .i64 0))))])
 (.seq (.seq (.region [0,8] (some []) none
 [om 6 0,
 oo 7 (.call 58 [(.t 6)]),
 oo 8 (.un .not (.t 7))])
 (.cond (.t 8) (.seq (.region [2,3] (some []) none
 [oo 2 (.mv (.c (.d (.str [])))),
 oo 3 (.mv (.c (.d (.int .i64 3))))])
 (.ret))
 (.skip)))
 (g_money_Text.c2))
def g_money_Text:AFn:={ N:=26,res:=[.slot 2,.slot 3],own:=[],frz:=[],code:=g_money_Text.code }
def g_rate_Text.c0:ACode :=
 .seq (.region [2,3] (some []) none
 [om 14 4,
 oo 15 (.bin .add (.t 14) (.c (.d (.str [37])))),
 om 2 15,
 oo 3 (.mv (.c (.d (.int .i64 0))))])
 (.ret)
def g_rate_Text.c1:ACode :=
 .seq (.region [4] (some []) none
 [om 10 0,
 oo 11 (.call 50 [(.t 10)]),
 om 9 11,
 oo 12 (.ext (.t 9) 0),
 oo 13 (.ext (.t 9) 1),
 om 4 12,
 om 5 13])
 (g_rate_Text.c0)
def g_rate_Text.code:ACode :=
 .seq (.region [0] (some []) none
 [oo 2 (.mv (.c (.d (.str [])))),
 oo 3 (.mv (.c (.d (.int .i64 0))))])
 (.seq (.seq (.region [0,8] (some []) none
 [om 6 0,
 oo 7 (.call 88 [(.t 6)]),
 oo 8 (.un .not (.t 7))])
 (.cond (.t 8) (.seq (.region [2,3] (some []) none
 [oo 2 (.mv (.c (.d (.str [])))),
 oo 3 (.mv (.c (.d (.int .i64 1))))])
 (.ret))
 (.skip)))
 (g_rate_Text.c1))
def g_rate_Text:AFn:={ N:=16,res:=[.slot 2,.slot 3],own:=[],frz:=[],code:=g_rate_Text.code }
def g_money_Right.code:ACode :=
 .seq (.region [0] (some []) none
 [oo 2 (.mv (.c (.d (.bool false))))])
 (.seq (.region [2] (some []) none
 [om 3 0,
 oo 4 (.bin .geq (.t 3) (.c (.d (.int .i64 (-9223372036854775807))))),
 om 2 4])
 (.ret))
def g_money_Right:AFn:={ N:=5,res:=[.slot 2],own:=[],frz:=[],code:=g_money_Right.code }
def g_strings_CutSuffix.code:ACode :=
 .seq (.region [0,1] (some []) none
 [oo 4 (.mv (.c (.d (.str [])))),
 oo 5 (.mv (.c (.d (.bool false))))])
 (.seq (.region [4,5] (some []) none
 [om 6 0,
 om 7 1,
 oo 8 (.call 122 [(.t 6),(.t 7)]),
 oo 9 (.ext (.t 8) 0),
 oo 10 (.ext (.t 8) 1),
 om 4 9,
 om 5 10])
 (.ret))
def g_strings_CutSuffix:AFn:={ N:=11,res:=[.slot 4,.slot 5],own:=[],frz:=[],code:=g_strings_CutSuffix.code }
def g_rate_Right.o1:List AOper :=
 [oo 8 (.pick (.t 5) (.t 7) (.c (.d (.bool false)))),
 om 2 8]
def g_rate_Right.o0:List AOper :=
 (og 6 (.mv (.t 0)) (2,5,true) ::
 ow 7 (.bin .leq (.t 6) (.c (.d (.int .i64 10000)))) (2,5,true) [5,7] [] ::
 g_rate_Right.o1)
def g_rate_Right.c0:ACode :=
 .ret
def g_rate_Right.code:ACode :=
 .seq (.region [0] (some []) none
 [oo 2 (.mv (.c (.d (.bool false))))])
 (.seq (.region [2] (some []) none
 (om 3 0 ::
 oo 4 (.bin .geq (.t 3) (.c (.d (.int .i64 0)))) ::
 oz 5 (.mv (.t 4)) [0,5] [] ::
 g_rate_Right.o0))
 (g_rate_Right.c0))
def g_rate_Right:AFn:={ N:=9,res:=[.slot 2],own:=[],frz:=[],code:=g_rate_Right.code }
def g_internal_stringslite_HasPrefix.o1:List AOper :=
 [oo 17 (.pick (.t 10) (.t 16) (.c (.d (.bool false)))),
 om 4 17]
def g_internal_stringslite_HasPrefix.o0:List AOper :=
 (og 11 (.mv (.t 0)) (5,10,true) ::
 og 12 (.mv (.t 1)) (5,10,true) ::
 og 13 (.lenS (.t 12)) (5,10,true) ::
 og 14 (.slcS (.t 11) none (some (.t 13))) (5,10,true) ::
 og 15 (.mv (.t 1)) (5,10,true) ::
 ow 16 (.bin .eql (.t 14) (.t 15)) (5,10,true) [10,16] [] ::
 g_internal_stringslite_HasPrefix.o1)
def g_internal_stringslite_HasPrefix.c0:ACode :=
 .ret
def g_internal_stringslite_HasPrefix.code:ACode :=
 .seq (.region [0,1] (some []) none
 [oo 4 (.mv (.c (.d (.bool false))))])
 (.seq (.region [4] (some []) none
 (om 5 0 ::
 oo 6 (.lenS (.t 5)) ::
 om 7 1 ::
 oo 8 (.lenS (.t 7)) ::
 oo 9 (.bin .geq (.t 6) (.t 8)) ::
 oz 10 (.mv (.t 9)) [0,1,10] [] ::
 g_internal_stringslite_HasPrefix.o0))
 (g_internal_stringslite_HasPrefix.c0))
def g_internal_stringslite_HasPrefix:AFn:={ N:=18,res:=[.slot 4],own:=[],frz:=[],code:=g_internal_stringslite_HasPrefix.code }
def g_tree_parser_factor.c0:ACode :=
 .seq (.region [0,1,27] none none
 [om 27 6])
 (.cond (.t 27) (.seq (.region [4] none none
 [om 28 0,
 om 29 0,
 om 30 1,
 oo 31 (.bin .add (.t 30) (.c (.d (.int .i64 1)))),
 oo 32 (.call 225 [(.t 29),(.t 31)]),
 oo 33 (.build [.d (.str []),.d (.str []),.d (.int .i64 0),.d (.int .i64 0),.d (.int .i64 0),.d (.int .i64 0)] [(0,1,(.c (.d (.str [110,101,103])))),(3,1,(.t 32))]),
 oo 34 (.call 222 [(.t 28),(.t 33)]),
 om 4 34])
 (.ret))
 (.skip))
def g_tree_parser_factor.c1:ACode :=
 .seq (.region [0,1,7,41] none none
 [om 41 8])
 (.cond (.t 41) (.seq (.region [4] none none
 [om 42 0,
 om 43 7,
 om 44 1,
 oo 45 (.call 226 [(.t 42),(.t 43),(.t 44)]),
 om 4 45])
 (.ret))
 (.skip))
def g_tree_parser_factor.c2:ACode :=
 .seq (.region [11] none none
 [om 57 0,
 oo 58 (.call 220 [(.t 57),(.c (.d (.str [41])))])])
 (.seq (.region [4] none none
 [om 59 11,
 om 4 59])
 (.ret))
def g_tree_parser_factor.c3:ACode :=
 .seq (.region [0,1,52] none none
 [om 52 10])
 (.cond (.t 52) (.seq (.region [0,11] none none
 [om 53 0,
 om 54 1,
 oo 55 (.bin .add (.t 54) (.c (.d (.int .i64 1)))),
 oo 56 (.call 221 [(.t 53),(.t 55)]),
 om 11 56])
 (g_tree_parser_factor.c2))
 (.skip))
def g_tree_parser_factor.c4:ACode :=
 .seq (.region [4] none none
 [om 60 0,
 oo 61 (.call 227 [(.t 60)]),
 om 4 61])
 (.ret)
def g_tree_parser_factor.c5:ACode :=
 .seq (.seq (.region [0,1,10] none none
 [om 47 0,
 oo 48 (.bsl none 1 [] 1 [(0,(.c (.d (.str [40]))))]),
 oo 49 (.call 219 [(.t 47),(.t 48)]),
 om 46 49,
 oo 50 (.ext (.t 46) 0),
 oo 51 (.ext (.t 46) 1),
 om 9 50,
 om 10 51])
 (g_tree_parser_factor.c3))
 (g_tree_parser_factor.c4)
def g_tree_parser_factor.c6:ACode :=
 .seq (.seq (.region [0,1,7,8] none none
 [om 36 0,
 oo 37 (.bsl none 1 [] 2 [(0,(.c (.d (.str [109,105,110])))),(1,(.c (.d (.str [109,97,120]))))]),
 oo 38 (.call 219 [(.t 36),(.t 37)]),
 om 35 38,
 oo 39 (.ext (.t 35) 0),
 oo 40 (.ext (.t 35) 1),
 om 7 39,
 om 8 40])
 (g_tree_parser_factor.c1))
 (g_tree_parser_factor.c5)
def g_tree_parser_factor.c7:ACode :=
 .seq (.seq (.region [0,1,6] none none
 [om 22 0,
 oo 23 (.bsl none 1 [] 1 [(0,(.c (.d (.str [45]))))]),
 oo 24 (.call 219 [(.t 22),(.t 23)]),
 om 21 24,
 oo 25 (.ext (.t 21) 0),
 oo 26 (.ext (.t 21) 1),
 om 5 25,
 om 6 26])
 (g_tree_parser_factor.c0))
 (g_tree_parser_factor.c6)
def g_tree_parser_factor.c8:ACode :=
 .seq (.seq (.region [0,1,20] none none
 [om 16 0,
 oo 17 (.nilc (.t 16)),
 oo 18 (.faddr 5 (.t 17)),
 oo 19 (.load none (.t 18)),
 oo 20 (.bin .neq (.t 19) (.c (.d (.int .i64 0))))])
 (.cond (.t 20) (.seq (.region [4] none none
 [oo 4 (.mv (.c (.d (.int .i64 0))))])
 (.ret))
 (.skip)))
 (g_tree_parser_factor.c7)
def g_tree_parser_factor.code:ACode :=
 .seq (.region [0,1] none none
 [oo 4 (.mv (.c (.d (.int .i64 0))))])
 (.seq (.seq (.region [0,1,13] none none
 [om 12 1,
 oo 13 (.bin .gtr (.t 12) (.c (.d (.int .i64 20))))])
 (.cond (.t 13) (.region [0,1] none none
 [om 14 0,
 oo 15 (.call 218 [(.t 14),(.c (.d (.int .i64 9)))])])
 (.skip)))
 (g_tree_parser_factor.c8))
def g_tree_parser_factor:AFn:={ N:=62,res:=[.slot 4],own:=[],frz:=[],code:=g_tree_parser_factor.code }
def g_internal_stringslite_CutSuffix.c0:ACode :=
 .seq (.region [4,5] (some []) none
 [om 11 0,
 om 12 0,
 oo 13 (.lenS (.t 12)),
 om 14 1,
 oo 15 (.lenS (.t 14)),
 oo 16 (.bin .sub (.t 13) (.t 15)),
 oo 17 (.slcS (.t 11) none (some (.t 16))),
 om 4 17,
 oo 5 (.mv (.c (.d (.bool true))))])
 (.ret)
def g_internal_stringslite_CutSuffix.code:ACode :=
 .seq (.region [0,1] (some []) none
 [oo 4 (.mv (.c (.d (.str [])))),
 oo 5 (.mv (.c (.d (.bool false))))])
 (.seq (.seq (.region [0,1,9] (some []) none
 [om 6 0,
 om 7 1,
 oo 8 (.call 141 [(.t 6),(.t 7)]),
 oo 9 (.un .not (.t 8))])
 (.cond (.t 9) (.seq (.region [4,5] (some []) none
 [om 10 0,
 om 4 10,
 oo 5 (.mv (.c (.d (.bool false))))])
 (.ret))
 (.skip)))
 (g_internal_stringslite_CutSuffix.c0))
def g_internal_stringslite_CutSuffix:AFn:={ N:=18,res:=[.slot 4,.slot 5],own:=[],frz:=[],code:=g_internal_stringslite_CutSuffix.code }
def g_tree_parser_pair.c0:ACode :=
 .seq (.region [0,1,7,8] none none
 [om 21 0,
 oo 22 (.call 220 [(.t 21),(.c (.d (.str [41])))])])
 (.seq (.region [6] none none
 [om 23 0,
 om 24 1,
 om 25 7,
 om 26 8,
 oo 27 (.build [.d (.str []),.d (.str []),.d (.int .i64 0),.d (.int .i64 0),.d (.int .i64 0),.d (.int .i64 0)] [(0,1,(.t 24)),(3,1,(.t 25)),(4,1,(.t 26))]),
 oo 28 (.call 222 [(.t 23),(.t 27)]),
 om 6 28])
 (.ret))
def g_tree_parser_pair.c1:ACode :=
 .seq (.region [0,1,2,7] none none
 [om 15 0,
 oo 16 (.call 220 [(.t 15),(.c (.d (.str [44])))])])
 (.seq (.region [0,1,7,8] none none
 [om 17 0,
 om 18 2,
 oo 19 (.bin .add (.t 18) (.c (.d (.int .i64 1)))),
 oo 20 (.call 221 [(.t 17),(.t 19)]),
 om 8 20])
 (g_tree_parser_pair.c0))
def g_tree_parser_pair.code:ACode :=
 .seq (.region [0,1,2] none none
 [oo 6 (.mv (.c (.d (.int .i64 0))))])
 (.seq (.region [0,1,2] none none
 [om 9 0,
 oo 10 (.call 220 [(.t 9),(.c (.d (.str [40])))])])
 (.seq (.region [0,1,2,7] none none
 [om 11 0,
 om 12 2,
 oo 13 (.bin .add (.t 12) (.c (.d (.int .i64 1)))),
 oo 14 (.call 221 [(.t 11),(.t 13)]),
 om 7 14])
 (g_tree_parser_pair.c1)))
def g_tree_parser_pair:AFn:={ N:=29,res:=[.slot 6],own:=[],frz:=[],code:=g_tree_parser_pair.code }
def g_tree_parser_leaf.c0:ACode :=
 .region [0,3,4] none none
 [om 24 5,
 oo 25 (.build [.d (.str []),.d (.str []),.d (.int .i64 0),.d (.int .i64 0),.d (.int .i64 0),.d (.int .i64 0)] [(0,1,(.c (.d (.str [119,104,111,108,101])))),(2,1,(.t 24))]),
 ⟨none,.store 6 (.t 4) (.t 25),[],[],none,none⟩]
def g_tree_parser_leaf.c1:ACode :=
 .region [0,3,4] none none
 [om 34 7,
 oo 35 (.build [.d (.str []),.d (.str []),.d (.int .i64 0),.d (.int .i64 0),.d (.int .i64 0),.d (.int .i64 0)] [(0,1,(.c (.d (.str [97,109,111,117,110,116])))),(2,1,(.t 34))]),
 ⟨none,.store 6 (.t 4) (.t 35),[],[],none,none⟩]
def g_tree_parser_leaf.c2:ACode :=
 .region [0,3,4] none none
 [om 44 9,
 oo 45 (.build [.d (.str []),.d (.str []),.d (.int .i64 0),.d (.int .i64 0),.d (.int .i64 0),.d (.int .i64 0)] [(0,1,(.c (.d (.str [114,97,116,101])))),(2,1,(.t 44))]),
 ⟨none,.store 6 (.t 4) (.t 45),[],[],none,none⟩]
def g_tree_parser_leaf.o3:List AOper :=
 [oo 64 (.pick (.t 54) (.c (.d (.bool true))) (.t 63))]
def g_tree_parser_leaf.o2:List AOper :=
 (⟨some 63,.pick (.t 58) (.t 62) (.c (.d (.bool false))),[],[],(some (3,54,false)),(some ([0,4,54,63],none))⟩ ::
 g_tree_parser_leaf.o3)
def g_tree_parser_leaf.o1:List AOper :=
 (og 59 (.faddr 1 (.t 3)) (7,58,true) ::
 og 60 (.load none (.t 59)) (7,58,true) ::
 og 61 (.call 158 [(.t 60)]) (7,58,true) ::
 ⟨some 62,.un .not (.t 61),[],[],(some (7,58,true)),(some ([0,4,54,58,62],none))⟩ ::
 g_tree_parser_leaf.o2)
def g_tree_parser_leaf.o0:List AOper :=
 (og 55 (.faddr 0 (.t 4)) (3,54,false) ::
 og 56 (.load none (.t 55)) (3,54,false) ::
 og 57 (.bin .eql (.t 56) (.c (.d (.str [110,97,109,101])))) (3,54,false) ::
 ⟨some 58,.mv (.t 57),[],[],(some (3,54,false)),(some ([0,3,4,54,58],none))⟩ ::
 g_tree_parser_leaf.o1)
def g_tree_parser_leaf.c3:ACode :=
 .cond (.t 64) (.seq (.region [] none none
 [om 65 0,
 oo 66 (.call 218 [(.t 65),(.c (.d (.int .i64 2)))])])
 (.seq (.region [2] none none
 [oo 2 (.mv (.c (.d (.int .i64 0))))])
 (.ret)))
 (.skip)
def g_tree_parser_leaf.c4:ACode :=
 .seq (.region [2] none none
 [om 74 0,
 oo 75 (.load (some 6) (.t 4)),
 oo 76 (.call 222 [(.t 74),(.t 75)]),
 om 2 76])
 (.ret)
def g_tree_parser_leaf.c5:ACode :=
 .seq (.region [0,4] none none
 [om 67 0,
 oo 68 (.nilc (.t 67)),
 oo 69 (.faddr 2 (.t 68)),
 oo 70 (.load none (.t 69)),
 oo 71 (.bin .add (.t 70) (.c (.d (.int .i64 1)))),
 oo 72 (.nilc (.t 67)),
 oo 73 (.faddr 2 (.t 72)),
 ⟨none,.store 1 (.t 73) (.t 71),[],[],none,none⟩])
 (g_tree_parser_leaf.c4)
def g_tree_parser_leaf.c6:ACode :=
 .seq (.seq (.region [0,4,64] none none
 (oo 51 (.faddr 0 (.t 4)) ::
 oo 52 (.load none (.t 51)) ::
 oo 53 (.bin .eql (.t 52) (.c (.d (.str [])))) ::
 ⟨some 54,.mv (.t 53),[],[],none,(some ([0,3,4,54],none))⟩ ::
 g_tree_parser_leaf.o0))
 (g_tree_parser_leaf.c3))
 (g_tree_parser_leaf.c5)
def g_tree_parser_leaf.c7:ACode :=
 .seq (.region [0,3,4] none none
 [oo 13 (.build [.d (.str []),.d (.str []),.d (.int .i64 0),.d (.int .i64 0),.d (.int .i64 0),.d (.int .i64 0)] []),
 oo 4 (.alloc 4 [.d (.str []),.d (.str []),.d (.int .i64 0),.d (.int .i64 0),.d (.int .i64 0),.d (.int .i64 0)]),
 ⟨none,.store 6 (.t 4) (.t 13),[],[],none,none⟩])
 (.seq (.seq (.region [0,3,4,15] none none
 [oo 14 (.faddr 0 (.t 3)),
 oo 15 (.load none (.t 14))])
 (.block 0 [0,3,4] none (.seq (.region [0,3,4,15,16] none none
 [oo 17 (.bin .eql (.t 15) (.c (.d (.int .i64 2)))),
 om 16 17])
 (.cond (.t 16) (.seq (.region [0,3,4,5] none none
 [oo 19 (.faddr 1 (.t 3)),
 oo 20 (.load none (.t 19)),
 oo 21 (.call 70 [(.t 20)]),
 om 18 21,
 oo 22 (.ext (.t 18) 0),
 oo 23 (.ext (.t 18) 1),
 om 5 22,
 om 6 23])
 (g_tree_parser_leaf.c0))
 (.seq (.region [0,3,4,15,26] none none
 [oo 27 (.bin .eql (.t 15) (.c (.d (.int .i64 3)))),
 om 26 27])
 (.cond (.t 26) (.seq (.region [0,3,4,7] none none
 [oo 29 (.faddr 1 (.t 3)),
 oo 30 (.load none (.t 29)),
 oo 31 (.call 51 [(.t 30)]),
 om 28 31,
 oo 32 (.ext (.t 28) 0),
 oo 33 (.ext (.t 28) 1),
 om 7 32,
 om 8 33])
 (g_tree_parser_leaf.c1))
 (.seq (.region [0,3,4,15,36] none none
 [oo 37 (.bin .eql (.t 15) (.c (.d (.int .i64 4)))),
 om 36 37])
 (.cond (.t 36) (.seq (.region [0,3,4,9] none none
 [oo 39 (.faddr 1 (.t 3)),
 oo 40 (.load none (.t 39)),
 oo 41 (.call 92 [(.t 40)]),
 om 38 41,
 oo 42 (.ext (.t 38) 0),
 oo 43 (.ext (.t 38) 1),
 om 9 42,
 om 10 43])
 (g_tree_parser_leaf.c2))
 (.seq (.region [0,3,4,46] none none
 [oo 47 (.bin .eql (.t 15) (.c (.d (.int .i64 1)))),
 om 46 47])
 (.cond (.t 46) (.region [0,3,4] none none
 [oo 48 (.faddr 1 (.t 3)),
 oo 49 (.load none (.t 48)),
 oo 50 (.build [.d (.str []),.d (.str []),.d (.int .i64 0),.d (.int .i64 0),.d (.int .i64 0),.d (.int .i64 0)] [(0,1,(.c (.d (.str [110,97,109,101])))),(1,1,(.t 49))]),
 ⟨none,.store 6 (.t 4) (.t 50),[],[],none,none⟩])
 (.skip)))))))))))
 (g_tree_parser_leaf.c6))
def g_tree_parser_leaf.code:ACode :=
 .seq (.region [0] none none
 [oo 2 (.mv (.c (.d (.int .i64 0))))])
 (.seq (.region [0,3] none none
 [om 11 0,
 oo 12 (.call 217 [(.t 11)]),
 oo 3 (.alloc 3 [.d (.int .i64 0),.d (.str []),.d (.int .i64 0)]),
 ⟨none,.store 3 (.t 3) (.t 12),[],[],none,none⟩])
 (g_tree_parser_leaf.c7))
def g_tree_parser_leaf:AFn:={ N:=77,res:=[.slot 2],own:=[],frz:=[],code:=g_tree_parser_leaf.code }
def g_internal_stringslite_HasSuffix.o1:List AOper :=
 [oo 20 (.pick (.t 10) (.t 19) (.c (.d (.bool false)))),
 om 4 20]
def g_internal_stringslite_HasSuffix.o0:List AOper :=
 (og 11 (.mv (.t 0)) (5,10,true) ::
 og 12 (.mv (.t 0)) (5,10,true) ::
 og 13 (.lenS (.t 12)) (5,10,true) ::
 og 14 (.mv (.t 1)) (5,10,true) ::
 og 15 (.lenS (.t 14)) (5,10,true) ::
 og 16 (.bin .sub (.t 13) (.t 15)) (5,10,true) ::
 og 17 (.slcS (.t 11) (some (.t 16)) none) (5,10,true) ::
 og 18 (.mv (.t 1)) (5,10,true) ::
 ow 19 (.bin .eql (.t 17) (.t 18)) (5,10,true) [10,19] [] ::
 g_internal_stringslite_HasSuffix.o1)
def g_internal_stringslite_HasSuffix.c0:ACode :=
 .ret
def g_internal_stringslite_HasSuffix.code:ACode :=
 .seq (.region [0,1] (some []) none
 [oo 4 (.mv (.c (.d (.bool false))))])
 (.seq (.region [4] (some []) none
 (om 5 0 ::
 oo 6 (.lenS (.t 5)) ::
 om 7 1 ::
 oo 8 (.lenS (.t 7)) ::
 oo 9 (.bin .geq (.t 6) (.t 8)) ::
 oz 10 (.mv (.t 9)) [0,1,10] [] ::
 g_internal_stringslite_HasSuffix.o0))
 (g_internal_stringslite_HasSuffix.c0))
def g_internal_stringslite_HasSuffix:AFn:={ N:=21,res:=[.slot 4],own:=[],frz:=[],code:=g_internal_stringslite_HasSuffix.code }
end Pay
