/- What the code of the functions comes to, without slots: an equation for each part; no condition. -/
import Derived.Test.YtcgeldjhobmijaaDoorPayBb0
import Derived.Test.YtcgeldjhobmijaaDoorPayCode2_0
set_option maxRecDepth 20000
set_option maxHeartbeats 400000
set_option linter.unusedVariables false
namespace Pay
open Go
variable {R_c0 R_c1 R_c2 R_c3 R_c4 R_c5 R_c6 R_c7 R_c8 R_c9 R_l0 : ACode} {R_i3 R_i4 R_i5 R_i6 R_i7 R_i8 R_i9 R_i10 R_i11 R_i12 R_i13 R_i14 R_i15 : List Nat} {R_o0 R_o1 : List AOper} {C : Ctx} {I : Nat → Prop} {s : Nat → V} {o : Nat → Option Ob} {K : St → Prop} {Q : Ex → St → Prop}
theorem g_law08_TreeBlanks_o1_sh : opsB C I [⟨some 32, .pick (.t 30) (.t 31) (.c (.d (.bool false))), [], [], none, none⟩,
     ⟨some 2, .mv (.t 32), [], [], none, none⟩] (St.mk s o) K =
 (demand (pickV (s 30) (s 31) (V.d (.bool false))) (fun x1 =>
K (St.mk (upd (upd s 32 x1) 2 x1) o))) := rfl
@[instance] theorem g_law08_TreeBlanks_o1_u : UnfAt (opsB C I g_law08_TreeBlanks.o1 (St.mk s o) K) g_law08_TreeBlanks_o1_sh := Unf.of _
theorem g_law08_TreeBlanks_o0_sh : opsB C I (⟨some 31, .call 143 [], [], [], (some (3, 30, true)), (some ([30, 31], (some [])))⟩ ::
     R_o1) (St.mk s o) K =
 (guardK (s 30) true
 (callK C I (St.mk (upd s 30 (V.d (D.bool true))) o) (some 31) 143 [] (fun r1 or1 =>
opsB C I R_o1 (St.mk (look [(30, (V.d (D.bool true))), (31, r1)]) (looko ([].map fun n => (n, or1 n)))) K))
 (opsB C I R_o1 (St.mk (look [(30, (V.d (D.bool false))), (31, (V.tup []))]) (looko ([].map fun n => (n, o n)))) K)
 (opsB C I R_o1 (St.mk (look [(30, (V.tup [])), (31, (V.tup []))]) (looko ([].map fun n => (n, o n)))) K)) := rfl
@[instance] theorem g_law08_TreeBlanks_o0_u : UnfAt (opsB C I g_law08_TreeBlanks.o0 (St.mk s o) K) g_law08_TreeBlanks_o0_sh := Unf.of _
theorem g_law08_TreeBlanks_c0_sh : wpB C I (.ret) (St.mk s o) Q =
 (Q .ret (St.mk s o)) := rfl
@[instance] theorem g_law08_TreeBlanks_c0_u : UnfAt (wpB C I g_law08_TreeBlanks.c0 (St.mk s o) Q) g_law08_TreeBlanks_c0_sh := Unf.of _
theorem g_law08_TreeBlanks_c1_sh : wpB C I (.region [0, 6, 33, 34, 35] (some []) none
   [⟨some 39, .mv (.t 6), [], [], none, none⟩,
    ⟨some 40, .faddr 1 (.t 8), [], [], none, none⟩,
    ⟨some 41, .load none (.t 40), [], [], none, none⟩,
    ⟨some 42, .bin .add (.c (.d (.str [32]))) (.t 41), [], [], none, none⟩,
    ⟨some 43, .bin .add (.t 42) (.c (.d (.str [10]))), [], [], none, none⟩,
    ⟨some 44, .bin .add (.t 39) (.t 43), [], [], none, none⟩,
    ⟨some 6, .mv (.t 44), [], [], none, none⟩]) (St.mk s o) Q =
 (demand (faddrV 1 (s 8)) (fun x1 =>
demand (loadV o none x1) (fun x2 =>
demand (binV BinOp.add (V.d (.str [32])) x2) (fun x3 =>
demand (binV BinOp.add x3 (V.d (.str [10]))) (fun x4 =>
demand (binV BinOp.add (s 6) x4) (fun x5 =>
Q .normal (St.mk (look [(0, (s 0)), (6, x5), (33, (s 33)), (34, (s 34)), (35, (s 35))]) (looko ([].map fun n => (n, o n)))))))))) := rfl
@[instance] theorem g_law08_TreeBlanks_c1_u : UnfAt (wpB C I g_law08_TreeBlanks.c1 (St.mk s o) Q) g_law08_TreeBlanks_c1_sh := Unf.of _
theorem g_law08_TreeBlanks_c2_sh : wpB C I (.region [0, 6, 33, 34, 35] (some []) none
   [⟨some 45, .bin .add (.t 35) (.c (.d (.int .i64 1))), [], [], none, none⟩,
    ⟨some 35, .mv (.t 45), [], [], none, none⟩]) (St.mk s o) Q =
 (demand (binV BinOp.add (s 35) (V.d (.int .i64 1))) (fun x1 =>
Q .normal (St.mk (look [(0, (s 0)), (6, (s 6)), (33, (s 33)), (34, (s 34)), (35, x1)]) (looko ([].map fun n => (n, o n)))))) := rfl
@[instance] theorem g_law08_TreeBlanks_c2_u : UnfAt (wpB C I g_law08_TreeBlanks.c2 (St.mk s o) Q) g_law08_TreeBlanks_c2_sh := Unf.of _
theorem g_law08_TreeBlanks_l0_sh (hL : R_l0 = .loop [0, 6, 33, 34, 35] (some []) (.seq (.region [0, 6, 33, 34, 35, 36] (some []) none
     [⟨some 36, .bin .lss (.t 35) (.t 34), [], [], none, none⟩])
  (.seq (.cond (.t 36) (.skip)
    (.exit 0))
   (.seq (.block 1 [0, 6, 33, 34, 35] (some []) (.seq (.region [0, 6, 8, 33, 34, 35] (some [8]) none
         [⟨some 37, .iaddr 3 (.t 33) (.t 35), [], [], none, none⟩,
          ⟨some 38, .load (some 3) (.t 37), [], [], none, none⟩,
          ⟨some 8, .alloc 8 [.d (.int .i64 0), .d (.str []), .d (.int .i64 0)], [], [], none, none⟩,
          ⟨none, .store 3 (.t 8) (.t 38), [], [], none, none⟩])
      (R_c1)))
    (R_c2)))))
 (h : demand (binV BinOp.lss (s 35) (s 34)) (fun x1 =>
condK x1
 (demand (iaddrV (looko ([].map fun n => (n, o n))) 3 (s 33) (s 35)) (fun x2 =>
demand (loadV (looko ([].map fun n => (n, o n))) (some 3) x2) (fun x3 =>
(¬ I 8 ∧ Fresh (St.mk (upd (upd (look [(0, (s 0)), (6, (s 6)), (33, (s 33)), (34, (s 34)), (35, (s 35)), (36, x1)]) 37 x2) 38 x3) (looko ([].map fun n => (n, o n)))) 8 (some 8) ∧ V.refsL 8 [V.d (.int .i64 0), V.d (.str []), V.d (.int .i64 0)] = false ∧
storeK (V.ptr 8 0) (cellsV x3) 3 (upd (looko ([].map fun n => (n, o n))) 8 (some (Ob.box [V.d (.int .i64 0), V.d (.str []), V.d (.int .i64 0)]))) (fun m4 ob5 =>
wpB C I R_c1 (St.mk (look [(0, (s 0)), (6, (s 6)), (8, (V.ptr 8 0)), (33, (s 33)), (34, (s 34)), (35, (s 35))]) (looko ([8].map fun n => (n, (upd (upd (looko ([].map fun n => (n, o n))) 8 (some (Ob.box [V.d (.int .i64 0), V.d (.str []), V.d (.int .i64 0)]))) m4 (some ob5)) n)))) (blockK 1 [0, 6, 33, 34, 35] (some []) (seqK (fun st => wpB C I R_c2 st (seqK (fun s => wpB C I R_l0 s Q) Q)) (seqK (fun s => wpB C I R_l0 s Q) Q))))))))
 (Q (.exit 0) (St.mk (look [(0, (s 0)), (6, (s 6)), (33, (s 33)), (34, (s 34)), (35, (s 35)), (36, x1)]) (looko ([].map fun n => (n, o n))))))) : wpB C I R_l0 (St.mk s o) Q := w_loopC hL h
theorem g_law08_TreeBlanks_i15_sh : drawB C I g_law08_TreeBlanks.a2 (13 :: []) .done (St.mk s o) K =
 ((s 2) = V.undef ∧ (quietV o ((s 70) :: [(s 70)]) ∧
treeB C I g_law08_TreeBlanks.a2 .done (St.mk (upd s 2 (s 70)) o) K)) := rfl
@[instance] theorem g_law08_TreeBlanks_i15_u : UnfAt (drawB C I g_law08_TreeBlanks.a2 g_law08_TreeBlanks.i15 .done (St.mk s o) K) g_law08_TreeBlanks_i15_sh := Unf.of _
theorem g_law08_TreeBlanks_i14_sh : drawB C I g_law08_TreeBlanks.a2 (12 :: R_i15) .done (St.mk s o) K =
 ((s 70) = V.undef ∧ (demand (pickV (s 68) (s 69) (V.d (.bool false))) (fun x1 => quietV o (x1 :: [(s 68), (s 69), (V.d (.bool false))]) ∧
drawB C I g_law08_TreeBlanks.a2 R_i15 .done (St.mk (upd s 70 x1) o) K))) := rfl
@[instance] theorem g_law08_TreeBlanks_i14_u : UnfAt (drawB C I g_law08_TreeBlanks.a2 g_law08_TreeBlanks.i14 .done (St.mk s o) K) g_law08_TreeBlanks_i14_sh := Unf.of _
theorem g_law08_TreeBlanks_i13_sh : drawB C I g_law08_TreeBlanks.a2 (11 :: R_i14) .done (St.mk s o) K =
 ((s 69) = V.undef ∧ guardK (s 68) true
 (∃ x1, SoundAt C 143 ⟨[], fun _ => none⟩ ⟨x1, fun _ => none⟩ ∧ (∀ n, V.refs n x1 = false) ∧ quietV o (x1 :: []) ∧
drawB C I g_law08_TreeBlanks.a2 R_i14 .done (St.mk (upd s 69 x1) o) K)
 (quietV o ((V.tup []) :: []) ∧
drawB C I g_law08_TreeBlanks.a2 R_i14 .done (St.mk (upd s 69 (V.tup [])) o) K)
 (quietV o ((V.tup []) :: []) ∧
drawB C I g_law08_TreeBlanks.a2 R_i14 .done (St.mk (upd s 69 (V.tup [])) o) K)) := rfl
@[instance] theorem g_law08_TreeBlanks_i13_u : UnfAt (drawB C I g_law08_TreeBlanks.a2 g_law08_TreeBlanks.i13 .done (St.mk s o) K) g_law08_TreeBlanks_i13_sh := Unf.of _
theorem g_law08_TreeBlanks_i12_sh : drawB C I g_law08_TreeBlanks.a2 (10 :: R_i13) .done (St.mk s o) K =
 ((s 68) = V.undef ∧ (quietV o ((s 67) :: [(s 67)]) ∧
drawB C I g_law08_TreeBlanks.a2 R_i13 .done (St.mk (upd s 68 (s 67)) o) K)) := rfl
@[instance] theorem g_law08_TreeBlanks_i12_u : UnfAt (drawB C I g_law08_TreeBlanks.a2 g_law08_TreeBlanks.i12 .done (St.mk s o) K) g_law08_TreeBlanks_i12_sh := Unf.of _
theorem g_law08_TreeBlanks_i11_sh : drawB C I g_law08_TreeBlanks.a2 (9 :: R_i12) .done (St.mk s o) K =
 ((s 67) = V.undef ∧ (demand (pickV (s 61) (s 66) (V.d (.bool false))) (fun x1 => quietV o (x1 :: [(s 61), (s 66), (V.d (.bool false))]) ∧
drawB C I g_law08_TreeBlanks.a2 R_i12 .done (St.mk (upd s 67 x1) o) K))) := rfl
@[instance] theorem g_law08_TreeBlanks_i11_u : UnfAt (drawB C I g_law08_TreeBlanks.a2 g_law08_TreeBlanks.i11 .done (St.mk s o) K) g_law08_TreeBlanks_i11_sh := Unf.of _
theorem g_law08_TreeBlanks_i10_sh : drawB C I g_law08_TreeBlanks.a2 (8 :: R_i11) .done (St.mk s o) K =
 ((s 66) = V.undef ∧ guardK (s 61) true
 (∃ x1, SoundAt C 147 ⟨[(s 63), (s 65)], fun _ => none⟩ ⟨x1, fun _ => none⟩ ∧ (∀ n, V.refs n x1 = false) ∧ quietV o (x1 :: [(s 63), (s 65)]) ∧
drawB C I g_law08_TreeBlanks.a2 R_i11 .done (St.mk (upd s 66 x1) o) K)
 (quietV o ((V.tup []) :: [(s 63), (s 65)]) ∧
drawB C I g_law08_TreeBlanks.a2 R_i11 .done (St.mk (upd s 66 (V.tup [])) o) K)
 (quietV o ((V.tup []) :: [(s 63), (s 65)]) ∧
drawB C I g_law08_TreeBlanks.a2 R_i11 .done (St.mk (upd s 66 (V.tup [])) o) K)) := rfl
@[instance] theorem g_law08_TreeBlanks_i10_u : UnfAt (drawB C I g_law08_TreeBlanks.a2 g_law08_TreeBlanks.i10 .done (St.mk s o) K) g_law08_TreeBlanks_i10_sh := Unf.of _
theorem g_law08_TreeBlanks_i9_sh : drawB C I g_law08_TreeBlanks.a2 (7 :: R_i10) .done (St.mk s o) K =
 ((s 65) = V.undef ∧ guardK (s 61) true
 (∃ x1, SoundAt C 146 ⟨[(s 64)], fun _ => none⟩ ⟨x1, fun _ => none⟩ ∧ (∀ n, V.refs n x1 = false) ∧ quietV o (x1 :: [(s 64)]) ∧
drawB C I g_law08_TreeBlanks.a2 R_i10 .done (St.mk (upd s 65 x1) o) K)
 (quietV o ((V.tup []) :: [(s 64)]) ∧
drawB C I g_law08_TreeBlanks.a2 R_i10 .done (St.mk (upd s 65 (V.tup [])) o) K)
 (quietV o ((V.tup []) :: [(s 64)]) ∧
drawB C I g_law08_TreeBlanks.a2 R_i10 .done (St.mk (upd s 65 (V.tup [])) o) K)) := rfl
@[instance] theorem g_law08_TreeBlanks_i9_u : UnfAt (drawB C I g_law08_TreeBlanks.a2 g_law08_TreeBlanks.i9 .done (St.mk s o) K) g_law08_TreeBlanks_i9_sh := Unf.of _
theorem g_law08_TreeBlanks_i8_sh : drawB C I g_law08_TreeBlanks.a2 (6 :: R_i9) .done (St.mk s o) K =
 ((s 64) = V.undef ∧ guardK (s 61) true
 (demand (loadV o (some 2) (s 12)) (fun x1 => quietV o (x1 :: [(s 12)]) ∧
drawB C I g_law08_TreeBlanks.a2 R_i9 .done (St.mk (upd s 64 x1) o) K))
 (quietV o ((V.tup []) :: [(s 12)]) ∧
drawB C I g_law08_TreeBlanks.a2 R_i9 .done (St.mk (upd s 64 (V.tup [])) o) K)
 (quietV o ((V.tup []) :: [(s 12)]) ∧
drawB C I g_law08_TreeBlanks.a2 R_i9 .done (St.mk (upd s 64 (V.tup [])) o) K)) := rfl
@[instance] theorem g_law08_TreeBlanks_i8_u : UnfAt (drawB C I g_law08_TreeBlanks.a2 g_law08_TreeBlanks.i8 .done (St.mk s o) K) g_law08_TreeBlanks_i8_sh := Unf.of _
theorem g_law08_TreeBlanks_i7_sh : drawB C I g_law08_TreeBlanks.a2 (5 :: R_i8) .done (St.mk s o) K =
 ((s 63) = V.undef ∧ guardK (s 61) true
 (∃ x1, SoundAt C 146 ⟨[(s 62)], fun _ => none⟩ ⟨x1, fun _ => none⟩ ∧ (∀ n, V.refs n x1 = false) ∧ quietV o (x1 :: [(s 62)]) ∧
drawB C I g_law08_TreeBlanks.a2 R_i8 .done (St.mk (upd s 63 x1) o) K)
 (quietV o ((V.tup []) :: [(s 62)]) ∧
drawB C I g_law08_TreeBlanks.a2 R_i8 .done (St.mk (upd s 63 (V.tup [])) o) K)
 (quietV o ((V.tup []) :: [(s 62)]) ∧
drawB C I g_law08_TreeBlanks.a2 R_i8 .done (St.mk (upd s 63 (V.tup [])) o) K)) := rfl
@[instance] theorem g_law08_TreeBlanks_i7_u : UnfAt (drawB C I g_law08_TreeBlanks.a2 g_law08_TreeBlanks.i7 .done (St.mk s o) K) g_law08_TreeBlanks_i7_sh := Unf.of _
theorem g_law08_TreeBlanks_i6_sh : drawB C I g_law08_TreeBlanks.a2 (4 :: R_i7) .done (St.mk s o) K =
 ((s 62) = V.undef ∧ guardK (s 61) true
 (demand (loadV o (some 2) (s 9)) (fun x1 => quietV o (x1 :: [(s 9)]) ∧
drawB C I g_law08_TreeBlanks.a2 R_i7 .done (St.mk (upd s 62 x1) o) K))
 (quietV o ((V.tup []) :: [(s 9)]) ∧
drawB C I g_law08_TreeBlanks.a2 R_i7 .done (St.mk (upd s 62 (V.tup [])) o) K)
 (quietV o ((V.tup []) :: [(s 9)]) ∧
drawB C I g_law08_TreeBlanks.a2 R_i7 .done (St.mk (upd s 62 (V.tup [])) o) K)) := rfl
@[instance] theorem g_law08_TreeBlanks_i6_u : UnfAt (drawB C I g_law08_TreeBlanks.a2 g_law08_TreeBlanks.i6 .done (St.mk s o) K) g_law08_TreeBlanks_i6_sh := Unf.of _
theorem g_law08_TreeBlanks_i5_sh : drawB C I g_law08_TreeBlanks.a2 (3 :: R_i6) .done (St.mk s o) K =
 ((s 61) = V.undef ∧ (quietV o ((s 60) :: [(s 60)]) ∧
drawB C I g_law08_TreeBlanks.a2 R_i6 .done (St.mk (upd s 61 (s 60)) o) K)) := rfl
@[instance] theorem g_law08_TreeBlanks_i5_u : UnfAt (drawB C I g_law08_TreeBlanks.a2 g_law08_TreeBlanks.i5 .done (St.mk s o) K) g_law08_TreeBlanks_i5_sh := Unf.of _
theorem g_law08_TreeBlanks_i4_sh : drawB C I g_law08_TreeBlanks.a2 (2 :: R_i5) .done (St.mk s o) K =
 ((s 60) = V.undef ∧ (demand (binV BinOp.eql (s 58) (s 59)) (fun x1 => quietV o (x1 :: [(s 58), (s 59)]) ∧
drawB C I g_law08_TreeBlanks.a2 R_i5 .done (St.mk (upd s 60 x1) o) K))) := rfl
@[instance] theorem g_law08_TreeBlanks_i4_u : UnfAt (drawB C I g_law08_TreeBlanks.a2 g_law08_TreeBlanks.i4 .done (St.mk s o) K) g_law08_TreeBlanks_i4_sh := Unf.of _
theorem g_law08_TreeBlanks_i3_sh : drawB C I g_law08_TreeBlanks.a2 (1 :: R_i4) .done (St.mk s o) K =
 ((s 59) = V.undef ∧ (quietV o ((s 14) :: [(s 14)]) ∧
drawB C I g_law08_TreeBlanks.a2 R_i4 .done (St.mk (upd s 59 (s 14)) o) K)) := rfl
@[instance] theorem g_law08_TreeBlanks_i3_u : UnfAt (drawB C I g_law08_TreeBlanks.a2 g_law08_TreeBlanks.i3 .done (St.mk s o) K) g_law08_TreeBlanks_i3_sh := Unf.of _
theorem g_law08_TreeBlanks_c3_sh : wpB C I (.ret) (St.mk s o) Q =
 (Q .ret (St.mk s o)) := rfl
@[instance] theorem g_law08_TreeBlanks_c3_u : UnfAt (wpB C I g_law08_TreeBlanks.c3 (St.mk s o) Q) g_law08_TreeBlanks_c3_sh := Unf.of _
theorem g_law08_TreeBlanks_c4_sh : wpB C I (.seq (.region [2] (some []) (some (0 :: R_i3, .done)) g_law08_TreeBlanks.a2)
 (R_c3)) (St.mk s o) Q =
 ((s 58) = V.undef ∧ (quietV o ((s 11) :: [(s 11)]) ∧
drawB C I g_law08_TreeBlanks.a2 R_i3 .done (St.mk (upd s 58 (s 11)) o) (fun st => (seqK (fun st => wpB C I R_c3 st Q) Q) .normal (St.trim st [2] (some []))))) := rfl
@[instance] theorem g_law08_TreeBlanks_c4_u : UnfAt (wpB C I g_law08_TreeBlanks.c4 (St.mk s o) Q) g_law08_TreeBlanks_c4_sh := Unf.of _
theorem g_law08_TreeBlanks_c5_sh : wpB C I (.seq (.region [9, 11, 12, 14] (some [9, 12]) none
    [⟨some 53, .mv (.t 6), [], [], none, none⟩,
     ⟨some 54, .call 144 [(.t 53)], [], [], none, none⟩,
     ⟨some 52, .mv (.t 54), [], [], none, none⟩,
     ⟨some 55, .ext (.t 52) 0, [], [], none, none⟩,
     ⟨some 56, .ext (.t 52) 1, [], [], none, none⟩,
     ⟨some 57, .ext (.t 52) 2, [], [], none, none⟩,
     ⟨some 12, .alloc 12 [.cap0, .cap0], [], [], none, none⟩,
     ⟨none, .store 2 (.t 12) (.t 55), [], [], none, none⟩,
     ⟨some 13, .mv (.t 56), [], [], none, none⟩,
     ⟨some 14, .mv (.t 57), [], [], none, none⟩])
 (R_c4)) (St.mk s o) Q =
 (callK C I (St.mk (upd s 53 (s 6)) o) (some 54) 144 [(s 6)] (fun r1 or1 =>
demand (extV r1 0) (fun x2 =>
demand (extV r1 1) (fun x3 =>
demand (extV r1 2) (fun x4 =>
(¬ I 12 ∧ Fresh (St.mk (upd (upd (upd (upd (upd (upd s 53 (s 6)) 54 r1) 52 r1) 55 x2) 56 x3) 57 x4) or1) 12 (some 12) ∧ V.refsL 12 [V.cap0, V.cap0] = false ∧
storeK (V.ptr 12 0) (cellsV x2) 2 (upd or1 12 (some (Ob.box [V.cap0, V.cap0]))) (fun m5 ob6 =>
wpB C I R_c4 (St.mk (look [(9, (s 9)), (11, (s 11)), (12, (V.ptr 12 0)), (14, x4)]) (looko ([9, 12].map fun n => (n, (upd (upd or1 12 (some (Ob.box [V.cap0, V.cap0]))) m5 (some ob6)) n)))) Q))))))) := rfl
@[instance] theorem g_law08_TreeBlanks_c5_u : UnfAt (wpB C I g_law08_TreeBlanks.c5 (St.mk s o) Q) g_law08_TreeBlanks_c5_sh := Unf.of _
theorem g_law08_TreeBlanks_c6_sh : wpB C I (.seq (.region [6, 9, 11] (some [9]) none
    [⟨some 47, .mv (.t 0), [], [], none, none⟩,
     ⟨some 48, .call 144 [(.t 47)], [], [], none, none⟩,
     ⟨some 46, .mv (.t 48), [], [], none, none⟩,
     ⟨some 49, .ext (.t 46) 0, [], [], none, none⟩,
     ⟨some 50, .ext (.t 46) 1, [], [], none, none⟩,
     ⟨some 51, .ext (.t 46) 2, [], [], none, none⟩,
     ⟨some 9, .alloc 9 [.cap0, .cap0], [], [], none, none⟩,
     ⟨none, .store 2 (.t 9) (.t 49), [], [], none, none⟩,
     ⟨some 10, .mv (.t 50), [], [], none, none⟩,
     ⟨some 11, .mv (.t 51), [], [], none, none⟩])
 (R_c5)) (St.mk s o) Q =
 (callK C I (St.mk (upd s 47 (s 0)) o) (some 48) 144 [(s 0)] (fun r1 or1 =>
demand (extV r1 0) (fun x2 =>
demand (extV r1 1) (fun x3 =>
demand (extV r1 2) (fun x4 =>
(¬ I 9 ∧ Fresh (St.mk (upd (upd (upd (upd (upd (upd s 47 (s 0)) 48 r1) 46 r1) 49 x2) 50 x3) 51 x4) or1) 9 (some 9) ∧ V.refsL 9 [V.cap0, V.cap0] = false ∧
storeK (V.ptr 9 0) (cellsV x2) 2 (upd or1 9 (some (Ob.box [V.cap0, V.cap0]))) (fun m5 ob6 =>
wpB C I R_c5 (St.mk (look [(6, (s 6)), (9, (V.ptr 9 0)), (11, x4)]) (looko ([9].map fun n => (n, (upd (upd or1 9 (some (Ob.box [V.cap0, V.cap0]))) m5 (some ob6)) n)))) Q))))))) := rfl
@[instance] theorem g_law08_TreeBlanks_c6_u : UnfAt (wpB C I g_law08_TreeBlanks.c6 (St.mk s o) Q) g_law08_TreeBlanks_c6_sh := Unf.of _
theorem g_law08_TreeBlanks_c7_sh : wpB C I (.seq (.region [0, 3, 6] (some []) none
    [⟨some 6, .mv (.c (.d (.str []))), [], [], none, none⟩])
 (.seq (.seq (.region [0, 6, 33, 34, 35] (some []) none
      [⟨some 33, .mv (.t 3), [], [], none, none⟩,
       ⟨some 34, .len (.t 33), [], [], none, none⟩,
       ⟨some 35, .mv (.c (.d (.int .i64 0))), [], [], none, none⟩])
   (.block 0 [0, 6] (some []) (R_l0)))
  (R_c6))) (St.mk s o) Q =
 (demand (lenV (looko ([].map fun n => (n, o n))) (s 3)) (fun x1 =>
wpB C I R_l0 (St.mk (look [(0, (s 0)), (6, (V.d (.str []))), (33, (s 3)), (34, x1), (35, (V.d (.int .i64 0)))]) (looko ([].map fun n => (n, o n)))) (blockK 0 [0, 6] (some []) (seqK (fun st => wpB C I R_c6 st Q) Q)))) := rfl
@[instance] theorem g_law08_TreeBlanks_c7_u : UnfAt (wpB C I g_law08_TreeBlanks.c7 (St.mk s o) Q) g_law08_TreeBlanks_c7_sh := Unf.of _
theorem g_law08_TreeBlanks_c8_sh : wpB C I (.seq (.seq (.region [0, 3, 26] (some []) none
     [⟨some 25, .mv (.t 5), [], [], none, none⟩,
      ⟨some 26, .bin .neq (.t 25) (.c (.d (.int .i64 0))), [], [], none, none⟩])
  (.cond (.t 26) (.seq (.region [2] (some []) none
       (⟨some 27, .mv (.t 3), [], [], none, none⟩ ::
        ⟨some 28, .len (.t 27), [], [], none, none⟩ ::
        ⟨some 29, .bin .eql (.t 28) (.c (.d (.int .i64 0))), [], [], none, none⟩ ::
        ⟨some 30, .mv (.t 29), [], [], none, (some ([30], (some [])))⟩ ::
        R_o0))
    (R_c0))
   (.skip)))
 (R_c7)) (St.mk s o) Q =
 (demand (binV BinOp.neq (s 5) (V.d (.int .i64 0))) (fun x1 =>
condK x1
 (demand (lenV (looko ([].map fun n => (n, o n))) (s 3)) (fun x2 =>
demand (binV BinOp.eql x2 (V.d (.int .i64 0))) (fun x3 =>
opsB C I R_o0 (St.mk (look [(30, x3)]) (looko ([].map fun n => (n, o n)))) (fun st => (seqK (fun st => wpB C I R_c0 st (seqK (fun st => wpB C I R_c7 st Q) Q)) (seqK (fun st => wpB C I R_c7 st Q) Q)) .normal (St.trim st [2] (some []))))))
 (wpB C I R_c7 (St.mk (look [(0, (s 0)), (3, (s 3)), (26, x1)]) (looko ([].map fun n => (n, o n)))) Q))) := rfl
@[instance] theorem g_law08_TreeBlanks_c8_u : UnfAt (wpB C I g_law08_TreeBlanks.c8 (St.mk s o) Q) g_law08_TreeBlanks_c8_sh := Unf.of _
theorem g_law08_TreeBlanks_c9_sh : wpB C I (.seq (.region [0, 3, 5] (some []) none
    [⟨some 20, .mv (.t 0), [], [], none, none⟩,
     ⟨some 21, .call 74 [(.t 20)], [], [], none, none⟩,
     ⟨some 19, .mv (.t 21), [], [], none, none⟩,
     ⟨some 22, .ext (.t 19) 0, [], [], none, none⟩,
     ⟨some 23, .ext (.t 19) 1, [], [], none, none⟩,
     ⟨some 24, .ext (.t 19) 2, [], [], none, none⟩,
     ⟨some 3, .mv (.t 22), [], [], none, none⟩,
     ⟨some 4, .mv (.t 23), [], [], none, none⟩,
     ⟨some 5, .mv (.t 24), [], [], none, none⟩])
 (R_c8)) (St.mk s o) Q =
 (callK C I (St.mk (upd s 20 (s 0)) o) (some 21) 74 [(s 0)] (fun r1 or1 =>
demand (extV r1 0) (fun x2 =>
demand (extV r1 1) (fun x3 =>
demand (extV r1 2) (fun x4 =>
wpB C I R_c8 (St.mk (look [(0, (s 0)), (3, x2), (5, x4)]) (looko ([].map fun n => (n, or1 n)))) Q))))) := rfl
@[instance] theorem g_law08_TreeBlanks_c9_u : UnfAt (wpB C I g_law08_TreeBlanks.c9 (St.mk s o) Q) g_law08_TreeBlanks_c9_sh := Unf.of _
theorem g_law08_TreeBlanks_code_sh : wpB C I (.seq (.region [0] (some []) none
    [⟨some 2, .mv (.c (.d (.bool false))), [], [], none, none⟩])
 (.seq (.seq (.region [0, 17] (some []) none
      [⟨some 15, .mv (.t 0), [], [], none, none⟩,
       ⟨some 16, .lenS (.t 15), [], [], none, none⟩,
       ⟨some 17, .bin .gtr (.t 16) (.c (.d (.int .i64 500))), [], [], none, none⟩])
   (.cond (.t 17) (.seq (.region [2] (some []) none
        [⟨some 18, .call 143 [], [], [], none, none⟩,
         ⟨some 2, .mv (.t 18), [], [], none, none⟩])
     (.ret))
    (.skip)))
  (R_c9))) (St.mk s o) Q =
 (demand (lenSV (s 0)) (fun x1 =>
demand (binV BinOp.gtr x1 (V.d (.int .i64 500))) (fun x2 =>
condK x2
 (callK C I (St.mk (look [(0, (s 0)), (17, x2)]) (looko ([].map fun n => (n, o n)))) (some 18) 143 [] (fun r3 or3 =>
Q .ret (St.mk (look [(2, r3)]) (looko ([].map fun n => (n, or3 n))))))
 (wpB C I R_c9 (St.mk (look [(0, (s 0)), (17, x2)]) (looko ([].map fun n => (n, o n)))) Q)))) := rfl
@[instance] theorem g_law08_TreeBlanks_code_u : UnfAt (wpB C I g_law08_TreeBlanks.code (St.mk s o) Q) g_law08_TreeBlanks_code_sh := Unf.of _

end Pay
