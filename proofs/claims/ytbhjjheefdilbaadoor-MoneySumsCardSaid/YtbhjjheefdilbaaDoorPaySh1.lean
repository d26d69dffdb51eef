/- What the code of the functions comes to, without slots: an equation for each part; no condition. -/
import Derived.Test.YtbhjjheefdilbaaDoorPayU
import Derived.Test.YtbhjjheefdilbaaDoorPayMoCode
set_option maxRecDepth 20000
set_option maxHeartbeats 400000
set_option linter.unusedVariables false
namespace Pay
open Go
theorem g_ref01_Digits_c0_sh {C : Ctx} {I : Nat → Prop} {s : Nat → V} {o : Nat → Option Ob} {Q : Ex → St → Prop} : wpB C I (.seq (.region [2] (some []) none
    [⟨some 22, .mv (.t 3), [], [], none, none⟩,
     ⟨some 2, .mv (.t 22), [], [], none, none⟩])
 (.ret)) (St.mk s o) Q =
 (Q .ret (St.mk (look [(2, (s 3))]) (looko ([].map fun n => (n, o n))))) := rfl

theorem g_ref01_Digits_c1_sh {R_l0 : ACode} {R_c0 : ACode} {C : Ctx} {I : Nat → Prop} {s : Nat → V} {o : Nat → Option Ob} {Q : Ex → St → Prop} : wpB C I (.seq (.block 0 [3] (some []) (R_l0))
 (R_c0)) (St.mk s o) Q =
 (wpB C I R_l0 (St.mk s o) (blockK 0 [3] (some []) (seqK (fun st => wpB C I R_c0 st Q) Q))) := rfl

theorem g_ref01_Digits_code_sh {R_c1 : ACode} {C : Ctx} {I : Nat → Prop} {s : Nat → V} {o : Nat → Option Ob} {Q : Ex → St → Prop} : wpB C I (.seq (.region [0] (some []) none
    [⟨some 2, .mv (.c (.d (.str []))), [], [], none, none⟩])
 (.seq (.region [0, 3] (some []) none
     [⟨some 4, .mv (.t 0), [], [], none, none⟩,
      ⟨some 5, .bin .rem (.t 4) (.c (.d (.int .i64 10))), [], [], none, none⟩,
      ⟨some 6, .bin .add (.c (.d (.int .i64 48))) (.t 5), [], [], none, none⟩,
      ⟨some 7, .conv .u8 (.t 6), [], [], none, none⟩,
      ⟨some 8, .bsl none 1 [] 1 [(0, (.t 7))], [], [], none, none⟩,
      ⟨some 9, .bstr (.t 8), [], [], none, none⟩,
      ⟨some 3, .mv (.t 9), [], [], none, none⟩])
  (R_c1))) (St.mk s o) Q =
 (demand (binV BinOp.rem (s 0) (V.d (.int .i64 10))) (fun x1 =>
demand (binV BinOp.add (V.d (.int .i64 48)) x1) (fun x2 =>
demand (convV IntKind.u8 x2) (fun x3 =>
lstK (partsN 1 [x3]) (fun es4 =>
demand (bstrV (V.d (D.sl es4))) (fun x5 =>
wpB C I R_c1 (St.mk (look [(0, (s 0)), (3, x5)]) (looko ([].map fun n => (n, o n)))) Q)))))) := rfl
end Pay
