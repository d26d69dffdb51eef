/- What the code of one function comes to, without slots: an equation for each part; no condition. -/
import Derived.Test.YtbhjjheefdilbaaPayU
import Derived.Test.YtbhjjheefdilbaaPayBkCode
set_option maxRecDepth 20000
set_option maxHeartbeats 400000
set_option linter.unusedVariables false
namespace Pay
open Go
theorem g_book_Live_1_code_sh {C : Ctx} {I : Nat → Prop} {s : Nat → V} {o : Nat → Option Ob} {Q : Ex → St → Prop} : wpB C I (.seq (.region [1, 2] none none
    [⟨some 2, .box 2 22 (.t 0), [], [], none, none⟩,
     ⟨some 3, .mv (.c (.d (.bool false))), [], [], none, none⟩])
 (.seq (.region [3] none none
     [⟨some 4, .faddr 4 (.t 2), [], [], none, none⟩,
      ⟨some 5, .load none (.t 4), [], [], none, none⟩,
      ⟨some 6, .load none (.t 1), [], [], none, none⟩,
      ⟨some 7, .bin .add (.t 6) (.c (.d (.int .i64 1))), [], [], none, none⟩,
      ⟨some 8, .bin .eql (.t 5) (.t 7), [], [], none, none⟩,
      ⟨some 3, .mv (.t 8), [], [], none, none⟩])
  (.ret))) (St.mk s o) Q =
 (lstK (cellsV (s 0)) (fun c1 => c1.length = 22 ∧ ¬ I 2 ∧ Fresh (St.mk s o) 2 (some 2) ∧ V.refsL 2 c1 = false ∧
demand (faddrV 4 (V.ptr 2 0)) (fun x2 =>
demand (loadV (upd o 2 (some (Ob.box c1))) none x2) (fun x3 =>
demand (loadV (upd o 2 (some (Ob.box c1))) none (s 1)) (fun x4 =>
demand (binV BinOp.add x4 (V.d (.int .i64 1))) (fun x5 =>
demand (binV BinOp.eql x3 x5) (fun x6 =>
Q .ret (St.mk (look [(3, x6)]) (upd o 2 (some (Ob.box c1))))))))))) := rfl


end Pay
