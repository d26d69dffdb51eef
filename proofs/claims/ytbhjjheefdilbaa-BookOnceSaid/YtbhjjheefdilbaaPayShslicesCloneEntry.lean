/- What the code of one function comes to, without slots: an equation for each part; no condition. -/
import Derived.Test.YtbhjjheefdilbaaPayU
import Derived.Test.YtbhjjheefdilbaaPayBkCode
set_option maxRecDepth 20000
set_option maxHeartbeats 400000
set_option linter.unusedVariables false
namespace Pay
open Go
theorem g_slices_Clone_Entry_code_sh {C : Ctx} {I : Nat → Prop} {s : Nat → V} {o : Nat → Option Ob} {Q : Ex → St → Prop} : wpB C I (.seq (.region [0] (some []) none
    [⟨some 2, .mv (.c (.cap0)), [], [], none, none⟩])
 (.seq (.seq (.region [0, 4] (some []) none
      [⟨some 3, .mv (.t 0), [], [], none, none⟩,
       ⟨some 4, .nilS false (.t 3), [], [], none, none⟩])
   (.cond (.t 4) (.seq (.region [2] (some [5, 7]) none
        [⟨some 2, .mv (.c (.cap0)), [], [], none, none⟩])
     (.ret))
    (.skip)))
  (.seq (.region [2] (some [5, 7]) none
      [⟨some 5, .bsl (some 5) 22 [] 0 [], [], [], none, none⟩,
       ⟨some 6, .mv (.t 0), [], [], none, none⟩,
       ⟨some 7, .app (some 7) 22 256 (.t 5) (.t 6), [], [], none, none⟩,
       ⟨some 2, .mv (.t 7), [], [], none, none⟩])
   (.ret)))) (St.mk s o) Q =
 (nilSK false (s 0) (fun x1 =>
condK x1
 (Q .ret (St.mk (look [(2, (V.cap0))]) (looko ([5, 7].map fun n => (n, (looko ([].map fun n => (n, o n))) n)))))
 (lstK (readD (looko ([].map fun n => (n, o n))) (s 0)) (fun ys3 => (∀ e ∈ ys3, e.length = 22) ∧ appK V.cap0
 (ys3.length * 256 ≤ 140737488355328 ∧ ys3.length ≤ 140737488355328 ∧ ¬ I 7 ∧ Fresh (St.mk (upd (upd (look [(0, (s 0)), (4, x1)]) 5 V.cap0) 6 (s 0)) (looko ([].map fun n => (n, o n)))) 7 (some 7) ∧
Q .ret (St.mk (look [(2, (V.own 7))]) (looko ([5, 7].map fun n => (n, (upd (looko ([].map fun n => (n, o n))) 7 (some (Ob.row 22 ys3))) n)))))
 (fun m4 => ¬ I m4 ∧ rowK ((looko ([].map fun n => (n, o n))) m4) (fun z5 es6 => z5 = 22 ∧ (es6.length + ys3.length) * 256 ≤ 140737488355328 ∧ es6.length + ys3.length ≤ 140737488355328 ∧
Q .ret (St.mk (look [(2, (V.own m4))]) (looko ([5, 7].map fun n => (n, (upd (fun n => ((looko ([].map fun n => (n, o n))) n).map (Ob.scrub m4)) m4 (some (Ob.row 22 (es6 ++ ys3)))) n)))))))))) := rfl


end Pay
