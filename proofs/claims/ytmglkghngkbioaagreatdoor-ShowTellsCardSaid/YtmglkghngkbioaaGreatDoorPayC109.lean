/- Contracts: the document's texts of all expressions: one expression. -/
import Derived.Test.YtmglkghngkbioaaGreatDoorPayC108
set_option linter.unusedSimpArgs false
set_option linter.unusedVariables false
set_option maxHeartbeats 1000000
namespace Pay
open Go
attribute [local irreducible] wpB opsB treeB drawB
set_option maxHeartbeats 4000000 in
theorem op_it {C:Ctx}(K:T9K C){I:Nat→Prop}(hI:∀ n,¬I n){Q:Ex→St→Prop}{p:Prog}{ts:List (List UInt8)}{i:Nat}{x:Xpr}(hx:ExOk x){s0 s1 s2:List UInt8}{n0 n1 n2:Int}(b0:s0.length≤1000000)(b1:s1.length≤1000000)(b2:s2.length≤1000000)
    (hB:(opR x (s0,n0) (s1,n1) (s2,n2)).length≤1000000)
    (key:wpB C I g_ref09_Texts.c7 (St.mk (look [(1,.ptr 1 0),(3,wV 192 (ts.map encS1)),(4,vI i),(12,vS (opR x (s0,n0) (s1,n1) (s2,n2)))]) (looko [(1,some (pBx p)),(192,wO (ts.map encS1))])) Q) :
    wpB C I g_ref09_Texts.c8 (St.mk (look [(1,.ptr 1 0),(3,wV 192 (ts.map encS1)),(4,vI i),(5,.ptr 5 0),(6,.own 58),(7,.own 62)])
      (looko [(1,some (pBx p)),(5,some (.box (cX9 x))),(58,some (.row 1 [[.str s0],[.str s1],[.str s2]])),(62,some (.row 1 [[dI n0],[dI n1],[dI n2]])),(192,wO (ts.map encS1))])) Q:=by
  obtain ⟨op,nm,v,a,b,c⟩:=x
  obtain ⟨x1,x2,x3,x4,x5,x6⟩:=hx
  simp only at x1 x2 x3 x4 x5 x6
  have hh0:=fun k=>K.held s0 n0 k (by omega)
  have hh1:=fun k=>K.held s1 n1 k (by omega)
  have l0:=fun k=>held_len (decide (n0<k)) s0
  have l1:=fun k=>held_len (decide (n1<k)) s1
  have h02:=hh0 2
  have h03:=hh0 3
  have h04:=hh0 4
  have h12:=hh1 2
  have h13:=hh1 3
  have h14:=hh1 4
  have l02:=l0 2
  have l03:=l0 3
  have l04:=l0 4
  have l12:=l1 2
  have l13:=l1 3
  have l14:=l1 4
  by_cases q0:op=wWhole
  · subst q0
    have tt:=K.dig v.toNat (by omega)
    rw [Int.toNat_of_nonneg (x3 rfl)] at tt
    have e:opR ⟨wWhole,nm,v,a,b,c⟩ (s0,n0) (s1,n1) (s2,n2)=Lib.decDigits v.toNat:=rfl
    rw [e] at key hB
    try simp only [List.length_append,List.length_cons,List.length_nil] at hB
    try simp only [go_sem] at key
    repeat' (first|exact key|simp only [go_sem,quietL_wO,hI,freshO_wO,scrub_wO,refs_wV,Bool.and_false,demand_if,List.length_append,List.getElem?_cons_zero,List.getElem?_cons_succ]|refine Unf.h ?_|refine And.intro ?_ (noRv_of (by simp only [go_sem]))|refine callK_plain (tt) (fun _=>rfl) ?_|refine callE_plain (tt) (fun _=>rfl) ?_|refine ⟨_,tt,fun _=>rfl,?_⟩|refine callK_plain (h02) (fun _=>rfl) ?_|refine callE_plain (h02) (fun _=>rfl) ?_|refine ⟨_,h02,fun _=>rfl,?_⟩|refine callK_plain (h03) (fun _=>rfl) ?_|refine callE_plain (h03) (fun _=>rfl) ?_|refine ⟨_,h03,fun _=>rfl,?_⟩|refine callK_plain (h04) (fun _=>rfl) ?_|refine callE_plain (h04) (fun _=>rfl) ?_|refine ⟨_,h04,fun _=>rfl,?_⟩|refine callK_plain (h12) (fun _=>rfl) ?_|refine callE_plain (h12) (fun _=>rfl) ?_|refine ⟨_,h12,fun _=>rfl,?_⟩|refine callK_plain (h13) (fun _=>rfl) ?_|refine callE_plain (h13) (fun _=>rfl) ?_|refine ⟨_,h13,fun _=>rfl,?_⟩|refine callK_plain (h14) (fun _=>rfl) ?_|refine callE_plain (h14) (fun _=>rfl) ?_|refine ⟨_,h14,fun _=>rfl,?_⟩|refine And.intro (by omega) ?_|refine And.intro ?_ ?_)
  by_cases q1:op=wAmount
  · subst q1
    have tt:=K.text v (x4 (.inl rfl)) (by omega)
    have e:opR ⟨wAmount,nm,v,a,b,c⟩ (s0,n0) (s1,n1) (s2,n2)=textR v:=rfl
    rw [e] at key hB
    try simp only [List.length_append,List.length_cons,List.length_nil] at hB
    try simp only [go_sem] at key
    repeat' (first|exact key|simp only [go_sem,quietL_wO,hI,freshO_wO,scrub_wO,refs_wV,Bool.and_false,demand_if,List.length_append,List.getElem?_cons_zero,List.getElem?_cons_succ]|refine Unf.h ?_|refine And.intro ?_ (noRv_of (by simp only [go_sem]))|refine callK_plain (tt) (fun _=>rfl) ?_|refine callE_plain (tt) (fun _=>rfl) ?_|refine ⟨_,tt,fun _=>rfl,?_⟩|refine callK_plain (h02) (fun _=>rfl) ?_|refine callE_plain (h02) (fun _=>rfl) ?_|refine ⟨_,h02,fun _=>rfl,?_⟩|refine callK_plain (h03) (fun _=>rfl) ?_|refine callE_plain (h03) (fun _=>rfl) ?_|refine ⟨_,h03,fun _=>rfl,?_⟩|refine callK_plain (h04) (fun _=>rfl) ?_|refine callE_plain (h04) (fun _=>rfl) ?_|refine ⟨_,h04,fun _=>rfl,?_⟩|refine callK_plain (h12) (fun _=>rfl) ?_|refine callE_plain (h12) (fun _=>rfl) ?_|refine ⟨_,h12,fun _=>rfl,?_⟩|refine callK_plain (h13) (fun _=>rfl) ?_|refine callE_plain (h13) (fun _=>rfl) ?_|refine ⟨_,h13,fun _=>rfl,?_⟩|refine callK_plain (h14) (fun _=>rfl) ?_|refine callE_plain (h14) (fun _=>rfl) ?_|refine ⟨_,h14,fun _=>rfl,?_⟩|refine And.intro (by omega) ?_|refine And.intro ?_ ?_)
  by_cases q2:op=wRate
  · subst q2
    have tt:=K.text v (x4 (.inr rfl)) (by omega)
    have e:opR ⟨wRate,nm,v,a,b,c⟩ (s0,n0) (s1,n1) (s2,n2)=textR v++[37]:=rfl
    rw [e] at key hB
    try simp only [List.length_append,List.length_cons,List.length_nil] at hB
    try simp only [go_sem] at key
    repeat' (first|exact key|simp only [go_sem,quietL_wO,hI,freshO_wO,scrub_wO,refs_wV,Bool.and_false,demand_if,List.length_append,List.getElem?_cons_zero,List.getElem?_cons_succ]|refine Unf.h ?_|refine And.intro ?_ (noRv_of (by simp only [go_sem]))|refine callK_plain (tt) (fun _=>rfl) ?_|refine callE_plain (tt) (fun _=>rfl) ?_|refine ⟨_,tt,fun _=>rfl,?_⟩|refine callK_plain (h02) (fun _=>rfl) ?_|refine callE_plain (h02) (fun _=>rfl) ?_|refine ⟨_,h02,fun _=>rfl,?_⟩|refine callK_plain (h03) (fun _=>rfl) ?_|refine callE_plain (h03) (fun _=>rfl) ?_|refine ⟨_,h03,fun _=>rfl,?_⟩|refine callK_plain (h04) (fun _=>rfl) ?_|refine callE_plain (h04) (fun _=>rfl) ?_|refine ⟨_,h04,fun _=>rfl,?_⟩|refine callK_plain (h12) (fun _=>rfl) ?_|refine callE_plain (h12) (fun _=>rfl) ?_|refine ⟨_,h12,fun _=>rfl,?_⟩|refine callK_plain (h13) (fun _=>rfl) ?_|refine callE_plain (h13) (fun _=>rfl) ?_|refine ⟨_,h13,fun _=>rfl,?_⟩|refine callK_plain (h14) (fun _=>rfl) ?_|refine callE_plain (h14) (fun _=>rfl) ?_|refine ⟨_,h14,fun _=>rfl,?_⟩|refine And.intro (by omega) ?_|refine And.intro ?_ ?_)
  by_cases q3:op=wName
  · subst q3
    have e:opR ⟨wName,nm,v,a,b,c⟩ (s0,n0) (s1,n1) (s2,n2)=nm:=rfl
    rw [e] at key hB
    try simp only [List.length_append,List.length_cons,List.length_nil] at hB
    try simp only [go_sem] at key
    repeat' (first|exact key|simp only [go_sem,quietL_wO,hI,freshO_wO,scrub_wO,refs_wV,Bool.and_false,demand_if,List.length_append,List.getElem?_cons_zero,List.getElem?_cons_succ]|refine Unf.h ?_|refine And.intro ?_ (noRv_of (by simp only [go_sem]))|refine callK_plain (h02) (fun _=>rfl) ?_|refine callE_plain (h02) (fun _=>rfl) ?_|refine ⟨_,h02,fun _=>rfl,?_⟩|refine callK_plain (h03) (fun _=>rfl) ?_|refine callE_plain (h03) (fun _=>rfl) ?_|refine ⟨_,h03,fun _=>rfl,?_⟩|refine callK_plain (h04) (fun _=>rfl) ?_|refine callE_plain (h04) (fun _=>rfl) ?_|refine ⟨_,h04,fun _=>rfl,?_⟩|refine callK_plain (h12) (fun _=>rfl) ?_|refine callE_plain (h12) (fun _=>rfl) ?_|refine ⟨_,h12,fun _=>rfl,?_⟩|refine callK_plain (h13) (fun _=>rfl) ?_|refine callE_plain (h13) (fun _=>rfl) ?_|refine ⟨_,h13,fun _=>rfl,?_⟩|refine callK_plain (h14) (fun _=>rfl) ?_|refine callE_plain (h14) (fun _=>rfl) ?_|refine ⟨_,h14,fun _=>rfl,?_⟩|refine And.intro (by omega) ?_|refine And.intro ?_ ?_)
  by_cases q4:op=wNeg
  · subst q4
    have e:opR ⟨wNeg,nm,v,a,b,c⟩ (s0,n0) (s1,n1) (s2,n2)=[45]++heldS (decide (n0<4)) s0:=rfl
    rw [e] at key hB
    try simp only [List.length_append,List.length_cons,List.length_nil] at hB
    try simp only [go_sem] at key
    repeat' (first|exact key|simp only [go_sem,quietL_wO,hI,freshO_wO,scrub_wO,refs_wV,Bool.and_false,demand_if,List.length_append,List.getElem?_cons_zero,List.getElem?_cons_succ]|refine Unf.h ?_|refine And.intro ?_ (noRv_of (by simp only [go_sem]))|refine callK_plain (h02) (fun _=>rfl) ?_|refine callE_plain (h02) (fun _=>rfl) ?_|refine ⟨_,h02,fun _=>rfl,?_⟩|refine callK_plain (h03) (fun _=>rfl) ?_|refine callE_plain (h03) (fun _=>rfl) ?_|refine ⟨_,h03,fun _=>rfl,?_⟩|refine callK_plain (h04) (fun _=>rfl) ?_|refine callE_plain (h04) (fun _=>rfl) ?_|refine ⟨_,h04,fun _=>rfl,?_⟩|refine callK_plain (h12) (fun _=>rfl) ?_|refine callE_plain (h12) (fun _=>rfl) ?_|refine ⟨_,h12,fun _=>rfl,?_⟩|refine callK_plain (h13) (fun _=>rfl) ?_|refine callE_plain (h13) (fun _=>rfl) ?_|refine ⟨_,h13,fun _=>rfl,?_⟩|refine callK_plain (h14) (fun _=>rfl) ?_|refine callE_plain (h14) (fun _=>rfl) ?_|refine ⟨_,h14,fun _=>rfl,?_⟩|refine And.intro (by omega) ?_|refine And.intro ?_ ?_)
  by_cases q5:op=wMin
  · subst q5
    have e:opR ⟨wMin,nm,v,a,b,c⟩ (s0,n0) (s1,n1) (s2,n2)=wMin++[40]++s0++[44,32]++s1++[41]:=rfl
    rw [e] at key hB
    try simp only [List.length_append,List.length_cons,List.length_nil] at hB
    try simp only [go_sem] at key
    repeat' (first|exact key|simp only [go_sem,quietL_wO,hI,freshO_wO,scrub_wO,refs_wV,Bool.and_false,demand_if,List.length_append,List.getElem?_cons_zero,List.getElem?_cons_succ]|refine Unf.h ?_|refine And.intro ?_ (noRv_of (by simp only [go_sem]))|refine callK_plain (h02) (fun _=>rfl) ?_|refine callE_plain (h02) (fun _=>rfl) ?_|refine ⟨_,h02,fun _=>rfl,?_⟩|refine callK_plain (h03) (fun _=>rfl) ?_|refine callE_plain (h03) (fun _=>rfl) ?_|refine ⟨_,h03,fun _=>rfl,?_⟩|refine callK_plain (h04) (fun _=>rfl) ?_|refine callE_plain (h04) (fun _=>rfl) ?_|refine ⟨_,h04,fun _=>rfl,?_⟩|refine callK_plain (h12) (fun _=>rfl) ?_|refine callE_plain (h12) (fun _=>rfl) ?_|refine ⟨_,h12,fun _=>rfl,?_⟩|refine callK_plain (h13) (fun _=>rfl) ?_|refine callE_plain (h13) (fun _=>rfl) ?_|refine ⟨_,h13,fun _=>rfl,?_⟩|refine callK_plain (h14) (fun _=>rfl) ?_|refine callE_plain (h14) (fun _=>rfl) ?_|refine ⟨_,h14,fun _=>rfl,?_⟩|refine And.intro (by omega) ?_|refine And.intro ?_ ?_)
  by_cases q6:op=wMax
  · subst q6
    have e:opR ⟨wMax,nm,v,a,b,c⟩ (s0,n0) (s1,n1) (s2,n2)=wMax++[40]++s0++[44,32]++s1++[41]:=rfl
    rw [e] at key hB
    try simp only [List.length_append,List.length_cons,List.length_nil] at hB
    try simp only [go_sem] at key
    repeat' (first|exact key|simp only [go_sem,quietL_wO,hI,freshO_wO,scrub_wO,refs_wV,Bool.and_false,demand_if,List.length_append,List.getElem?_cons_zero,List.getElem?_cons_succ]|refine Unf.h ?_|refine And.intro ?_ (noRv_of (by simp only [go_sem]))|refine callK_plain (h02) (fun _=>rfl) ?_|refine callE_plain (h02) (fun _=>rfl) ?_|refine ⟨_,h02,fun _=>rfl,?_⟩|refine callK_plain (h03) (fun _=>rfl) ?_|refine callE_plain (h03) (fun _=>rfl) ?_|refine ⟨_,h03,fun _=>rfl,?_⟩|refine callK_plain (h04) (fun _=>rfl) ?_|refine callE_plain (h04) (fun _=>rfl) ?_|refine ⟨_,h04,fun _=>rfl,?_⟩|refine callK_plain (h12) (fun _=>rfl) ?_|refine callE_plain (h12) (fun _=>rfl) ?_|refine ⟨_,h12,fun _=>rfl,?_⟩|refine callK_plain (h13) (fun _=>rfl) ?_|refine callE_plain (h13) (fun _=>rfl) ?_|refine ⟨_,h13,fun _=>rfl,?_⟩|refine callK_plain (h14) (fun _=>rfl) ?_|refine callE_plain (h14) (fun _=>rfl) ?_|refine ⟨_,h14,fun _=>rfl,?_⟩|refine And.intro (by omega) ?_|refine And.intro ?_ ?_)
  by_cases q7:op=wIf
  · subst q7
    have e:opR ⟨wIf,nm,v,a,b,c⟩ (s0,n0) (s1,n1) (s2,n2)=[105,102,32]++s0++[32,116,104,101,110,32]++s1++[32,101,108,115,101,32]++s2:=rfl
    rw [e] at key hB
    try simp only [List.length_append,List.length_cons,List.length_nil] at hB
    try simp only [go_sem] at key
    repeat' (first|exact key|simp only [go_sem,quietL_wO,hI,freshO_wO,scrub_wO,refs_wV,Bool.and_false,demand_if,List.length_append,List.getElem?_cons_zero,List.getElem?_cons_succ]|refine Unf.h ?_|refine And.intro ?_ (noRv_of (by simp only [go_sem]))|refine callK_plain (h02) (fun _=>rfl) ?_|refine callE_plain (h02) (fun _=>rfl) ?_|refine ⟨_,h02,fun _=>rfl,?_⟩|refine callK_plain (h03) (fun _=>rfl) ?_|refine callE_plain (h03) (fun _=>rfl) ?_|refine ⟨_,h03,fun _=>rfl,?_⟩|refine callK_plain (h04) (fun _=>rfl) ?_|refine callE_plain (h04) (fun _=>rfl) ?_|refine ⟨_,h04,fun _=>rfl,?_⟩|refine callK_plain (h12) (fun _=>rfl) ?_|refine callE_plain (h12) (fun _=>rfl) ?_|refine ⟨_,h12,fun _=>rfl,?_⟩|refine callK_plain (h13) (fun _=>rfl) ?_|refine callE_plain (h13) (fun _=>rfl) ?_|refine ⟨_,h13,fun _=>rfl,?_⟩|refine callK_plain (h14) (fun _=>rfl) ?_|refine callE_plain (h14) (fun _=>rfl) ?_|refine ⟨_,h14,fun _=>rfl,?_⟩|refine And.intro (by omega) ?_|refine And.intro ?_ ?_)
  by_cases q8:op=[43]
  · subst q8
    have e:opR ⟨[43],nm,v,a,b,c⟩ (s0,n0) (s1,n1) (s2,n2)=heldS (decide (n0<2)) s0++[32]++[43]++[32]++heldS (decide (n1<3)) s1:=rfl
    rw [e] at key hB
    try simp only [List.length_append,List.length_cons,List.length_nil] at hB
    try simp only [go_sem] at key
    repeat' (first|exact key|simp only [go_sem,quietL_wO,hI,freshO_wO,scrub_wO,refs_wV,Bool.and_false,demand_if,List.length_append,List.getElem?_cons_zero,List.getElem?_cons_succ]|refine Unf.h ?_|refine And.intro ?_ (noRv_of (by simp only [go_sem]))|refine callK_plain (h02) (fun _=>rfl) ?_|refine callE_plain (h02) (fun _=>rfl) ?_|refine ⟨_,h02,fun _=>rfl,?_⟩|refine callK_plain (h03) (fun _=>rfl) ?_|refine callE_plain (h03) (fun _=>rfl) ?_|refine ⟨_,h03,fun _=>rfl,?_⟩|refine callK_plain (h04) (fun _=>rfl) ?_|refine callE_plain (h04) (fun _=>rfl) ?_|refine ⟨_,h04,fun _=>rfl,?_⟩|refine callK_plain (h12) (fun _=>rfl) ?_|refine callE_plain (h12) (fun _=>rfl) ?_|refine ⟨_,h12,fun _=>rfl,?_⟩|refine callK_plain (h13) (fun _=>rfl) ?_|refine callE_plain (h13) (fun _=>rfl) ?_|refine ⟨_,h13,fun _=>rfl,?_⟩|refine callK_plain (h14) (fun _=>rfl) ?_|refine callE_plain (h14) (fun _=>rfl) ?_|refine ⟨_,h14,fun _=>rfl,?_⟩|refine And.intro (by omega) ?_|refine And.intro ?_ ?_)
  by_cases q9:op=[45]
  · subst q9
    have e:opR ⟨[45],nm,v,a,b,c⟩ (s0,n0) (s1,n1) (s2,n2)=heldS (decide (n0<2)) s0++[32]++[45]++[32]++heldS (decide (n1<3)) s1:=rfl
    rw [e] at key hB
    try simp only [List.length_append,List.length_cons,List.length_nil] at hB
    try simp only [go_sem] at key
    repeat' (first|exact key|simp only [go_sem,quietL_wO,hI,freshO_wO,scrub_wO,refs_wV,Bool.and_false,demand_if,List.length_append,List.getElem?_cons_zero,List.getElem?_cons_succ]|refine Unf.h ?_|refine And.intro ?_ (noRv_of (by simp only [go_sem]))|refine callK_plain (h02) (fun _=>rfl) ?_|refine callE_plain (h02) (fun _=>rfl) ?_|refine ⟨_,h02,fun _=>rfl,?_⟩|refine callK_plain (h03) (fun _=>rfl) ?_|refine callE_plain (h03) (fun _=>rfl) ?_|refine ⟨_,h03,fun _=>rfl,?_⟩|refine callK_plain (h04) (fun _=>rfl) ?_|refine callE_plain (h04) (fun _=>rfl) ?_|refine ⟨_,h04,fun _=>rfl,?_⟩|refine callK_plain (h12) (fun _=>rfl) ?_|refine callE_plain (h12) (fun _=>rfl) ?_|refine ⟨_,h12,fun _=>rfl,?_⟩|refine callK_plain (h13) (fun _=>rfl) ?_|refine callE_plain (h13) (fun _=>rfl) ?_|refine ⟨_,h13,fun _=>rfl,?_⟩|refine callK_plain (h14) (fun _=>rfl) ?_|refine callE_plain (h14) (fun _=>rfl) ?_|refine ⟨_,h14,fun _=>rfl,?_⟩|refine And.intro (by omega) ?_|refine And.intro ?_ ?_)
  by_cases q10:op=[42]
  · subst q10
    have e:opR ⟨[42],nm,v,a,b,c⟩ (s0,n0) (s1,n1) (s2,n2)=heldS (decide (n0<3)) s0++[32,42,32]++heldS (decide (n1<4)) s1:=rfl
    rw [e] at key hB
    try simp only [List.length_append,List.length_cons,List.length_nil] at hB
    try simp only [go_sem] at key
    repeat' (first|exact key|simp only [go_sem,quietL_wO,hI,freshO_wO,scrub_wO,refs_wV,Bool.and_false,demand_if,List.length_append,List.getElem?_cons_zero,List.getElem?_cons_succ]|refine Unf.h ?_|refine And.intro ?_ (noRv_of (by simp only [go_sem]))|refine callK_plain (h02) (fun _=>rfl) ?_|refine callE_plain (h02) (fun _=>rfl) ?_|refine ⟨_,h02,fun _=>rfl,?_⟩|refine callK_plain (h03) (fun _=>rfl) ?_|refine callE_plain (h03) (fun _=>rfl) ?_|refine ⟨_,h03,fun _=>rfl,?_⟩|refine callK_plain (h04) (fun _=>rfl) ?_|refine callE_plain (h04) (fun _=>rfl) ?_|refine ⟨_,h04,fun _=>rfl,?_⟩|refine callK_plain (h12) (fun _=>rfl) ?_|refine callE_plain (h12) (fun _=>rfl) ?_|refine ⟨_,h12,fun _=>rfl,?_⟩|refine callK_plain (h13) (fun _=>rfl) ?_|refine callE_plain (h13) (fun _=>rfl) ?_|refine ⟨_,h13,fun _=>rfl,?_⟩|refine callK_plain (h14) (fun _=>rfl) ?_|refine callE_plain (h14) (fun _=>rfl) ?_|refine ⟨_,h14,fun _=>rfl,?_⟩|refine And.intro (by omega) ?_|refine And.intro ?_ ?_)
  have p0:(op==[119,104,111,108,101])=false:=by simpa using q0
  have r0:(op=[119,104,111,108,101])=False:=eq_false q0
  have p1:(op==[97,109,111,117,110,116])=false:=by simpa using q1
  have r1:(op=[97,109,111,117,110,116])=False:=eq_false q1
  have p2:(op==[114,97,116,101])=false:=by simpa using q2
  have r2:(op=[114,97,116,101])=False:=eq_false q2
  have p3:(op==[110,97,109,101])=false:=by simpa using q3
  have r3:(op=[110,97,109,101])=False:=eq_false q3
  have p4:(op==[110,101,103])=false:=by simpa using q4
  have r4:(op=[110,101,103])=False:=eq_false q4
  have p5:(op==[109,105,110])=false:=by simpa using q5
  have r5:(op=[109,105,110])=False:=eq_false q5
  have p6:(op==[109,97,120])=false:=by simpa using q6
  have r6:(op=[109,97,120])=False:=eq_false q6
  have p7:(op==[105,102])=false:=by simpa using q7
  have r7:(op=[105,102])=False:=eq_false q7
  have p8:(op==[43])=false:=by simpa using q8
  have r8:(op=[43])=False:=eq_false q8
  have p9:(op==[45])=false:=by simpa using q9
  have r9:(op=[45])=False:=eq_false q9
  have p10:(op==[42])=false:=by simpa using q10
  have r10:(op=[42])=False:=eq_false q10
  have e:opR ⟨op,nm,v,a,b,c⟩ (s0,n0) (s1,n1) (s2,n2)=heldS (decide (n0<2)) s0++[32]++op++[32]++heldS (decide (n1<2)) s1:=by
    simp only [opR]
    rw [if_neg q0,if_neg q1,if_neg q2,if_neg q3,if_neg q4,if_neg (fun h=>h.elim q5 q6),if_neg q7,if_neg (fun h=>h.elim q8 q9),if_neg q10]
  rw [e] at key hB
  simp only [List.length_append,List.length_cons,List.length_nil] at hB
  try simp only [go_sem] at key
  repeat' (first|exact key|simp only [go_sem,quietL_wO,hI,freshO_wO,scrub_wO,refs_wV,Bool.and_false,demand_if,List.length_append,List.getElem?_cons_zero,List.getElem?_cons_succ,p0,r0,p1,r1,p2,r2,p3,r3,p4,r4,p5,r5,p6,r6,p7,r7,p8,r8,p9,r9,p10,r10]|refine Unf.h ?_|refine And.intro ?_ (noRv_of (by simp only [go_sem]))|refine callK_plain (h02) (fun _=>rfl) ?_|refine callE_plain (h02) (fun _=>rfl) ?_|refine ⟨_,h02,fun _=>rfl,?_⟩|refine callK_plain (h03) (fun _=>rfl) ?_|refine callE_plain (h03) (fun _=>rfl) ?_|refine ⟨_,h03,fun _=>rfl,?_⟩|refine callK_plain (h04) (fun _=>rfl) ?_|refine callE_plain (h04) (fun _=>rfl) ?_|refine ⟨_,h04,fun _=>rfl,?_⟩|refine callK_plain (h12) (fun _=>rfl) ?_|refine callE_plain (h12) (fun _=>rfl) ?_|refine ⟨_,h12,fun _=>rfl,?_⟩|refine callK_plain (h13) (fun _=>rfl) ?_|refine callE_plain (h13) (fun _=>rfl) ?_|refine ⟨_,h13,fun _=>rfl,?_⟩|refine callK_plain (h14) (fun _=>rfl) ?_|refine callE_plain (h14) (fun _=>rfl) ?_|refine ⟨_,h14,fun _=>rfl,?_⟩|refine And.intro (by omega) ?_|refine And.intro ?_ ?_)
end Pay
