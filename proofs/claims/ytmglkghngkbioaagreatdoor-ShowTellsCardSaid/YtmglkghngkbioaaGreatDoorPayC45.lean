/- Contracts: the document's tokens; they are the same. -/
import Derived.Test.YtmglkghngkbioaaGreatDoorPayC41
import Derived.Test.YtmglkghngkbioaaGreatDoorPayC42
set_option linter.unusedSimpArgs false
set_option linter.unusedVariables false
set_option maxHeartbeats 1000000
namespace Pay
open Go
attribute [local irreducible] wpB opsB treeB drawB
theorem in_loop {C:Ctx}{I:Nat→Prop}{Q:Ex→St→Prop}{c:UInt8}{l:List UInt8}(hl:l.length<100000){r:Bool}(hT:r=true→Q .ret (St.mk (look [(4,vB true)]) (looko [])))(hF:r=false→∀ t,Q (.exit 0) (St.mk t (looko []))) :
    ∀ (m k:Nat),k+m=l.length→(l.drop k).contains c=r→wpB C I g_ref07_in.l0 (St.mk (look [(0,vC c),(1,vS l),(5,vI k)]) (looko [])) Q:=by
  intro m
  induction m with
  | zero =>
    intro k hk hr
    refine w_loopC (L:=g_ref07_in.l0) rfl ?_
    have:k=l.length:=by omega
    subst this
    rw [List.drop_length] at hr
    repeat (first|simp only [go_sem,Int.lt_irrefl,decide_false]|refine Unf.h ?_)
    exact hF hr.symm _
  | succ m ih =>
    intro k hk hr
    refine w_loopC (L:=g_ref07_in.l0) rfl ?_
    have hlt:k<l.length:=by omega
    have hlt':((k:Int)<(l.length:Int)):=by omega
    have he:=List.getElem?_eq_getElem hlt
    rw [List.drop_eq_getElem_cons hlt,List.contains_cons] at hr
    have hw:IntKind.i64.wrap ((k:Int)+1)=((k+1:Nat):Int):=by rw [wrapI (by omega) (by omega)];omega
    have e1:((l[k].toNat:Int)==(c.toNat:Int))=(c==l[k]):=by rw [byte_eq];exact BEq.comm
    cases h:c==l[k] with
    | true =>
      rw [h,Bool.true_or] at hr
      repeat (first|simp only [go_sem,hlt',decide_true,Int.natCast_nonneg,Int.toNat_natCast,he,e1,h]|refine Unf.h ?_)
      exact hT hr.symm
    | false =>
      rw [h,Bool.false_or] at hr
      repeat (first|simp only [go_sem,hlt',decide_true,Int.natCast_nonneg,Int.toNat_natCast,he,e1,h,hw]|refine Unf.h ?_)
      exact ih (k+1) (by omega) hr
theorem refIn {C:Ctx}(h:okFn C.P C.φ 96 g_ref07_in=true)(c:UInt8)(l:List UInt8)(hl:l.length<100000):SoundAt C 96 ⟨[vC c,vS l],looko []⟩ ⟨vB (l.contains c),looko []⟩:=by
  refine SoundAt.of_run h rfl (fun Q hR hN => ?_)
  rw [entry2]
  repeat (first|simp only [go_sem]|refine Unf.h ?_)
  refine in_loop hl (c:=c) (r:=l.contains c) (fun hr => ?_) (fun hr t => ?_) l.length 0 (by omega) rfl
  · refine hR _ ?_
    simp only [go_sem,hr]
  · repeat (first|simp only [go_sem]|refine Unf.h ?_)
    refine hR _ ?_
    simp only [go_sem,hr]
theorem end_loop {C:Ctx}(hIn:∀ (c:UInt8)(l:List UInt8),l.length<100000→SoundAt C 96 ⟨[vC c,vS l],looko []⟩ ⟨vB (l.contains c),looko []⟩){I:Nat→Prop}{Q:Ex→St→Prop}{s l:List UInt8}(hl:l.length<100000)(hs:s.length<4611686018427387904){r:Nat}
    (hT:∀ t,t 1=vI r→Q (.exit 0) (St.mk t (looko []))) :
    ∀ (m n:Nat),n+m=s.length→n+runN l.contains (s.drop n)=r→wpB C I g_ref07_end.l0 (St.mk (look [(0,vS s),(1,vI n),(2,vS l)]) (looko [])) Q:=by
  intro m
  induction m with
  | zero =>
    intro n hn hr
    refine w_loopC (L:=g_ref07_end.l0) rfl ?_
    have:n=s.length:=by omega
    subst this
    simp only [List.drop_length,runN,List.takeWhile_nil,List.length_nil,Nat.add_zero] at hr
    subst hr
    repeat (first|simp only [go_sem,Int.lt_irrefl,decide_false]|refine Unf.h ?_)
    exact hT _ rfl
  | succ m ih =>
    intro n hn hr
    refine w_loopC (L:=g_ref07_end.l0) rfl ?_
    have hlt:n<s.length:=by omega
    have hlt':((n:Int)<(s.length:Int)):=by omega
    have he:=List.getElem?_eq_getElem hlt
    rw [List.drop_eq_getElem_cons hlt] at hr
    have hw:IntKind.i64.wrap ((n:Int)+1)=((n+1:Nat):Int):=by rw [wrapI (by omega) (by omega)];omega
    have t1:=hIn s[n] l hl
    cases hp:l.contains s[n] with
    | false =>
      have e:runN l.contains (s[n]::s.drop (n+1))=0:=by rw [runN,List.takeWhile_cons,hp];rfl
      rw [e] at hr
      rw [hp] at t1
      subst hr
      repeat (first|simp only [go_sem,hlt',decide_true,Int.natCast_nonneg,Int.toNat_natCast,he,hw]|refine callK_plain t1 (fun _=>rfl) ?_|refine Unf.h ?_)
      exact hT _ rfl
    | true =>
      have e:runN l.contains (s[n]::s.drop (n+1))=runN l.contains (s.drop (n+1))+1:=by rw [runN,List.takeWhile_cons,hp];rfl
      rw [e] at hr
      rw [hp] at t1
      repeat (first|simp only [go_sem,hlt',decide_true,Int.natCast_nonneg,Int.toNat_natCast,he,hw]|refine callK_plain t1 (fun _=>rfl) ?_|refine Unf.h ?_)
      exact ih (n+1) (by omega) (by omega)
theorem refEnd {C:Ctx}(h:okFn C.P C.φ 97 g_ref07_end=true)(hIn:∀ (c:UInt8)(l:List UInt8),l.length<100000→SoundAt C 96 ⟨[vC c,vS l],looko []⟩ ⟨vB (l.contains c),looko []⟩)(s:List UInt8)(k:Nat)(l:List UInt8)(hk:k≤s.length)(hl:l.length<100000)(hs:s.length<4611686018427387904) :
    SoundAt C 97 ⟨[vS s,vI k,vS l],looko []⟩ ⟨vI ((k+runN l.contains (s.drop k):Nat):Int),looko []⟩:=by
  refine SoundAt.of_run h rfl (fun Q hR hN => ?_)
  rw [entry3]
  repeat (first|simp only [go_sem]|refine Unf.h ?_)
  refine end_loop hIn hl hs (r:=k+runN l.contains (s.drop k)) (fun t h1 => ?_) (s.length-k) k (by omega) rfl
  repeat (first|simp only [go_sem,h1]|refine Unf.h ?_)
  refine hR _ ?_
  simp only [go_sem]
def lettersL:List UInt8:=[97,98,99,100,101,102,103,104,105,106,107,108,109,110,111,112,113,114,115,116,117,118,119,120,121,122]
def digitsL:List UInt8:=[48,49,50,51,52,53,54,55,56,57]
theorem byte_all {f g:UInt8→Bool}(h:(List.range 256).all (fun n=>f (UInt8.ofNat n)==g (UInt8.ofNat n))=true)(c:UInt8):f c=g c:=by
  have:=List.all_eq_true.1 h c.toNat (List.mem_range.2 c.toNat_lt)
  simpa using this
theorem letters_eq (c:UInt8):lettersL.contains c=letB c:=byte_all (by decide +kernel) c
theorem digits_eq (c:UInt8):digitsL.contains c=digB c:=byte_all (by decide +kernel) c
theorem words_eq (c:UInt8):(lettersL++digitsL).contains c=wordB c:=byte_all (by decide +kernel) c
theorem nums_eq (c:UInt8):(digitsL++[46,37]).contains c=numB c:=byte_all (by decide +kernel) c
def wholeR (s:List UInt8):Bool:=s.all digB&&(decide (s.length>0)&&decide (s.length<10)&&(s.length==1||s.head? != some 48))
theorem whole_loop {C:Ctx}(hIn:∀ (c:UInt8)(l:List UInt8),l.length<100000→SoundAt C 96 ⟨[vC c,vS l],looko []⟩ ⟨vB (l.contains c),looko []⟩){I:Nat→Prop}{Q:Ex→St→Prop}{s:List UInt8}(hs:s.length<4611686018427387904){r:Bool}
    (hF:r=false→Q .ret (St.mk (look [(2,vB false)]) (looko []))) (hT:r=true→∀ t,t 0=vS s→Q (.exit 0) (St.mk t (looko []))) :
    ∀ (m n:Nat),n+m=s.length→(s.drop n).all digB=r→wpB C I g_ref07_whole.l0 (St.mk (look [(0,vS s),(3,vI n)]) (looko [])) Q:=by
  intro m
  induction m with
  | zero =>
    intro n hn hr
    refine w_loopC (L:=g_ref07_whole.l0) rfl ?_
    have:n=s.length:=by omega
    subst this
    rw [List.drop_length] at hr
    repeat (first|simp only [go_sem,Int.lt_irrefl,decide_false]|refine Unf.h ?_)
    exact hT hr.symm _ rfl
  | succ m ih =>
    intro n hn hr
    refine w_loopC (L:=g_ref07_whole.l0) rfl ?_
    have hlt:n<s.length:=by omega
    have hlt':((n:Int)<(s.length:Int)):=by omega
    have he:=List.getElem?_eq_getElem hlt
    rw [List.drop_eq_getElem_cons hlt,List.all_cons] at hr
    have hw:IntKind.i64.wrap ((n:Int)+1)=((n+1:Nat):Int):=by rw [wrapI (by omega) (by omega)];omega
    have t1:=hIn s[n] digitsL (by decide)
    rw [digits_eq] at t1
    cases hp:digB s[n] with
    | false =>
      rw [hp,Bool.false_and] at hr
      rw [hp] at t1
      repeat (first|simp only [go_sem,hlt',decide_true,Int.natCast_nonneg,Int.toNat_natCast,he,hw]|refine callK_plain t1 (fun _=>rfl) ?_|refine Unf.h ?_)
      exact hF hr.symm
    | true =>
      rw [hp,Bool.true_and] at hr
      rw [hp] at t1
      repeat (first|simp only [go_sem,hlt',decide_true,Int.natCast_nonneg,Int.toNat_natCast,he,hw]|refine callK_plain t1 (fun _=>rfl) ?_|refine Unf.h ?_)
      exact ih (n+1) (by omega) hr
theorem refWhole {C:Ctx} (h:okFn C.P C.φ 111 g_ref07_whole=true) (hIn:∀ (c:UInt8) (l:List UInt8),l.length<100000→SoundAt C 96 ⟨[vC c,vS l],looko []⟩ ⟨vB (l.contains c),looko []⟩) (s:List UInt8) (hs:s.length<100000) :
    SoundAt C 111 ⟨[vS s],looko []⟩ ⟨vB (wholeR s),looko []⟩:=by
  refine SoundAt.of_run h rfl (fun Q hR hN => ?_)
  rw [entry1]
  repeat (first|simp only [go_sem]|refine Unf.h ?_)
  refine whole_loop hIn (by omega) (s:=s) (r:=s.all digB) (fun hr => ?_) (fun hr t h0 => ?_) s.length 0 (by omega) rfl
  · refine hR _ ?_
    simp only [go_sem,wholeR,hr,Bool.false_and]
  · have e:wholeR s=(decide (s.length>0)&&decide (s.length<10)&&(s.length==1||s.head? != some 48)):=by rw [wholeR,hr,Bool.true_and]
    by_cases h1:s.length>0
    · have h1':((s.length:Int)>0):=by omega
      by_cases h2:s.length<10
      · have h2':((s.length:Int)<10):=by omega
        obtain ⟨c,hc⟩:∃ c,s[0]? = some c:=⟨s[0],List.getElem?_eq_getElem h1⟩
        have hh:(s.head? != some (48:UInt8))=(c != 48):=by rw [List.head?_eq_getElem?,hc];simp [bne]
        have e2:((c.toNat:Int) != 48)=(c != 48):=congrArg (!·) (byte_eq c 48)
        rw [decide_eq_true h1,decide_eq_true h2,Bool.true_and,Bool.true_and,hh] at e
        by_cases h3:s.length=1
        · have h3':((s.length:Int)==1)=true:=by rw [beq_iff_eq];omega
          have h4:(s.length==1)=true:=by rw [beq_iff_eq];omega
          rw [h4,Bool.true_or] at e
          repeat (first|simp only [go_sem,h0,h1',h2',h3',decide_true]|refine Unf.h ?_)
          refine hR _ ?_
          simp only [go_sem,e]
        · have h3':((s.length:Int)==1)=false:=by rw [beq_eq_false_iff_ne];omega
          have h4:(s.length==1)=false:=by rw [beq_eq_false_iff_ne];omega
          rw [h4,Bool.false_or] at e
          repeat (first|simp only [go_sem,h0,h1',h2',h3',decide_true,Int.le_refl,hc,e2]|refine Unf.h ?_)
          refine hR _ ?_
          simp only [go_sem,e]
      · have h2':¬((s.length:Int)<10):=by omega
        rw [decide_eq_false h2,Bool.and_false,Bool.false_and] at e
        repeat (first|simp only [go_sem,h0,h1',h2',decide_true,decide_false]|refine Unf.h ?_)
        refine hR _ ?_
        simp only [go_sem,e]
    · have h1':¬((s.length:Int)>0):=by omega
      rw [decide_eq_false h1,Bool.false_and,Bool.false_and] at e
      repeat (first|simp only [go_sem,h0,h1',decide_false]|refine Unf.h ?_)
      refine hR _ ?_
      simp only [go_sem,e]
def kindR (s:List UInt8):Int:=if (parseR s).2=true then 3 else if (refRateP s).2=true then 4 else if wholeR s=true then 2 else 0
theorem refKind {C:Ctx}(h:okFn C.P C.φ 98 g_ref07_kind=true)(hP:∀ s:List UInt8,s.length<100000→SoundAt C 52 ⟨[vS s],looko []⟩ ⟨vIB (parseR s),looko []⟩)
    (hRt:∀ s:List UInt8,SoundAt C 93 ⟨[vS s],looko []⟩ ⟨vIB (refRateP s),looko []⟩) (hW:∀ s:List UInt8,s.length<100000→SoundAt C 111 ⟨[vS s],looko []⟩ ⟨vB (wholeR s),looko []⟩) (s:List UInt8) (hs:s.length<100000) :
    SoundAt C 98 ⟨[vS s],looko []⟩ ⟨vI (kindR s),looko []⟩:=by
  refine SoundAt.of_run h rfl (fun Q hR hN => ?_)
  rw [entry1]
  have t1:=hP s hs
  have t2:=hRt s
  have t3:=hW s hs
  cases h1:(parseR s).2 <;> cases h2:(refRateP s).2 <;> cases h3:wholeR s
  all_goals (
    rw [h3] at t3
    repeat' (first|simp only [go_sem,h1,h2,kindR,h3]|refine Unf.h ?_|refine callK_plain (t1) (fun _=>rfl) ?_|refine callK_plain (t2) (fun _=>rfl) ?_|refine callK_plain (t3) (fun _=>rfl) ?_|refine hR _ ?_|split))
end Pay
