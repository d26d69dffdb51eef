/- Contracts: bytes, runs, and figures of a rule set's text. -/
import Derived.Test.YtmglkghngkbioaaGreatDoorPayC32
set_option linter.unusedSimpArgs false
set_option linter.unusedVariables false
set_option maxHeartbeats 1000000
namespace Pay
open Go
attribute [local irreducible] wpB opsB treeB drawB
abbrev vC (c:UInt8):V:=.d (.int .u8 (c.toNat:Int))
def letB (c:UInt8):Bool:=decide ((c.toNat:Int)≥97)&&decide ((c.toNat:Int)≤122)
def digB (c:UInt8):Bool:=decide ((c.toNat:Int)≥48)&&decide ((c.toNat:Int)≤57)
theorem digB_iff {c:UInt8}:digB c=true↔48≤c.toNat∧c.toNat≤57:=by simp only [digB,Bool.and_eq_true,decide_eq_true_eq];omega
def wordB (c:UInt8):Bool:=letB c||digB c
def numB (c:UInt8):Bool:=digB c||c==46||c==37
def lineB (c:UInt8):Bool:=c != 10
theorem byte_eq (c d:UInt8):((c.toNat:Int)==(d.toNat:Int))=(c==d):=by
  by_cases h:c=d
  · subst h;simp
  · have:c.toNat≠d.toNat:=fun e=>h (UInt8.toNat_inj.1 e)
    have h2:¬((c.toNat:Int)=(d.toNat:Int)):=by omega
    rw [beq_eq_false_iff_ne.2 h2,beq_eq_false_iff_ne.2 h]
theorem lexLetter {C:Ctx}(h:okFn C.P C.φ 105 g_lex_letter=true)(c:UInt8):SoundAt C 105 ⟨[vC c],looko []⟩ ⟨vB (letB c),looko []⟩:=by
  refine SoundAt.of_run h rfl (fun Q hR hN => ?_)
  rw [entry1]
  repeat' (first|simp only [go_sem]|refine Unf.h ?_|refine hR _ ?_|split)
  all_goals (clear hR hN;simp_all only [letB,decide_true,decide_false,Bool.true_and,Bool.false_and])
theorem lexDigit {C:Ctx}(h:okFn C.P C.φ 107 g_lex_digit=true)(c:UInt8):SoundAt C 107 ⟨[vC c],looko []⟩ ⟨vB (digB c),looko []⟩:=by
  refine SoundAt.of_run h rfl (fun Q hR hN => ?_)
  rw [entry1]
  repeat' (first|simp only [go_sem]|refine Unf.h ?_|refine hR _ ?_|split)
  all_goals (clear hR hN;simp_all only [digB,decide_true,decide_false,Bool.true_and,Bool.false_and])
theorem lexWordB {C:Ctx}(h:okFn C.P C.φ 106 g_lex_one_1=true)(hL:∀ c,SoundAt C 105 ⟨[vC c],looko []⟩ ⟨vB (letB c),looko []⟩)(hD:∀ c,SoundAt C 107 ⟨[vC c],looko []⟩ ⟨vB (digB c),looko []⟩)(c:UInt8) :
    SoundAt C 106 ⟨[vC c],looko []⟩ ⟨vB (wordB c),looko []⟩:=by
  refine SoundAt.of_run h rfl (fun Q hR hN => ?_)
  rw [entry1]
  repeat' (first|simp only [go_sem]|refine Unf.h ?_|refine callK_plain (hL _) (fun _=>rfl) ?_|refine callK_plain (hD _) (fun _=>rfl) ?_|refine hR _ ?_|split)
  all_goals (clear hR hN;simp_all [wordB])
theorem lexNumB {C:Ctx}(h:okFn C.P C.φ 108 g_lex_one_2=true)(hD:∀ c,SoundAt C 107 ⟨[vC c],looko []⟩ ⟨vB (digB c),looko []⟩)(c:UInt8) :
    SoundAt C 108 ⟨[vC c],looko []⟩ ⟨vB (numB c),looko []⟩:=by
  have e1:((c.toNat:Int)==46)=(c==46):=byte_eq c 46
  have e2:((c.toNat:Int)==37)=(c==37):=byte_eq c 37
  refine SoundAt.of_run h rfl (fun Q hR hN => ?_)
  rw [entry1]
  repeat' (first|simp only [go_sem,e1,e2]|refine Unf.h ?_|refine callK_plain (hD _) (fun _=>rfl) ?_|refine hR _ ?_|split)
  all_goals (clear hR hN;simp_all [numB])
theorem lexLineB {C:Ctx}(h:okFn C.P C.φ 103 g_lex_All_1=true)(c:UInt8):SoundAt C 103 ⟨[vC c],looko []⟩ ⟨vB (lineB c),looko []⟩:=by
  have e1:((c.toNat:Int) != 10)=(c != 10):=congrArg (!·) (byte_eq c 10)
  refine SoundAt.of_run h rfl (fun Q hR hN => ?_)
  rw [entry1]
  repeat' (first|simp only [go_sem,e1]|refine Unf.h ?_|refine hR _ ?_|split)
  all_goals (clear hR hN;rfl)
def runN (p:UInt8→Bool)(t:List UInt8):Nat:=(t.takeWhile p).length
theorem runN_le (p:UInt8→Bool)(t:List UInt8):runN p t≤t.length:=(List.takeWhile_prefix (p:=p) (l:=t)).length_le
theorem run_loop {C:Ctx}{f:Nat}{p:UInt8→Bool}(hf:∀ c,SoundAt C f ⟨[vC c],looko []⟩ ⟨vB (p c),looko []⟩){I:Nat→Prop}{Q:Ex→St→Prop}{s:List UInt8}(hs:s.length<4611686018427387904){k r:Nat}
    (hT:∀ t,t 1=vI k→t 7=vI r→Q (.exit 0) (St.mk t (looko []))) :
    ∀ (m n:Nat),n+m=s.length→n+runN p (s.drop n)=r→wpB C I g_lex_run.l0 (St.mk (look [(0,vS s),(1,vI k),(2,.fn f []),(7,vI n)]) (looko [])) Q:=by
  intro m
  induction m with
  | zero =>
    intro n hn hr
    refine w_loopC (L:=g_lex_run.l0) rfl ?_
    have:n=s.length:=by omega
    subst this
    simp only [List.drop_length,runN,List.takeWhile_nil,List.length_nil,Nat.add_zero] at hr
    subst hr
    repeat (first|simp only [go_sem,Int.lt_irrefl,decide_false]|refine Unf.h ?_)
    exact hT _ rfl rfl
  | succ m ih =>
    intro n hn hr
    refine w_loopC (L:=g_lex_run.l0) rfl ?_
    have hlt:n<s.length:=by omega
    have hlt':((n:Int)<(s.length:Int)):=by omega
    have he:=List.getElem?_eq_getElem hlt
    rw [List.drop_eq_getElem_cons hlt] at hr
    have hw:IntKind.i64.wrap ((n:Int)+1)=((n+1:Nat):Int):=by rw [wrapI (by omega) (by omega)];omega
    repeat (first|simp only [go_sem,hlt',decide_true,Int.natCast_nonneg,Int.toNat_natCast,he]|refine Unf.h ?_)
    refine callK_plain (hf _) (fun _=>rfl) ?_
    cases hp:p s[n] with
    | false =>
      have e:runN p (s[n]::s.drop (n+1))=0:=by rw [runN,List.takeWhile_cons,hp];rfl
      rw [e] at hr
      subst hr
      repeat (first|simp only [go_sem,hp]|refine Unf.h ?_)
      exact hT _ rfl rfl
    | true =>
      have e:runN p (s[n]::s.drop (n+1))=runN p (s.drop (n+1))+1:=by rw [runN,List.takeWhile_cons,hp];rfl
      rw [e] at hr
      repeat (first|simp only [go_sem,hp,hw]|refine Unf.h ?_)
      exact ih (n+1) (by omega) (by omega)
theorem lexRun {C:Ctx}(h:okFn C.P C.φ 102 g_lex_run=true){f:Nat}{p:UInt8→Bool}(hf:∀ c,SoundAt C f ⟨[vC c],looko []⟩ ⟨vB (p c),looko []⟩)(s:List UInt8)(hs:s.length<4611686018427387904)(k:Nat)(hk:k≤s.length) :
    SoundAt C 102 ⟨[vS s,vI k,.fn f []],looko []⟩ ⟨vI (runN p (s.drop k)),looko []⟩:=by
  have hl:=runN_le p (s.drop k)
  rw [List.length_drop] at hl
  have hw:IntKind.i64.wrap (((k+runN p (s.drop k):Nat):Int)-(k:Int))=(runN p (s.drop k):Int):=by rw [wrapI (by omega) (by omega)];omega
  refine SoundAt.of_run h rfl (fun Q hR hN => ?_)
  rw [entry3]
  repeat (first|simp only [go_sem]|refine Unf.h ?_)
  refine run_loop hf hs (k:=k) (r:=k+runN p (s.drop k)) (fun t h1 h7 => ?_) (s.length-k) k (by omega) rfl
  repeat (first|simp only [go_sem,h1,h7,hw]|refine Unf.h ?_)
  refine hR _ ?_
  simp only [go_sem]
theorem hasPrefix {C:Ctx} (h1:okFn C.P C.φ 123 g_strings_HasPrefix=true) (h2:okFn C.P C.φ 131 g_internal_stringslite_HasPrefix=true) (s p:List UInt8):SoundAt C 123 ⟨[vS s,vS p],looko []⟩ ⟨vB (p.isPrefixOf s),looko []⟩:=by
  have in_:SoundAt C 131 ⟨[vS s,vS p],looko []⟩ ⟨vB (p.isPrefixOf s),looko []⟩:=by
    refine SoundAt.of_run h2 rfl (fun Q hR hN => ?_)
    rw [entry2]
    by_cases hl:p.length≤s.length
    · have hl':((s.length:Int)≥(p.length:Int)):=by omega
      have hl2:((p.length:Int)≤(s.length:Int)):=by omega
      have e:(s.take p.length==p)=p.isPrefixOf s:=by
        rw [Bool.eq_iff_iff,beq_iff_eq,List.isPrefixOf_iff_prefix,List.prefix_iff_eq_take]
        exact eq_comm
      repeat' (first|simp only [go_sem,hl',hl2,decide_true,Int.natCast_nonneg,Int.toNat_natCast,e,and_self,if_true]|refine Unf.h ?_|refine hR _ ?_|split)
    · have hl':¬((s.length:Int)≥(p.length:Int)):=by omega
      have e:p.isPrefixOf s=false:=by
        rw [Bool.eq_false_iff]
        intro h
        exact hl (List.isPrefixOf_iff_prefix.1 h).length_le
      repeat' (first|simp only [go_sem,hl',decide_false,e]|refine Unf.h ?_|refine hR _ ?_|split)
  refine SoundAt.of_run h1 rfl (fun Q hR hN => ?_)
  rw [entry2]
  repeat' (first|simp only [go_sem]|refine Unf.h ?_|refine callK_plain (in_) (fun _=>rfl) ?_|refine hR _ ?_|split)
end Pay
