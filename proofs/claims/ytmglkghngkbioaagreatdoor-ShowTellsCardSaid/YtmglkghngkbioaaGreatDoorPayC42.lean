/- Contracts: the texts of rates, and what is parsed as one; the document's are the same. -/
import Derived.Test.YtmglkghngkbioaaGreatDoorPayC34
set_option linter.unusedSimpArgs false
set_option linter.unusedVariables false
set_option maxHeartbeats 1000000
namespace Pay
open Go
attribute [local irreducible] wpB opsB treeB drawB
def hasSuf (s p:List UInt8):Bool:=decide (p.length≤s.length)&&(s.drop (s.length-p.length)==p)
def cutSuf (s p:List UInt8):List UInt8 × Bool:=if hasSuf s p=true then (s.take (s.length-p.length),true) else (s,false)
theorem cutSuffix {C:Ctx} (h1:okFn C.P C.φ 101 g_strings_CutSuffix=true) (h2:okFn C.P C.φ 122 g_internal_stringslite_CutSuffix=true) (h3:okFn C.P C.φ 141 g_internal_stringslite_HasSuffix=true) (s p:List UInt8) (hs:s.length<4611686018427387904) :
    SoundAt C 101 ⟨[vS s,vS p],looko []⟩ ⟨.tup [vS (cutSuf s p).1,vB (cutSuf s p).2],looko []⟩:=by
  have t3:SoundAt C 141 ⟨[vS s,vS p],looko []⟩ ⟨vB (hasSuf s p),looko []⟩:=by
    refine SoundAt.of_run h3 rfl (fun Q hR hN => ?_)
    rw [entry2]
    by_cases hl:p.length≤s.length
    · have hl':((s.length:Int)≥(p.length:Int)):=by omega
      have hw:IntKind.i64.wrap ((s.length:Int)-(p.length:Int))=((s.length-p.length:Nat):Int):=by rw [wrapI (by omega) (by omega)];omega
      have e1:((s.length-p.length:Nat):Int)≤(s.length:Int):=by omega
      have hd:decide (p.length≤s.length)=true:=decide_eq_true hl
      repeat' (first|simp only [go_sem,hl',hw,e1,decide_true,Int.natCast_nonneg,Int.toNat_natCast,and_self,if_true,Int.le_refl,List.take_length]|refine Unf.h ?_|refine hR _ ?_|split)
      all_goals (simp only [hasSuf,hd,Bool.true_and])
    · have hl':¬((s.length:Int)≥(p.length:Int)):=by omega
      have hd:decide (p.length≤s.length)=false:=decide_eq_false hl
      repeat' (first|simp only [go_sem,hl',decide_false]|refine Unf.h ?_|refine hR _ ?_|split)
      all_goals (simp only [hasSuf,hd,Bool.false_and])
  have t2:SoundAt C 122 ⟨[vS s,vS p],looko []⟩ ⟨.tup [vS (cutSuf s p).1,vB (cutSuf s p).2],looko []⟩:=by
    refine SoundAt.of_run h2 rfl (fun Q hR hN => ?_)
    rw [entry2]
    cases hh:hasSuf s p with
    | true =>
      have hl:p.length≤s.length:=by
        simp only [hasSuf,Bool.and_eq_true,decide_eq_true_eq] at hh;exact hh.1
      have hw:IntKind.i64.wrap ((s.length:Int)-(p.length:Int))=((s.length-p.length:Nat):Int):=by rw [wrapI (by omega) (by omega)];omega
      have e1:((s.length-p.length:Nat):Int)≤(s.length:Int):=by omega
      repeat' (first|simp only [go_sem,hw,e1,Int.natCast_nonneg,Int.toNat_natCast,and_self,if_true,hh,cutSuf]|refine Unf.h ?_|refine callK_plain (t3) (fun _=>rfl) ?_|refine hR _ ?_|split)
    | false =>
      repeat' (first|simp only [go_sem,hh,cutSuf]|refine Unf.h ?_|refine callK_plain (t3) (fun _=>rfl) ?_|refine hR _ ?_|split)
  refine SoundAt.of_run h1 rfl (fun Q hR hN => ?_)
  rw [entry2]
  repeat' (first|simp only [go_sem]|refine Unf.h ?_|refine callK_plain (t2) (fun _=>rfl) ?_|refine hR _ ?_|split)
def rateR (n:Int):Bool:=decide (n≥0)&&decide (n≤10000)
theorem rateR_iff {n:Int}:rateR n=true↔0≤n∧n≤10000:=by simp only [rateR,Bool.and_eq_true,decide_eq_true_eq]
theorem rateRight {C:Ctx}(h:okFn C.P C.φ 88 g_rate_Right=true)(n:Int):SoundAt C 88 ⟨[vI n],looko []⟩ ⟨vB (rateR n),looko []⟩:=by
  refine SoundAt.of_run h rfl (fun Q hR hN => ?_)
  rw [entry1]
  repeat' (first|simp only [go_sem]|refine Unf.h ?_|refine hR _ ?_|split)
  all_goals (clear hR hN;simp_all only [rateR,decide_true,decide_false,Bool.true_and,Bool.false_and])
def rateTextS (n:Int):List UInt8 × Int:=if rateR n=true then (textR n++[37],0) else ([],1)
theorem rateText {C:Ctx}(h:okFn C.P C.φ 91 g_rate_Text=true)(hR':∀ n,SoundAt C 88 ⟨[vI n],looko []⟩ ⟨vB (rateR n),looko []⟩)(hT:∀ n,SoundAt C 50 ⟨[vI n],looko []⟩ ⟨vSE (textS n),looko []⟩)(n:Int) :
    SoundAt C 91 ⟨[vI n],looko []⟩ ⟨vSE (rateTextS n),looko []⟩:=by
  refine SoundAt.of_run h rfl (fun Q hR hN => ?_)
  rw [entry1]
  cases hh:rateR n with
  | true =>
    have hb:=rateR_iff.1 hh
    have e:=textS_eq (n:=n) (decide_eq_true (by omega)) (by omega)
    have hl:(textR n).length+1≤9223372036854775807:=by
      rw [textR,if_neg (by omega)]
      have:=textN_len n.toNat (by omega)
      omega
    repeat' (first|simp only [go_sem,hh,e,rateTextS,hl]|refine Unf.h ?_|refine callK_plain (hR' _) (fun _=>rfl) ?_|refine callK_plain (hT _) (fun _=>rfl) ?_|refine hR _ ?_|split)
  | false =>
    repeat' (first|simp only [go_sem,hh,rateTextS]|refine Unf.h ?_|refine callK_plain (hR' _) (fun _=>rfl) ?_|refine callK_plain (hT _) (fun _=>rfl) ?_|refine hR _ ?_|split)
def rateP (s:List UInt8):Int × Bool :=
  if (cutSuf s [37]).2=true∧(parseS (cutSuf s [37]).1).2=true∧rateR (parseS (cutSuf s [37]).1).1=true then ((parseS (cutSuf s [37]).1).1,true) else (0,false)
theorem cutSuf_len (s p:List UInt8):(cutSuf s p).1.length≤s.length:=by
  unfold cutSuf
  split
  · simp only [List.length_take];omega
  · exact Nat.le_refl _
theorem rateParse {C:Ctx}(h:okFn C.P C.φ 92 g_rate_Parse=true)(hC:∀ s p:List UInt8,s.length<4611686018427387904→SoundAt C 101 ⟨[vS s,vS p],looko []⟩ ⟨.tup [vS (cutSuf s p).1,vB (cutSuf s p).2],looko []⟩)
    (hP:∀ s:List UInt8,s.length<100000→SoundAt C 51 ⟨[vS s],looko []⟩ ⟨vIB (parseS s),looko []⟩) (hR':∀ n,SoundAt C 88 ⟨[vI n],looko []⟩ ⟨vB (rateR n),looko []⟩) (s:List UInt8) (hs:s.length<100000) :
    SoundAt C 92 ⟨[vS s],looko []⟩ ⟨vIB (rateP s),looko []⟩:=by
  have hl:=cutSuf_len s [37]
  refine SoundAt.of_run h rfl (fun Q hR hN => ?_)
  rw [entry1]
  cases e1:(cutSuf s [37]).2 <;> cases e2:(parseS (cutSuf s [37]).1).2 <;> cases e3:rateR (parseS (cutSuf s [37]).1).1
  all_goals (
    repeat' (first|simp only [go_sem,e1,e2,e3,rateP,and_false,false_and,and_self]|refine Unf.h ?_|refine callK_plain (hC _ _ (by omega)) (fun _=>rfl) ?_|refine callK_plain (hP _ (by omega)) (fun _=>rfl) ?_|refine callK_plain (hR' _) (fun _=>rfl) ?_|refine hR _ ?_|split))
def refRateT (n:Int):List UInt8:=textR n++[37]
theorem refRateText {C:Ctx}(h:okFn C.P C.φ 94 g_ref03_Text=true)(hT:∀ n:Int,-9223372036854775808<n→n<9223372036854775808→SoundAt C 54 ⟨[vI n],looko []⟩ ⟨vS (textR n),looko []⟩)(n:Int)(h0:0≤n)(h1:n≤10000) :
    SoundAt C 94 ⟨[vI n],looko []⟩ ⟨vS (refRateT n),looko []⟩:=by
  have hl:(textR n).length+1≤9223372036854775807:=by
    rw [textR,if_neg (by omega)]
    have:=textN_len n.toNat (by omega)
    omega
  refine SoundAt.of_run h rfl (fun Q hR hN => ?_)
  rw [entry1]
  repeat' (first|simp only [go_sem,hl,refRateT]|refine Unf.h ?_|refine callK_plain (hT _ (by omega) (by omega)) (fun _=>rfl) ?_|refine hR _ ?_|split)
def isRate (s:List UInt8)(n:Nat):Bool:=decide (s.length<9)&&(refRateT n==s)
def refRateP (s:List UInt8):Int × Bool:=match (List.range' 0 10001).find? (isRate s) with|some n=>((n:Int),true)|none=>(0,false)
theorem refRate_loop {C:Ctx} (hT:∀ n:Int,0≤n→n≤10000→SoundAt C 94 ⟨[vI n],looko []⟩ ⟨vS (refRateT n),looko []⟩) {I:Nat→Prop} {Q:Ex→St→Prop} {s:List UInt8} {r:Option Nat}
    (hF:r=none→∀ t,Q (.exit 0) (St.mk t (looko []))) (hY:∀ n:Nat,r=some n→Q .ret (St.mk (look [(2,vI n),(3,vB true)]) (looko []))) :
    ∀ (m k:Nat),k+m=10001→(List.range' k m).find? (isRate s)=r→wpB C I g_ref03_Parse.l0 (St.mk (look [(0,vS s),(4,vI k)]) (looko [])) Q:=by
  intro m
  induction m with
  | zero =>
    intro k hk hr
    refine w_loopC (L:=g_ref03_Parse.l0) rfl ?_
    have hlt:¬((k:Int)≤10000):=by omega
    simp only [go_sem,hlt,decide_false]
    exact hF hr.symm _
  | succ m ih =>
    intro k hk hr
    refine w_loopC (L:=g_ref03_Parse.l0) rfl ?_
    have hlt:((k:Int)≤10000):=by omega
    have hw:IntKind.i64.wrap ((k:Int)+1)=((k+1:Nat):Int):=by rw [wrapI (by omega) (by omega)];omega
    rw [List.range'_succ,List.find?_cons] at hr
    by_cases hl:s.length<9
    · have hl':((s.length:Int)<9):=by omega
      by_cases he:refRateT k=s
      · have e:isRate s k=true:=by simp [isRate,hl,he]
        rw [e] at hr
        have he':(refRateT k==s)=true:=by simpa using he
        repeat (first|simp only [go_sem,hlt,decide_true,hl',he']|refine callK_plain (hT _ (by omega) (by omega)) (fun _=>rfl) ?_|refine Unf.h ?_)
        exact hY k hr.symm
      · have e:isRate s k=false:=by simp [isRate,hl,he]
        rw [e] at hr
        have he':(refRateT k==s)=false:=by simpa using he
        repeat (first|simp only [go_sem,hlt,decide_true,hl',he',hw]|refine callK_plain (hT _ (by omega) (by omega)) (fun _=>rfl) ?_|refine Unf.h ?_)
        exact ih (k+1) (by omega) hr
    · have hl':¬((s.length:Int)<9):=by omega
      have e:isRate s k=false:=by simp [isRate,hl]
      rw [e] at hr
      repeat (first|simp only [go_sem,hlt,decide_true,decide_false,hl',hw]|refine Unf.h ?_)
      exact ih (k+1) (by omega) hr
theorem refRateParse {C:Ctx}(h:okFn C.P C.φ 93 g_ref03_Parse=true)(hT:∀ n:Int,0≤n→n≤10000→SoundAt C 94 ⟨[vI n],looko []⟩ ⟨vS (refRateT n),looko []⟩)(s:List UInt8):SoundAt C 93 ⟨[vS s],looko []⟩ ⟨vIB (refRateP s),looko []⟩:=by
  refine SoundAt.of_run h rfl (fun Q hR hN => ?_)
  rw [entry1]
  repeat (first|simp only [go_sem]|refine Unf.h ?_)
  refine refRate_loop hT (s:=s) (r:=(List.range' 0 10001).find? (isRate s)) (fun hr t => ?_) (fun n hr => ?_) 10001 0 (by omega) rfl
  · repeat (first|simp only [go_sem]|refine Unf.h ?_)
    refine hR _ ?_
    simp only [go_sem,refRateP,hr]
  · refine hR _ ?_
    simp only [go_sem,refRateP,hr]
theorem hasSuf_snoc (l:List UInt8)(c:UInt8):hasSuf (l++[c]) [c]=true:=by simp [hasSuf]
theorem cutSuf_snoc (l:List UInt8)(c:UInt8):cutSuf (l++[c]) [c]=(l,true):=by
  rw [cutSuf,if_pos (hasSuf_snoc l c)]
  simp
theorem cutSuf_ok {s:List UInt8}{c:UInt8}(h:(cutSuf s [c]).2=true):s=(cutSuf s [c]).1++[c]:=by
  unfold cutSuf at h ⊢
  split at h
  · rename_i hh
    rw [if_pos hh]
    simp only [hasSuf,Bool.and_eq_true,decide_eq_true_eq,beq_iff_eq] at hh
    have e:=List.take_append_drop (s.length-[c].length) s
    rw [hh.2] at e
    exact e.symm
  · cases h
theorem rateP_text {n:Int}(h0:0≤n)(h1:n≤10000):rateP (refRateT n)=(n,true):=by
  have e:parseS (textR n)=(n,true):=parseS_text (by omega) (by omega)
  unfold rateP refRateT
  rw [cutSuf_snoc,e]
  exact if_pos ⟨rfl,rfl,rateR_iff.2 ⟨h0,h1⟩⟩
theorem rateP_ok {s:List UInt8}(h:(rateP s).2=true):s=refRateT (rateP s).1∧0≤(rateP s).1∧(rateP s).1≤10000:=by
  unfold rateP at h ⊢
  split at h
  · rename_i hh
    rw [if_pos hh]
    obtain ⟨h1,h2,h3⟩:=hh
    have e1:=cutSuf_ok h1
    have e2:=(parseS_ok h2).1
    have hb:=rateR_iff.1 h3
    refine ⟨?_,hb.1,hb.2⟩
    simp only
    rw [refRateT,← e2]
    exact e1
  · cases h
theorem rateP_no {s:List UInt8}(h:(rateP s).2=false):(rateP s).1=0:=by
  unfold rateP at h ⊢
  split at h
  · cases h
  · rename_i hh;rw [if_neg hh]
theorem decLen4 {n:Nat}(h:n≤100):(Lib.decDigits n).length≤3:=by
  rw [Lib.decDigits_length,Lib.nDigits]
  split
  · omega
  · rw [Lib.nDigits]
    split
    · omega
    · rw [Lib.nDigits]
      split
      · omega
      · omega
theorem refRateT_len {n:Int}(h0:0≤n)(h1:n≤10000):(refRateT n).length≤7:=by
  unfold refRateT textR
  rw [if_neg (by omega),textN_eq]
  have:=decLen4 (n:=n.toNat / 100) (by omega)
  simp
  omega
theorem rate_same (s:List UInt8):refRateP s=rateP s:=by
  unfold refRateP
  cases hf:(List.range' 0 10001).find? (isRate s) with
  | some n =>
    have h1:=List.find?_some hf
    have h2:=List.mem_of_find?_eq_some hf
    rw [List.mem_range'] at h2
    obtain ⟨i,hi,rfl⟩:=h2
    simp only [isRate,Bool.and_eq_true,decide_eq_true_eq,beq_iff_eq] at h1
    rw [← h1.2,rateP_text (by omega) (by omega)]
  | none =>
    simp only
    cases hb:(rateP s).2 with
    | false =>
      have:=rateP_no hb
      rw [← hb,← this]
    | true =>
      obtain ⟨e,h0,h1⟩:=rateP_ok hb
      have hn:=List.find?_eq_none.1 hf (rateP s).1.toNat (by rw [List.mem_range'];exact ⟨(rateP s).1.toNat,by omega,by omega⟩)
      exfalso
      apply hn
      have hl:=refRateT_len h0 h1
      have e':((rateP s).1.toNat:Int)=(rateP s).1:=by omega
      simp only [isRate,Bool.and_eq_true,decide_eq_true_eq,beq_iff_eq]
      rw [e']
      exact ⟨by rw [e];omega,e.symm⟩
end Pay
