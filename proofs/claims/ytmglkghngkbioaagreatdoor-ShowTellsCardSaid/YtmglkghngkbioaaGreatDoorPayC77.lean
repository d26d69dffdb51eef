/- Contracts: the document's parser of rule sets, whole. -/
import Derived.Test.YtmglkghngkbioaaGreatDoorPayC76
set_option linter.unusedSimpArgs false
set_option linter.unusedVariables false
set_option maxHeartbeats 1000000
namespace Pay
open Go
attribute [local irreducible] wpB opsB treeB drawB
theorem slV_owns {α:Type}(f:α→List D)(l:List α):V.owns (slV f l)=[]:=by cases l <;> rfl
abbrev vPar (x:Prog × Int × Int):V:=.tup [.agg [slV encRl x.1.rules,slV encX x.1.exprs],vI x.2.1,vI x.2.2]
theorem vPar_up (x:Prog × Int × Int):(vPar x).up=vParse x:=by
  simp only [vPar,vParse,V.up,V.ups,slV_up]
theorem ref8Parse {C:Ctx} (h:okFn C.P C.φ 173 g_ref08_Parse=true) (K:R8K C) (hE:HExC C 196 [vI 1] (fun en=>exprP en 20)) (hLex:∀ s:List UInt8,s.length<100000→SoundAt C 75 ⟨[vS s],looko []⟩ ⟨vLexR (lexR s),looko []⟩) (s:List UInt8) (hs:s.length<100000) :
    SoundAt C 173 ⟨[vS s],looko []⟩ ⟨vParse (parseP s),looko []⟩:=by
  have tl:=hLex s hs
  rw [lex_same] at tl
  rw [← vPar_up]
  refine SoundAt.res_up ?_
  cases hl:lexS s with|mk ts o =>
  rw [hl] at tl
  cases o with
  | some e =>
    have e0:parseP s=((⟨[],[]⟩:Prog),(e:Int),(2:Int)):=by unfold parseP;rw [hl]
    rw [e0]
    have hge:((e:Int)≥0):=by omega
    refine SoundAt.of_run h rfl (fun Q hR hN => ?_)
    rw [entry1]
    repeat (first|simp only [go_sem,vLexR,hge,decide_true]|refine Unf.h ?_|refine callK_plain (tl) (fun _=>rfl) ?_)
    refine hR _ ?_
    rw [ends_frz]
    simp only [go_sem,vPar,slV]
  | none =>
    have hp:=lex_PK hs hl
    have e0:parseP s=parseT s.length ts:=by unfold parseP;rw [hl]
    rw [e0]
    have e24:atN ts ts=0:=by simp [atN]
    have ne:¬((-1:Int)≥0):=by omega
    refine SoundAt.of_run h rfl (fun Q hR hN => ?_)
    rw [entry1]
    have lp:∀ {I:Nat→Prop} {Q:Ex→St→Prop},(∀ n,¬I n)→(∀ t,t 2 = .ptr 2 0→t 7 = .ptr 7 0→PK ts (progL s.length ts.length (ps0 ts))→Q (.exit 0) (St.mk t (looko (mP ts s.length (progL s.length ts.length (ps0 ts)))))) →
        wpB C I g_ref08_Parse.l0 (St.mk (look [(2,.ptr 2 0),(5,.d (.sl (ts.map encT))),(7,.ptr 7 0)]) (looko [(2,some zP),(7,some (.box [.d (.sl (ts.map encT)),vI s.length,vI 0,.cap0,.cap0,vI 0,vI 0])),(108,none)])) Q:=by
      intro I Q hI hT
      have e:wpB C I g_ref08_Parse.l0 (St.mk (look [(2,.ptr 2 0),(5,.d (.sl (ts.map encT))),(7,.ptr 7 0)]) (looko [(2,some zP),(7,some (.box [.d (.sl (ts.map encT)),vI s.length,vI (atN ts ts:Nat),.cap0,.cap0,vI 0,vI 0])),(108,none)])) Q :=
        parse8_loop (I:=I) (Q:=Q) (en:=s.length) (res:=progL s.length ts.length (ps0 ts)) K hE hI hT ts.length (ps0 ts) hp (.inl (Nat.le_refl _)) rfl
      rw [e24] at e
      exact e
    unfold parseT at hR
    dsimp only at hR
    generalize progL s.length ts.length (ps0 ts)=z at *
    repeat (first|simp only [go_sem,vLexR,ne,decide_false]|refine Unf.h ?_|refine callK_plain (tl) (fun _=>rfl) ?_)
    refine lp (fun n h=>by first|exact h|exact h rfl) (fun t q2 q7 hpk => ?_)
    simp only [mP]
    by_cases hz:z.err=0
    · have hb:(z.err==0)=true:=by simp [hz]
      simp only [hz,if_true] at hR
      cases hzr:z.rules with
      | nil =>
        repeat (first|simp only [go_sem,q2,q7,hb,bne,rR,rV_n,oC_n]|refine Unf.h ?_)
        refine hR _ ?_
        rw [ends_frz,hzr]
        simp only [go_sem,rR,rV_n,oC_n,slV_owns,vPar]
        rfl
      | cons a l =>
        repeat (first|simp only [go_sem,q2,q7,hb,bne,rR,rV_s,oC_s]|refine Unf.h ?_)
        refine hR _ ?_
        rw [ends_frz,hzr]
        simp only [go_sem,rR,rV_s,oC_s,slV_owns,thaw_slV,vPar]
        rfl
    · have hb:(z.err==0)=false:=by simp [hz]
      simp only [hz,if_false] at hR
      cases hzr:z.rules with
      | nil =>
        repeat (first|simp only [go_sem,q2,q7,hb,bne,rR,rV_n,oC_n]|refine Unf.h ?_)
        refine hR _ ?_
        rw [ends_frz]
        simp only [go_sem,rR,rV_n,oC_n,vPar,slV]
      | cons a l =>
        repeat (first|simp only [go_sem,q2,q7,hb,bne,rR,rV_s,oC_s]|refine Unf.h ?_)
        refine hR _ ?_
        rw [ends_frz]
        simp only [go_sem,rR,rV_s,oC_s,vPar,slV]
end Pay
