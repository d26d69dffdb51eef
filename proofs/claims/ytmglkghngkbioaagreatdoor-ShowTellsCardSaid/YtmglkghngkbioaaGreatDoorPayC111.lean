/- The law of a text's and its expressions' texts, as the document has them: ShowTells. -/
import Derived.Test.YtmglkghngkbioaaGreatDoorPayC102
import Derived.Test.YtmglkghngkbioaaGreatDoorPayC110
set_option linter.unusedSimpArgs false
set_option linter.unusedVariables false
set_option maxHeartbeats 1000000
namespace Pay
open Go
attribute [local irreducible] wpB opsB treeB drawB
def HParse8 (C:Ctx):Prop:=∀ s:List UInt8,s.length<100000→SoundAt C 173 ⟨[vS s],looko []⟩ ⟨vParse (parseP s),looko []⟩
structure R9K (C:Ctx):Prop where
  parse:HParse8 C
  text:okFn C.P C.φ 176 g_ref09_Text=true
  texts:okFn C.P C.φ 177 g_ref09_Texts=true
  k:T9K C
theorem lawShowTells {C:Ctx} (h:okFn C.P C.φ 171 g_law09_ShowTells=true) (K:L9 C) (R:R9K C) (s:List UInt8) (i:Int) (hi : -9223372036854775808≤i∧i<9223372036854775808):SoundAt C 171 ⟨[vS s,vI i],looko []⟩ ⟨vB true,looko []⟩:=by
  have ha:=K.awake
  refine SoundAt.of_run h rfl (fun Q hR hN => ?_)
  rw [entry2]
  by_cases h1:s.length≤500
  case neg =>
    have b1:((s.length:Int)>500):=by omega
    repeat (first|simp only [go_sem,b1,decide_true]|refine Unf.h ?_|refine And.intro ?_ (noRv_of (by simp only [go_sem]))|refine callK_plain (ha) (fun _=>rfl) ?_|refine callE_plain (ha) (fun _=>rfl) ?_|refine ⟨_,ha,fun _=>rfl,?_⟩)
    refine hR _ ?_
    simp only [go_sem]
  have b1:¬((s.length:Int)>500):=by omega
  have t0:=R.parse s (by omega)
  rcases read_facts s (by omega) with hb|⟨l,hl⟩
  · obtain ⟨a,e,he,t1⟩:=parse_bad K.sh.parse (by omega) hb
    have hbe:((parseP s).2.2==0)=false:=by simp [hb.1]
    unfold vParse at t0
    rw [hb.2] at t0
    generalize (parseP s).2.2=e2 at *
    generalize (parseP s).2.1=a2 at *
    repeat (first|simp only [go_sem,b1,decide_false,he,hbe,bne]|refine Unf.h ?_|refine And.intro ?_ (noRv_of (by simp only [go_sem]))|refine callK_plain (t0) (fun _=>rfl) ?_|refine callE_plain (t0) (fun _=>rfl) ?_|refine ⟨_,t0,fun _=>rfl,?_⟩|refine callK_plain (t1) (fun _=>rfl) ?_|refine callE_plain (t1) (fun _=>rfl) ?_|refine ⟨_,t1,fun _=>rfl,?_⟩|refine callK_plain (ha) (fun _=>rfl) ?_|refine callE_plain (ha) (fun _=>rfl) ?_|refine ⟨_,ha,fun _=>rfl,?_⟩)
    refine hR _ ?_
    simp only [go_sem]
  · obtain ⟨t1,t2,t3,t4,t5⟩:=K.told hl (by omega)
    have hx:=hl.size
    have hE:=prog_okE hl.rts hl.many (by omega)
    have htl:=prog_text_len hl.rts hl.many (by omega)
    have hr:=prog_rules hl.many
    have t6:=K.sh.expr (progOf l) i (by omega) hE (fun _=>by rw [text_prog hl.rts];exact htl)
    rw [hl.eq] at t0
    have t0:SoundAt C 173 ⟨[vS s],looko []⟩ ⟨.tup [vProg (progOf l),vI 0,vI 0],looko []⟩:=t0
    have t7:=ref9Texts (p:=progOf l) R.texts R.k hE.len (read_ok hl.rts hE) (read_exR hl.rts (by omega))
    have t8:=ref9Text (p:=progOf l) R.text t7 (by omega) (fun r hr=>by rw [textsR_len];exact root_in hl.rts hl.many r hr) (by rw [text9_prog hl.rts hl.many];omega)
    rw [text9_prog hl.rts hl.many] at t8
    have hsh:=show_prog hl.rts hl.many
    clear t3 t4 t5
    by_cases hin:0≤i∧i<((progOf l).exprs.length:Int)
    · obtain ⟨u,e1,e2,e3⟩:=read_texts hl.rts (j:=i.toNat) (k:=(progOf l).exprs.length) (by omega) (by omega)
      rw [Int.toNat_of_nonneg hin.1] at e2
      have e6:exprW (progOf l) i=(prT u 0,0):=by
        unfold exprW
        rw [hsh,if_pos ⟨rfl,hin.1,hin.2⟩,e2]
      rw [e6] at t6
      have h0:¬(i<0):=by omega
      have h2:¬(i≥((progOf l).exprs.length:Int)):=by omega
      have h3:0≤i:=hin.1
      have h4:i<((textsR (progOf l).exprs (progOf l).exprs.length).length:Int):=by rw [textsR_len];exact hin.2
      generalize textsR (progOf l).exprs (progOf l).exprs.length=ts at *
      generalize progTx l=tx at *
      generalize progOf l=pr at *
      repeat (first|simp only [go_sem,b1,decide_false,bne,List.length_map,h0,h2,h3,h4,getMap encS1 e1,encS1]|refine Unf.h ?_|refine And.intro ?_ (noRv_of (by simp only [go_sem]))|refine callK_plain (t0) (fun _=>rfl) ?_|refine callE_plain (t0) (fun _=>rfl) ?_|refine ⟨_,t0,fun _=>rfl,?_⟩|refine callK_plain (t1) (fun _=>rfl) ?_|refine callE_plain (t1) (fun _=>rfl) ?_|refine ⟨_,t1,fun _=>rfl,?_⟩|refine callK_plain (t2) (fun _=>rfl) ?_|refine callE_plain (t2) (fun _=>rfl) ?_|refine ⟨_,t2,fun _=>rfl,?_⟩|refine callK_plain (t6) (fun _=>rfl) ?_|refine callE_plain (t6) (fun _=>rfl) ?_|refine ⟨_,t6,fun _=>rfl,?_⟩|refine callK_plain (t7) (fun _=>rfl) ?_|refine callE_plain (t7) (fun _=>rfl) ?_|refine ⟨_,t7,fun _=>rfl,?_⟩|refine callK_plain (t8) (fun _=>rfl) ?_|refine callE_plain (t8) (fun _=>rfl) ?_|refine ⟨_,t8,fun _=>rfl,?_⟩|refine callK_plain (ha) (fun _=>rfl) ?_|refine callE_plain (ha) (fun _=>rfl) ?_|refine ⟨_,ha,fun _=>rfl,?_⟩)
      refine hR _ ?_
      simp only [go_sem]
    · have e6:exprW (progOf l) i=([],1):=by
        unfold exprW
        rw [if_neg (fun h=>hin h.2)]
      rw [e6] at t6
      have hc:i<0∨(¬(i<0)∧i≥((progOf l).exprs.length:Int)):=by omega
      generalize textsR (progOf l).exprs (progOf l).exprs.length=ts at *
      generalize progTx l=tx at *
      generalize progOf l=pr at *
      rcases hc with h0|⟨h0,h2⟩
      · repeat (first|simp only [go_sem,b1,decide_false,decide_true,bne,List.length_map,h0]|refine Unf.h ?_|refine And.intro ?_ (noRv_of (by simp only [go_sem]))|refine callK_plain (t0) (fun _=>rfl) ?_|refine callE_plain (t0) (fun _=>rfl) ?_|refine ⟨_,t0,fun _=>rfl,?_⟩|refine callK_plain (t1) (fun _=>rfl) ?_|refine callE_plain (t1) (fun _=>rfl) ?_|refine ⟨_,t1,fun _=>rfl,?_⟩|refine callK_plain (t2) (fun _=>rfl) ?_|refine callE_plain (t2) (fun _=>rfl) ?_|refine ⟨_,t2,fun _=>rfl,?_⟩|refine callK_plain (t6) (fun _=>rfl) ?_|refine callE_plain (t6) (fun _=>rfl) ?_|refine ⟨_,t6,fun _=>rfl,?_⟩|refine callK_plain (t7) (fun _=>rfl) ?_|refine callE_plain (t7) (fun _=>rfl) ?_|refine ⟨_,t7,fun _=>rfl,?_⟩|refine callK_plain (t8) (fun _=>rfl) ?_|refine callE_plain (t8) (fun _=>rfl) ?_|refine ⟨_,t8,fun _=>rfl,?_⟩|refine callK_plain (ha) (fun _=>rfl) ?_|refine callE_plain (ha) (fun _=>rfl) ?_|refine ⟨_,ha,fun _=>rfl,?_⟩)
        refine hR _ ?_
        simp only [go_sem]
      · repeat (first|simp only [go_sem,b1,decide_false,decide_true,bne,List.length_map,h0,h2]|refine Unf.h ?_|refine And.intro ?_ (noRv_of (by simp only [go_sem]))|refine callK_plain (t0) (fun _=>rfl) ?_|refine callE_plain (t0) (fun _=>rfl) ?_|refine ⟨_,t0,fun _=>rfl,?_⟩|refine callK_plain (t1) (fun _=>rfl) ?_|refine callE_plain (t1) (fun _=>rfl) ?_|refine ⟨_,t1,fun _=>rfl,?_⟩|refine callK_plain (t2) (fun _=>rfl) ?_|refine callE_plain (t2) (fun _=>rfl) ?_|refine ⟨_,t2,fun _=>rfl,?_⟩|refine callK_plain (t6) (fun _=>rfl) ?_|refine callE_plain (t6) (fun _=>rfl) ?_|refine ⟨_,t6,fun _=>rfl,?_⟩|refine callK_plain (t7) (fun _=>rfl) ?_|refine callE_plain (t7) (fun _=>rfl) ?_|refine ⟨_,t7,fun _=>rfl,?_⟩|refine callK_plain (t8) (fun _=>rfl) ?_|refine callE_plain (t8) (fun _=>rfl) ?_|refine ⟨_,t8,fun _=>rfl,?_⟩|refine callK_plain (ha) (fun _=>rfl) ?_|refine callE_plain (ha) (fun _=>rfl) ?_|refine ⟨_,ha,fun _=>rfl,?_⟩)
        refine hR _ ?_
        simp only [go_sem]
end Pay
