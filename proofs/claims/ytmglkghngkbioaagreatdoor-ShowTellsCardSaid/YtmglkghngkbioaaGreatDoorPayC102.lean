/- The law of texts, there and back: ShowBack. -/
import Derived.Test.YtmglkghngkbioaaGreatDoorPayC101
set_option linter.unusedSimpArgs false
set_option linter.unusedVariables false
set_option maxHeartbeats 1000000
namespace Pay
open Go
attribute [local irreducible] wpB opsB treeB drawB
structure L9 (C:Ctx):Prop where
  sh:Sh9 C
  ref:∀ p:Prog,p.rules.length*40≤140737488355328→p.exprs.length<100000→SoundAt C 179 ⟨[vProg p],looko []⟩ ⟨vProg p,looko []⟩
  same:∀ p q:Prog,p.rules.length<100000→p.exprs.length<100000→SoundAt C 147 ⟨[vProg p,vProg q],looko []⟩ ⟨vB (decide (p=q)),looko []⟩
  awake:SoundAt C 172 ⟨[],looko []⟩ ⟨vB true,looko []⟩
structure Told (C:Ctx) (s:List UInt8) (l:List RT):Prop where
  parse:SoundAt C 144 ⟨[vS s],looko []⟩ ⟨.tup [vProg (progOf l),vI 0,vI 0],looko []⟩
  text:SoundAt C 174 ⟨[vProg (progOf l)],looko []⟩ ⟨.tup [vS (progTx l),vI 0],looko []⟩
  back:SoundAt C 144 ⟨[vS (progTx l)],looko []⟩ ⟨.tup [vProg (progOf l),vI 0,vI 0],looko []⟩
  ref:SoundAt C 179 ⟨[vProg (progOf l)],looko []⟩ ⟨vProg (progOf l),looko []⟩
  same:SoundAt C 147 ⟨[vProg (progOf l),vProg (progOf l)],looko []⟩ ⟨vB true,looko []⟩
theorem L9.told {C:Ctx}(K:L9 C){s:List UInt8}{l:List RT}(h:ReadOk s l)(hs:s.length≤1000):Told C s l:=by
  have hr:=prog_rules h.many
  have hx:=h.size
  have hE:=prog_okE h.rts h.many (by omega)
  have htl:=prog_text_len h.rts h.many (by omega)
  refine ⟨?_,?_,?_,K.ref _ (by omega) (by omega),?_⟩
  · have:=K.sh.parse s (by omega)
    rw [h.eq] at this
    exact this
  · have:=K.sh.text (progOf l) (by omega) (by omega) hE.vals (fun _=>by rw [text_prog h.rts];exact htl)
    rw [show_prog h.rts h.many] at this
    exact this
  · have:=K.sh.parse (progTx l) htl
    rw [parse_print h.rts h.many] at this
    exact this
  · have:=K.same (progOf l) (progOf l) (by omega) (by omega)
    rw [decide_eq_true rfl] at this
    exact this
theorem parse_bad {C:Ctx}(hP:HParse C){s:List UInt8}(hs:s.length<100000)(h:(parseP s).2.2≠0∧(parseP s).1=⟨[],[]⟩):∃ a e:Int,(e==0)=false∧SoundAt C 144 ⟨[vS s],looko []⟩ ⟨.tup [vProg ⟨[],[]⟩,vI a,vI e],looko []⟩:=by
  refine ⟨(parseP s).2.1,(parseP s).2.2,by simp [h.1],?_⟩
  have:=hP s hs
  unfold vParse at this
  rw [h.2] at this
  exact this
end Pay
