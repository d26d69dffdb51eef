/- Plain laws of tokens: told by their texts, at their places, joined, and again. -/
import Derived.Test.YtmglkghngkbioaaGreatDoorPayC47
set_option linter.unusedSimpArgs false
set_option linter.unusedVariables false
set_option maxHeartbeats 1000000
namespace Pay
structure Good (k:Int) (u:List UInt8):Prop where
  ne:k≠0
  one:∀ r,sepHead r→oneS (u++r)=(k,u.length)
theorem good_of {t:List UInt8}(h:(oneS t).1≠0):Good (oneS t).1 (t.take (oneS t).2):=by
  refine ⟨h,fun r hr => ?_⟩
  rw [oneS_sep h hr]
  have:=oneS_pos h
  have e:(t.take (oneS t).2).length=(oneS t).2:=by rw [List.length_take];omega
  rw [e]
theorem Good.cons {k:Int}{u:List UInt8}(h:Good k u):∃ c r,u=c::r:=by
  cases u with
  | nil =>
    have:=h.one [] sep_nil
    exact absurd (Prod.mk.inj this).1.symm h.ne
  | cons c r=>exact ⟨c,r,rfl⟩
theorem Good.self {k:Int}{u:List UInt8}(h:Good k u):oneS u=(k,u.length):=by
  have:=h.one [] sep_nil
  rwa [List.append_nil] at this
theorem put_mem {k:Int}{u:List UInt8}{p:Nat}{x:List Tok × Option Nat}{y:Tok}(h:y∈(lexPut k u p x).1):y=⟨k,u,p⟩∨y∈x.1:=by
  rcases x with ⟨ts,_|e⟩
  · simpa [lexPut] using h
  · simp [lexPut] at h
theorem lex_good:∀ (t:List UInt8)(p:Nat),∀ x∈(lexT p t).1,Good x.kind x.text:=by
  refine lex_ind (M:=fun t=>∀ p,∀ x∈(lexT p t).1,Good x.kind x.text) ?_ ?_ ?_ ?_ ?_
  · intro p x hx;cases hx
  · intro c r h ih p x hx;rw [lexT_blank h] at hx;exact ih _ x hx
  · intro r ih p x hx;rw [lexT_line] at hx;exact ih _ x hx
  · intro t h ih p x hx
    rw [lexT_tok h] at hx
    rcases put_mem hx with rfl|hx
    · exact good_of h
    · exact ih _ x hx
  · intro c r h1 h2 h3 p x hx;rw [lexT_bad h1 h2 h3] at hx;cases hx
theorem good_kind {k:Int} {c:UInt8} {r:List UInt8} (h:Good k (c::r)):(k==1)=letB c∧(k==5) = !(letB c||digB c)∧(k=1→(c::r).length≤12):=by
  have e:=h.self
  have hne:=h.ne
  rw [oneS_cons] at e
  cases h1:letB c with
  | true =>
    rw [if_pos h1] at e
    split at e
    · exact absurd (Prod.mk.inj e).1.symm hne
    · rename_i h2
      obtain ⟨rfl,e2⟩:=Prod.mk.inj e
      exact ⟨rfl,rfl,fun _=>by omega⟩
  | false =>
    rw [if_neg (by rw [h1];simp)] at e
    cases h2:digB c with
    | true =>
      rw [if_pos h2] at e
      obtain ⟨e1,e2⟩:=Prod.mk.inj e
      rw [e2,List.take_length] at e1
      unfold figS at e1
      split at e1
      · subst e1;exact ⟨rfl,rfl,fun h=>by cases h⟩
      · split at e1
        · subst e1;exact ⟨rfl,rfl,fun h=>by cases h⟩
        · split at e1
          · subst e1;exact ⟨rfl,rfl,fun h=>by cases h⟩
          · exact absurd e1.symm hne
    | false =>
      rw [if_neg (by rw [h2];simp)] at e
      split at e
      · exact absurd (Prod.mk.inj e).1.symm hne
      · obtain ⟨rfl,e2⟩:=Prod.mk.inj e
        exact ⟨rfl,rfl,fun h=>by cases h⟩
def Chain (s:List UInt8):Nat→List Tok→Prop
  | _,[]=>True
  | e,x::r=>e≤x.pos∧x.text≠[]∧x.pos+x.text.length≤s.length∧(s.drop x.pos).take x.text.length=x.text∧Chain s (x.pos+x.text.length) r
theorem Chain.mono {s:List UInt8}{a b:Nat}(h:a≤b):∀ {ts:List Tok},Chain s b ts→Chain s a ts
  | [],_=>trivial
  | _::_,hc=>⟨by have:=hc.1;omega,hc.2⟩
theorem lex_chain (s:List UInt8):∀ (t:List UInt8) (p:Nat),s.drop p=t→p≤s.length→Chain s p (lexT p t).1:=by
  refine lex_ind (M:=fun t=>∀ p,s.drop p=t→p≤s.length→Chain s p (lexT p t).1) ?_ ?_ ?_ ?_ ?_
  · intro p _ _;trivial
  · intro c r h ih p hp hl
    rw [lexT_blank h]
    have hl2:=congrArg List.length hp
    rw [List.length_drop,List.length_cons] at hl2
    refine (ih (p+1) ?_ (by omega)).mono (by omega)
    rw [← List.drop_drop,hp];rfl
  · intro r ih p hp hl
    rw [lexT_line]
    have hle:=runN_le lineB r
    have hl2:=congrArg List.length hp
    rw [List.length_drop,List.length_cons] at hl2
    refine (ih _ ?_ (by omega)).mono (by omega)
    rw [show p+1+runN lineB r=p+(runN lineB r+1) by omega,← List.drop_drop,hp];rfl
  · intro t h ih p hp hl
    rw [lexT_tok h]
    have ho:=oneS_pos h
    have hl2:=congrArg List.length hp
    rw [List.length_drop] at hl2
    have:=ih (p+(oneS t).2) (by rw [← List.drop_drop,hp]) (by omega)
    rcases hx:lexT (p+(oneS t).2) (t.drop (oneS t).2) with ⟨ts,_|e⟩
    · rw [hx] at this
      have e:(t.take (oneS t).2).length=(oneS t).2:=by rw [List.length_take];omega
      refine ⟨Nat.le_refl _,?_,?_,?_,?_⟩
      · intro h0;have:=congrArg List.length h0;rw [e] at this;simp at this;omega
      · show p+(t.take (oneS t).2).length≤_
        rw [e];omega
      · show (s.drop p).take (t.take (oneS t).2).length=_
        rw [e,hp]
      · show Chain s (p+(t.take (oneS t).2).length) ts
        rw [e];exact this
    · trivial
  · intro c r h1 h2 h3 p _ _;rw [lexT_bad h1 h2 h3];trivial
def kt (x:Tok):Int × List UInt8:=(x.kind,x.text)
def Same2 (x:List Tok × Option Nat)(l:List (Int × List UInt8)):Prop:=x.2=none∧x.1.map kt=l
theorem Same2.put {k:Int}{u:List UInt8}{p:Nat}{x:List Tok × Option Nat}{l:List (Int × List UInt8)}(h:Same2 x l):Same2 (lexPut k u p x) ((k,u)::l):=by
  rcases x with ⟨ts,_|e⟩
  · obtain ⟨h1,h2⟩:=h
    exact ⟨rfl,by simp [lexPut,kt,← h2]⟩
  · cases h.1
theorem lexS_T (s:List UInt8):lexS s=lexT 0 s:=rfl
end Pay
