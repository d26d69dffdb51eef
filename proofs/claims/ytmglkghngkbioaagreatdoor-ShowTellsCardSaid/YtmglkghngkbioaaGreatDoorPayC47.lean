/- Plain laws of tokens: no program in sight. -/
import Derived.Test.YtmglkghngkbioaaGreatDoorPayC46
set_option linter.unusedSimpArgs false
set_option linter.unusedVariables false
set_option maxHeartbeats 1000000
namespace Pay
theorem oneS_cons (c:UInt8)(r:List UInt8):oneS (c::r) =
    if letB c=true then (if runN wordB (c::r)>12 then (0,0) else (1,runN wordB (c::r)))
    else if digB c=true then (figS ((c::r).take (runN numB (c::r))),runN numB (c::r))
    else if signN (c::r)=0 then (0,0) else (5,signN (c::r)):=rfl
theorem oneR_cons (c:UInt8)(r:List UInt8):oneR (c::r) =
    if letB c=true then (if runN wordB (c::r)<13 then 1 else 0,runN wordB (c::r))
    else if digB c=true then (kindR ((c::r).take (runN numB (c::r))),runN numB (c::r))
    else if signSet.contains c=true then (5,signR c r) else (0,1):=rfl
theorem whole_same {c:UInt8}{r:List UInt8}:wholeR (c::r)=wholeB (c::r):=by
  unfold wholeR wholeB
  rw [Bool.eq_iff_iff]
  simp only [Bool.and_eq_true,Bool.or_eq_true,decide_eq_true_eq,beq_iff_eq,bne_iff_ne,ne_eq,List.head?_cons,Option.some.injEq,List.length_cons,List.cons.injEq]
  constructor
  · rintro ⟨h1,⟨h2,h3⟩,h4⟩
    refine ⟨⟨by omega,h1⟩,?_⟩
    by_cases hc:c=48
    · rcases h4 with h4|h4
      · exact .inl ⟨hc,List.eq_nil_of_length_eq_zero (by omega)⟩
      · exact absurd hc h4
    · exact .inr hc
  · rintro ⟨⟨h1,h2⟩,h3⟩
    refine ⟨h2,⟨by omega,by omega⟩,?_⟩
    rcases h3 with ⟨_,rfl⟩|h3
    · exact .inl rfl
    · exact .inr h3
theorem fig_same {c:UInt8}{r:List UInt8}:kindR (c::r)=figS (c::r):=by
  unfold kindR figS
  rw [(parse_same (c::r)).1,rate_same,whole_same]
theorem pre2 {a b c:UInt8}{r:List UInt8}:[a,b].isPrefixOf (c::r)=true↔c=a∧∃ r',r=b::r':=by
  cases r with
  | nil=>simp [List.isPrefixOf]
  | cons d r=>simp [List.isPrefixOf];constructor <;> rintro ⟨rfl,rfl⟩ <;> exact ⟨rfl,rfl⟩
theorem signN_eq (c:UInt8) (r:List UInt8):signN (c::r)=if signSet.contains c=true then signR c r else 0:=by
  unfold signN
  by_cases h:[60,61].isPrefixOf (c::r)=true∨[62,61].isPrefixOf (c::r)=true∨[60,62].isPrefixOf (c::r)=true
  · rw [if_pos h]
    simp only [pre2] at h
    rcases h with ⟨rfl,r',rfl⟩|⟨rfl,r',rfl⟩|⟨rfl,r',rfl⟩
    · rw [if_pos (by decide)];simp [signR]
    · rw [if_pos (by decide)];simp [signR]
    · rw [if_pos (by decide)];simp [signR]
  · rw [if_neg h]
    simp only [pre2] at h
    simp only
    have:signR c r=1:=by
      cases r with
      | nil=>rfl
      | cons d r =>
        simp only [signR]
        rw [if_neg]
        rintro (⟨h1,h2|h2⟩|⟨h1,h2⟩)
        · exact h (.inl ⟨h1,r,by rw [h2]⟩)
        · exact h (.inr (.inr ⟨h1,r,by rw [h2]⟩))
        · exact h (.inr (.inl ⟨h1,r,by rw [h2]⟩))
    rw [this]
theorem one_same (c:UInt8) (r:List UInt8):(oneR (c::r)).1=(oneS (c::r)).1∧((oneS (c::r)).1≠0→(oneR (c::r)).2=(oneS (c::r)).2):=by
  rw [oneR_cons,oneS_cons]
  by_cases h1:letB c=true
  · rw [if_pos h1,if_pos h1]
    by_cases h2:runN wordB (c::r)>12
    · rw [if_pos h2]
      exact ⟨if_neg (by omega),fun h=>absurd rfl h⟩
    · rw [if_neg h2]
      exact ⟨if_pos (by omega),fun _=>rfl⟩
  · rw [if_neg h1,if_neg h1]
    by_cases h2:digB c=true
    · rw [if_pos h2,if_pos h2]
      refine ⟨?_,fun _=>rfl⟩
      have hp:1≤runN numB (c::r):=runN_pos (by simp [numB,h2])
      obtain ⟨n,hn⟩:∃ n,runN numB (c::r)=n+1:=⟨runN numB (c::r)-1,by omega⟩
      rw [hn]
      exact fig_same
    · rw [if_neg h2,if_neg h2]
      rw [signN_eq]
      by_cases h3:signSet.contains c=true
      · rw [if_pos h3,if_pos h3]
        have:signR c r≠0:=by
          cases r with
          | nil=>simp [signR]
          | cons d r=>simp only [signR];split <;> omega
        rw [if_neg this]
        exact ⟨rfl,fun _=>rfl⟩
      · rw [if_neg h3,if_neg h3,if_pos rfl]
        exact ⟨rfl,fun h=>absurd rfl h⟩
theorem lexGo_same:∀ (f p:Nat)(t:List UInt8),lexGo oneR f p t=lexGo oneS f p t
  | 0,_,_=>rfl
  | _+1,_,[]=>rfl
  | f+1,p,c::r=>by
    have h:=one_same c r
    rw [lexGo,lexGo,lexGo_same f,lexGo_same f,h.1]
    by_cases h0:(oneS (c::r)).1=0
    · rw [if_pos h0,if_pos h0]
    · rw [h.2 h0,lexGo_same f]
theorem lex_same (s:List UInt8):lexR s=lexS s:=lexGo_same _ _ _
theorem lexGo_fuel:∀ (f g p:Nat) (t:List UInt8),t.length≤f→t.length≤g→lexGo oneS f p t=lexGo oneS g p t
  | 0,g,p,t,hf,_=>by
    have:t=[]:=List.eq_nil_of_length_eq_zero (by omega)
    subst this
    cases g <;> rfl
  | f+1,0,p,t,_,hg=>by
    have:t=[]:=List.eq_nil_of_length_eq_zero (by omega)
    subst this
    rfl
  | _+1,_+1,_,[],_,_=>rfl
  | f + 1,g+1,p,c::r,hf,hg=>by
    simp only [List.length_cons] at hf hg
    have hl:1≤runN lineB (c::r)∨c=10:=by
      by_cases hc:c=10
      · exact .inr hc
      · exact .inl (runN_pos (by simp [lineB,hc]))
    rw [lexGo,lexGo]
    by_cases h1:c=32∨c=10
    · rw [if_pos h1,if_pos h1,lexGo_fuel f g (p+1) r (by omega) (by omega)]
    · rw [if_neg h1,if_neg h1]
      have hp:=hl.resolve_right (fun h=>h1 (.inr h))
      have hd:((c::r).drop (runN lineB (c::r))).length≤r.length:=by rw [List.length_drop,List.length_cons];omega
      rw [lexGo_fuel f g _ _ (by omega:((c::r).drop (runN lineB (c::r))).length≤f) (by omega)]
      by_cases h3:(oneS (c::r)).1=0
      · rw [if_pos h3,if_pos h3]
      · rw [if_neg h3,if_neg h3]
        have ho:=oneS_pos h3
        have hd:((c::r).drop (oneS (c::r)).2).length≤r.length:=by rw [List.length_drop,List.length_cons];omega
        rw [lexGo_fuel f g _ _ (by omega:((c::r).drop (oneS (c::r)).2).length≤f) (by omega)]
def lexT (p:Nat)(t:List UInt8):List Tok × Option Nat:=lexGo oneS t.length p t
theorem lexT_blank {c:UInt8}(h:c=32∨c=10)(p:Nat)(r:List UInt8):lexT p (c::r)=lexT (p+1) r:=by
  unfold lexT
  rw [List.length_cons,lexGo,if_pos h]
def lexPut (k:Int)(u:List UInt8)(p:Nat):List Tok × Option Nat→List Tok × Option Nat
  | (ts,none)=>(⟨k,u,p⟩::ts,none)
  | (_,some e)=>([],some e)
theorem lexT_line (p:Nat)(r:List UInt8):lexT p (35::r)=lexT (p+1+runN lineB r) (r.drop (runN lineB r)):=by
  have hp:runN lineB (35::r)=runN lineB r+1:=by rw [runN,List.takeWhile_cons,show lineB 35=true from rfl];rfl
  have hle:=runN_le lineB r
  unfold lexT
  rw [List.length_cons,lexGo,if_neg (by decide),if_pos rfl,hp,List.drop_succ_cons,show p+(runN lineB r+1)=p+1+runN lineB r by omega]
  exact lexGo_fuel _ _ _ _ (by rw [List.length_drop];omega) (Nat.le_refl _)
theorem one_head {c:UInt8}{r:List UInt8}(h:(oneS (c::r)).1≠0):¬(c=32∨c=10)∧c≠35:=by
  have key:∀ d:UInt8,letB d=false→digB d=false→signSet.contains d=false→(oneS (d::r)).1=0:=by
    intro d h1 h2 h3
    have h0:signN (d::r)=0:=by rw [signN_eq,if_neg (by rw [h3];simp)]
    rw [oneS_cons,if_neg (by rw [h1];simp),if_neg (by rw [h2];simp),h0,if_pos rfl]
  refine ⟨?_,?_⟩
  · rintro (rfl|rfl) <;> exact h (key _ (by decide) (by decide) (by decide))
  · rintro rfl;exact h (key _ (by decide) (by decide) (by decide))
theorem lexT_tok {t:List UInt8}(h:(oneS t).1≠0)(p:Nat):lexT p t=lexPut (oneS t).1 (t.take (oneS t).2) p (lexT (p+(oneS t).2) (t.drop (oneS t).2)):=by
  cases t with
  | nil=>exact absurd rfl h
  | cons c r =>
    have ho:=oneS_pos h
    have hh:=one_head h
    unfold lexT
    rw [List.length_cons,lexGo,if_neg hh.1,if_neg hh.2,if_neg h]
    rw [lexGo_fuel r.length ((c::r).drop (oneS (c::r)).2).length _ _ (by rw [List.length_drop,List.length_cons];omega) (Nat.le_refl _)]
    rcases lexGo oneS ((c::r).drop (oneS (c::r)).2).length (p+(oneS (c::r)).2) ((c::r).drop (oneS (c::r)).2) with ⟨ts,_|e⟩ <;> rfl
theorem lexT_bad {c:UInt8}{r:List UInt8}(h1:¬(c=32∨c=10))(h2:c≠35)(h:(oneS (c::r)).1=0)(p:Nat):lexT p (c::r)=([],some p):=by
  unfold lexT
  rw [List.length_cons,lexGo,if_neg h1,if_neg h2,if_pos h]
theorem lex_ind {M:List UInt8→Prop} (nil:M []) (blank:∀ c r,c=32∨c=10→M r→M (c::r)) (line:∀ r,M (r.drop (runN lineB r))→M (35::r))
    (tok:∀ t,(oneS t).1≠0→M (t.drop (oneS t).2)→M t) (bad:∀ c r,¬(c=32∨c=10)→c≠35→(oneS (c::r)).1=0→M (c::r)):∀ t,M t:=by
  intro t
  induction hn:t.length using Nat.strongRecOn generalizing t with
  | _ n ih =>
    subst hn
    cases t with
    | nil=>exact nil
    | cons c r =>
      by_cases h1:c=32∨c=10
      · exact blank c r h1 (ih r.length (by simp) r rfl)
      · by_cases h2:c=35
        · subst h2
          refine line r (ih _ ?_ _ rfl)
          rw [List.length_drop,List.length_cons];omega
        · by_cases h3:(oneS (c::r)).1=0
          · exact bad c r h1 h2 h3
          · have:=oneS_pos h3
            refine tok (c::r) h3 (ih _ ?_ _ rfl)
            rw [List.length_drop];omega
def sepHead (r:List UInt8):Prop:=∀ c r',r=c::r'→c=32∨c=10
theorem sep_nil:sepHead []:=fun _ _ h=>by cases h
theorem sep_cons {c:UInt8}{r:List UInt8}(h:c=32∨c=10):sepHead (c::r):=fun _ _ e=>by cases e;exact h
theorem take_run (p:UInt8→Bool)(t:List UInt8):t.take (runN p t)=t.takeWhile p:=(List.prefix_iff_eq_take.1 (List.takeWhile_prefix p)).symm
theorem all_run (p:UInt8→Bool):∀ (t:List UInt8),(t.takeWhile p).all p=true
  | []=>rfl
  | c::r=>by
    rw [List.takeWhile_cons]
    cases h:p c with
    | true=>simp only [if_true,List.all_cons,h,Bool.true_and];exact all_run p r
    | false=>rfl
theorem runN_app {p:UInt8→Bool}:∀ {u r:List UInt8},u.all p=true→(∀ c r',r=c::r'→p c=false)→runN p (u++r)=u.length
  | [],[],_,_=>rfl
  | [],c::r,_,h=>by rw [List.nil_append,runN,List.takeWhile_cons,h c r rfl];rfl
  | c::u,r,h1,h2=>by
    simp only [List.all_cons,Bool.and_eq_true] at h1
    have ih:=runN_app (p:=p) h1.2 h2
    rw [List.cons_append,runN,List.takeWhile_cons,h1.1]
    simp only [if_true,List.length_cons]
    rw [← ih];rfl
theorem runN_sep {p:UInt8→Bool}(h1:p 32=false)(h2:p 10=false)(t:List UInt8){r:List UInt8}(hr:sepHead r):runN p (t.take (runN p t)++r)=runN p t:=by
  rw [take_run,runN_app (all_run p t) (fun c r' e=>by rcases hr c r' e with rfl|rfl <;> assumption)]
  rfl
theorem oneS_sep {t r:List UInt8} (h:(oneS t).1≠0) (hr:sepHead r):oneS (t.take (oneS t).2++r)=oneS t:=by
  cases t with
  | nil=>exact absurd rfl h
  | cons c t =>
    have ho:=oneS_pos h
    have take1:∀ n,1≤n→(c::t).take n=c::t.take (n-1):=fun n hn=>by
      obtain ⟨m,rfl⟩:∃ m,n=m+1:=⟨n-1,by omega⟩
      rfl
    revert h ho
    rw [oneS_cons]
    by_cases h1:letB c=true
    · rw [if_pos h1]
      by_cases h2:runN wordB (c::t)>12
      · rw [if_pos h2];intro h;exact absurd rfl h
      · rw [if_neg h2]
        intro _ ho
        simp only at ho ⊢
        have e:=runN_sep (p:=wordB) (by decide) (by decide) (c::t) hr
        rw [take1 _ ho.1,List.cons_append] at e ⊢
        rw [oneS_cons,if_pos h1,e,if_neg h2]
    · rw [if_neg h1]
      by_cases h2:digB c=true
      · rw [if_pos h2]
        intro _ ho
        simp only at ho ⊢
        have e:=runN_sep (p:=numB) (by decide) (by decide) (c::t) hr
        have e2:((c::t).take (runN numB (c::t))++r).take (runN numB (c::t))=(c::t).take (runN numB (c::t)):=by
          rw [List.take_append_of_le_length (by rw [List.length_take];omega),List.take_take,Nat.min_self]
        rw [take1 _ ho.1,List.cons_append] at e e2 ⊢
        rw [oneS_cons,if_neg h1,if_pos h2,e,e2]
      · rw [if_neg h2]
        by_cases h3:signN (c::t)=0
        · rw [if_pos h3];intro h;exact absurd rfl h
        · rw [if_neg h3]
          intro _ ho
          simp only at ho ⊢
          have e:signN ((c::t).take (signN (c::t))++r)=signN (c::t):=by
            rw [signN_eq] at h3 ho ⊢
            by_cases h4:signSet.contains c=true
            · rw [if_pos h4] at h3 ho ⊢
              rw [take1 _ ho.1,List.cons_append,signN_eq,if_pos h4]
              cases t with
              | nil =>
                cases r with
                | nil=>rfl
                | cons d r =>
                  have:=hr d r rfl
                  simp only [signR,List.take_nil,List.nil_append]
                  rw [if_neg]
                  rcases this with rfl|rfl <;> simp
              | cons d t =>
                by_cases h5:(c=60∧(d=61∨d=62))∨(c=62∧d=61)
                · have e1:signR c (d::t)=2:=by simp only [signR];rw [if_pos h5]
                  rw [e1]
                  simp only [List.take_succ_cons,List.cons_append,signR,Nat.reduceSub]
                  rw [if_pos h5]
                · have e1:signR c (d::t)=1:=by simp only [signR];rw [if_neg h5]
                  rw [e1]
                  simp only [Nat.sub_self,List.take_zero,List.nil_append]
                  cases r with
                  | nil=>rfl
                  | cons d r =>
                    have:=hr d r rfl
                    simp only [signR]
                    rw [if_neg]
                    rcases this with rfl|rfl <;> simp
            · rw [if_neg h4] at h3;exact absurd rfl h3
          rw [take1 _ ho.1,List.cons_append] at e ⊢
          rw [oneS_cons,if_neg h1,if_neg h2,e,if_neg h3]
end Pay
