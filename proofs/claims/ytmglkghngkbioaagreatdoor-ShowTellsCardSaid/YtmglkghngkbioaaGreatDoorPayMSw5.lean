/- The theory: texts of the dev place in one; each part's head says what it holds. -/
import Derived.Test.YtmglkghngkbioaaGreatDoorPayC65
/- A program's text is read to the program. -/
section
set_option linter.unusedSimpArgs false
set_option linter.unusedVariables false
namespace Pay
open Go
structure RtOk (q:RT):Prop where
  kind:q.kind∈kindsL
  good:Good 1 q.name
  named:namedB q.name=true
  wf:WfP q.tree
  nd:ndT q.tree 0≤20
def lineK (q:RT):List Kt:=(1,q.kind)::(1,q.name)::(5,[61])::(tkT q.tree 0++[(5,[59])])
def progKt (l:List RT):List Kt:=l.flatMap lineK
def lineX (kind name body:List UInt8):List UInt8:=kind++[32]++name++[32,61,32]++body++[59,10]
def progTx (l:List RT):List UInt8:=l.flatMap fun q=>lineX q.kind q.name (prT q.tree 0)
theorem good_kinds {k:List UInt8}(h:k∈kindsL):Good 1 k:=by
  simp only [kindsL,List.mem_cons,List.not_mem_nil,or_false] at h
  rcases h with rfl|rfl|rfl|rfl
  · have:=good_of (t:=wEarn) (by decide);exact this
  · have:=good_of (t:=wPretax) (by decide);exact this
  · have:=good_of (t:=wPost) (by decide);exact this
  · have:=good_of (t:=wLet) (by decide);exact this
theorem line_rd {q:RT}(h:RtOk q){r:List UInt8}{l:List Kt}(hr:Rd r l):Rd (lineX q.kind q.name (prT q.tree 0)++r) (lineK q++l):=by
  have e1:Rd (59::(10::r)) ((5,[59])::l):=Rd.put (u:=[59]) semi_good (stop_sep (sep_cons (.inr rfl))) hr.line
  have e2:=lexP q.tree 0 h.wf _ _ (cl_cons (.inr (.inr (.inr rfl)))) e1
  have e3:=Rd.put (u:=[61]) good_61 (stop_sep (sep_cons (.inl rfl))) e2.blank
  have e4:=Rd.put h.good (cl_stop (cl_cons (.inl rfl))) e3.blank
  have e5:=Rd.put (good_kinds h.kind) (cl_stop (cl_cons (.inl rfl))) e4.blank
  simpa [lineX,lineK] using e5
theorem prog_rd:∀ (l:List RT),(∀ q∈l,RtOk q)→Rd (progTx l) (progKt l)
  | [],_=>Rd.nil
  | q::l,h=>by
    unfold progTx progKt
    rw [List.flatMap_cons,List.flatMap_cons]
    exact line_rd (h q (by simp)) (prog_rd l (fun x hx=>h x (List.mem_cons_of_mem _ hx)))
theorem rule_read {en n:Nat}(hn:n<60){q:RT}(h:RtOk q)(r:List Tok):ruleK en n (toks (lineK q)++r) = .ok (q,r):=by
  unfold lineK
  simp only [toks_cons,toks_app,toks_nil,List.cons_append,List.append_assoc,List.nil_append]
  unfold ruleK
  have hk:kindsL.contains q.kind=true:=List.contains_iff_mem.2 h.kind
  simp only [signT,beq_self_eq_true,Bool.true_or,hk,true_and,and_true,if_true,h.named]
  rw [if_neg (by omega),(need_yes (en:=en) (.inr rfl)).2,bind_ok,(readP en q.tree h.wf).f0 20 _ h.nd (take_other (by decide) _ _ _) (take_other (by decide) _ _ _) (take_other (by decide) _ _ _)]
  simp only [bind_ok]
  rw [(need_yes (en:=en) (.inr rfl)).2,bind_ok]
theorem prog_read {en:Nat}:∀ (l:List RT)(n:Nat),(∀ q∈l,RtOk q)→n+l.length≤60→∀ f,(toks (progKt l)).length≤f→progK en f n (toks (progKt l)) = .ok l
  | [],n,_,_,f,_=>prog_nil f n
  | q::l,n,h,hn,f,hf=>by
    have e:progKt (q::l)=lineK q++progKt l:=List.flatMap_cons
    rw [e,toks_app] at hf ⊢
    have hl:1≤(toks (lineK q)).length:=by unfold lineK;rw [toks_cons];simp
    rw [List.length_append] at hf
    simp only [List.length_cons] at hn
    obtain ⟨f,rfl⟩:∃ k,f=k+1:=⟨f-1,by omega⟩
    unfold progK
    rw [if_neg (by intro e;have:=congrArg List.length e;simp at this;have h1:=this.1;rw [h1] at hl;simp at hl),rule_read (by omega) (h q (by simp))]
    simp only
    rw [prog_read l (n+1) (fun x hx=>h x (List.mem_cons_of_mem _ hx)) (by omega) f (by omega)]
theorem parse_rd {s:List UInt8}{l:List RT}(hs:Rd s (progKt l))(h:∀ q∈l,RtOk q)(hn:l.length≤60):parseP s=(progOf l,0,0):=by
  unfold parseP
  rw [lexS_T]
  have hs:=hs 0
  cases hx:lexT 0 s with|mk ts o =>
  rw [hx] at hs
  obtain ⟨rfl,h2⟩:=hs
  simp only
  rw [parseT_eq]
  have h3:=read_R (P:=fun _ _=>True) (en:=s.length) (en':=0) trivial (tokR_kt (ts:=ts) (us:=toks (progKt l)) (by rw [toks_kt];exact h2))
  rw [show readT 0 (toks (progKt l)) = .ok l from prog_read l 0 h (by omega) _ (Nat.le_refl _)] at h3
  cases hr:readT s.length ts with
  | error e=>rw [hr] at h3;exact h3.elim
  | ok m =>
    rw [hr] at h3
    have h3:m=l:=h3
    rw [h3]
theorem parse_print {l:List RT}(h:∀ q∈l,RtOk q)(hn:l.length≤60):parseP (progTx l)=(progOf l,0,0):=parse_rd (prog_rd l h) h hn
theorem sign_head {k:Int}{u:List UInt8}(h:Good k u)(h5:k=5):kindsL.contains u=false:=by
  subst h5
  cases hc:kindsL.contains u with
  | false=>rfl
  | true =>
    have h1:=good_kinds (List.contains_iff_mem.1 hc)
    have e1:=h.self
    rw [h1.self] at e1
    have:(1:Int)=5:=congrArg Prod.fst e1
    omega
theorem good_ne40 {u:List UInt8}(h:Good 1 u):u≠[40]:=by
  rintro rfl
  have e:=h.self
  rw [good_40.self] at e
  exact absurd (congrArg Prod.fst e) (by decide)
theorem cK_line {q:RT}(h:RtOk q):cK (lineK q)=cK (tkT q.tree 0):=by
  unfold lineK
  have h1:=good_ne40 (good_kinds h.kind)
  have h2:=good_ne40 h.good
  simp [cK_cons,cK_app,cK_nil,h1,h2]
theorem rule_fit {en n:Nat} {ts r:List Tok} {q:RT} (hg:AllG ts) (h:ruleK en n ts = .ok (q,r)):RtOk q∧AllG r∧n<60∧cT r+cK (lineK q)≤cT ts:=by
  unfold ruleK at h
  split at h
  · cases h
  · rename_i t r1
    split at h
    · cases h
    · rename_i h60
      split at h
      · rename_i hsg
        split at h
        · cases h
        · rename_i m r2
          split at h
          · rename_i hm
            obtain ⟨r3,h3,h⟩:=bind_ok_iff.1 h
            obtain ⟨⟨e,r4⟩,h4,h⟩:=bind_ok_iff.1 h
            obtain ⟨r5,h5,h⟩:=bind_ok_iff.1 h
            injection h with h;injection h with e1 e2;subst e1;subst e2
            have gt:=hg t (by simp)
            have gm:=hg m (by simp)
            have k1:t.kind=1:=by
              have:=hsg.1
              unfold signT at this
              simp only [Bool.or_eq_true,beq_iff_eq] at this
              rcases this with h|h
              · exact h
              · have:=sign_head gt h
                rw [hsg.2] at this;cases this
            have g3:=need_cnt hg.tail.tail h3
            have fe:=(prK_fit en 20).2 _ _ _ g3.1 h4
            have g5:=need_cnt fe.all h5
            have ok:RtOk ⟨t.text,m.text,e⟩:=⟨List.contains_iff_mem.1 hsg.2,by have:=gm;rw [hm.1] at this;exact this,hm.2,fe.wf,fe.nd⟩
            refine ⟨ok,g5.1,?_,?_⟩
            · by_cases hn:n<60
              · exact hn
              · exact absurd ⟨by omega,k1,hsg.2⟩ h60
            · rw [cK_line ok]
              have q1:cT r4+cK (tkT e 0)≤cT r3:=fe.cnt
              have:=g5.2
              have:=g3.2
              rw [cT_cons,cT_cons]
              show cT r5+cK (tkT e 0)≤_
              omega
          · cases h
      · cases h
theorem prog_fit {en:Nat}:∀ (f n:Nat) (ts:List Tok) (l:List RT),AllG ts→n≤60→progK en f n ts = .ok l→(∀ q∈l,RtOk q)∧n+l.length≤60∧cK (progKt l)≤cT ts
  | 0,n,ts,l,hg,hn,h=>by
    injection h with h;subst h
    exact ⟨fun _ h=>by simp at h,by simpa using hn,Nat.zero_le _⟩
  | f + 1,n,ts,l,hg,hn,h=>by
    unfold progK at h
    split at h
    · injection h with h;subst h
      exact ⟨fun _ h=>by simp at h,by simpa using hn,Nat.zero_le _⟩
    · split at h
      · cases h
      · rename_i q r hk
        obtain ⟨k1,k2,k3,k4⟩:=rule_fit hg hk
        split at h
        · cases h
        · rename_i m hm
          injection h with h;subst h
          obtain ⟨i1,i2,i3⟩:=prog_fit f (n+1) r m k2 (by omega) hm
          refine ⟨fun x hx => ?_,by simp only [List.length_cons];omega,?_⟩
          · rcases List.mem_cons.1 hx with rfl|hx
            · exact k1
            · exact i1 x hx
          · have e:progKt (q::m)=lineK q++progKt m:=List.flatMap_cons
            rw [e,cK_app]
            omega
theorem cT_put {k:Int}{u:List UInt8}{p:Nat}{x:List Tok × Option Nat}:cT (lexPut k u p x).1≤cT x.1+(if u=[40] then 1 else 0):=by
  obtain ⟨ts,o⟩:=x
  cases o with
  | none=>show cT (_::ts)≤_;rw [cT_cons];exact Nat.le_refl _
  | some e=>exact Nat.le_trans (Nat.le_of_eq (by simp [lexPut,cT])) (Nat.zero_le _)
theorem lex_count:∀ (t:List UInt8)(p:Nat),cT (lexT p t).1≤t.count 40:=by
  refine lex_ind (M:=fun t=>∀ p,cT (lexT p t).1≤t.count 40) (fun p=>Nat.le_refl _) (fun c r hc ih p => ?_) (fun r ih p => ?_) (fun t h ih p => ?_) (fun c r h1 h2 h3 p => ?_)
  · rw [lexT_blank hc]
    refine Nat.le_trans (ih _) ?_
    rw [List.count_cons];omega
  · rw [lexT_line]
    refine Nat.le_trans (ih _) ?_
    rw [List.count_cons]
    exact Nat.le_trans (List.Sublist.count_le _ (List.drop_sublist _ _)) (Nat.le_add_right _ _)
  · rw [lexT_tok h]
    refine Nat.le_trans cT_put ?_
    have e:=List.take_append_drop (oneS t).2 t
    have:=ih (p+(oneS t).2)
    conv=>rhs;rw [← e]
    rw [List.count_append]
    split
    · rename_i e1
      rw [e1]
      simp
      omega
    · omega
  · rw [lexT_bad h1 h2 h3]
    exact Nat.zero_le _
theorem parse_fit (s:List UInt8):((parseP s).2.2≠0∧(parseP s).1=⟨[],[]⟩)∨∃ l,(∀ q∈l,RtOk q)∧l.length≤60∧parseP s=(progOf l,0,0)∧cK (progKt l)≤s.count 40:=by
  rcases parse_cases s with h|⟨l,_,h⟩
  · exact .inl h
  · unfold parseP at h ⊢
    rw [lexS_T] at h ⊢
    have hg:=lex_good s 0
    have hc:=lex_count s 0
    cases hx:lexT 0 s with|mk ts o =>
    rw [hx] at h hg hc
    cases o with
    | some e =>
      simp only [Prod.mk.injEq] at h
      exact absurd h.2.2 (by decide)
    | none =>
      simp only at h ⊢
      rw [parseT_eq] at h ⊢
      cases hr:readT s.length ts with
      | error e =>
        left
        have:=(prog_corr s.length ts.length (x:=ps0 ts) rfl)
        rw [show progK s.length ts.length (ps0 ts).rules.length (ps0 ts).ts = .error e from hr] at this
        exact ⟨this.1,rfl⟩
      | ok m =>
        right
        obtain ⟨k1,k2,k3⟩:=prog_fit _ _ _ _ hg (by omega) hr
        exact ⟨m,k1,by omega,rfl,Nat.le_trans k3 hc⟩
end Pay
end
/- What is written of a program that was read is its text. -/
section
set_option linter.unusedSimpArgs false
set_option linter.unusedVariables false
namespace Pay
open Go
theorem lf_cases {op nm:List UInt8} {v:Int} (h:LfOk op nm v):(op=wName∧Good 1 nm∧leafW (xLeaf op nm v)=nm)∨(nm=[]∧(op=wWhole∨op=wAmount∨op=wRate)):=by
  obtain ⟨h1,h2,_⟩:=h
  unfold leafE at h1
  simp only at h1
  split at h1
  · rename_i hk
    split at h1
    · injection h1 with h1;injection h1 with e1 e2 e3
      rw [hk] at h2
      exact .inl ⟨e1.symm,by rw [e2] at h2;exact h2,e2⟩
    · cases h1
  · split at h1
    · injection h1 with h1;injection h1 with e1 e2 e3
      exact .inr ⟨e2.symm,.inl e1.symm⟩
    · split at h1
      · injection h1 with h1;injection h1 with e1 e2 e3
        exact .inr ⟨e2.symm,.inr (.inl e1.symm)⟩
      · split at h1
        · injection h1 with h1;injection h1 with e1 e2 e3
          exact .inr ⟨e2.symm,.inr (.inr e1.symm)⟩
        · cases h1
theorem lf_lvl {op nm:List UInt8}{v:Int}(h:LfOk op nm v):lvlS op=4:=by
  rcases lf_cases h with ⟨rfl,_⟩|⟨_,rfl|rfl|rfl⟩ <;> decide
theorem lf_ne {op nm:List UInt8}{v:Int}(h:LfOk op nm v):leafW (xLeaf op nm v)≠[]:=by
  obtain ⟨c,r,e⟩:=h.2.1.cons
  rw [e];simp
def At (es:List Xpr)(n:Nat)(xs:List Xpr):Prop:=∀ (j:Nat)(x:Xpr),xs[j]? = some x→es[n+j]? = some x
theorem At.left {es xs ys:List Xpr}{n:Nat}(h:At es n (xs++ys)):At es n xs:=fun j x hx=>h j x (by
  rw [List.getElem?_append_left (List.getElem?_eq_some_iff.1 hx).1];exact hx)
theorem At.right {es xs ys:List Xpr}{n m:Nat}(h:At es n (xs++ys))(hm:m=n+xs.length):At es m ys:=fun j x hx=>by
  subst hm
  rw [Nat.add_assoc]
  exact h (xs.length+j) x (by rw [List.getElem?_append_right (Nat.le_add_right _ _),Nat.add_sub_cancel_left];exact hx)
theorem At.one {es:List Xpr}{n:Nat}{x:Xpr}(h:At es n [x]):es[n]? = some x:=h 0 x rfl
theorem wrM_s' {es:List Xpr}{k:Nat}(hk:1≤k)(u:List UInt8)(r:List It):wrM es k (.s u::r)=u++wrM es k r:=by
  obtain ⟨k,rfl⟩:∃ j,k=j+1:=⟨k-1,by omega⟩
  exact wrM_s es k u r
theorem leafW_node {op:List UInt8}(a b c:Nat)(h:op=wNeg∨op∈binOps∨op=wIf):leafW (xNode op a b c)=[]:=by
  have:op≠wWhole∧op≠wAmount∧op≠wRate∧op≠wName:=by
    rcases h with rfl|h|rfl
    · decide
    · exact (show ∀ o∈binOps,o≠wWhole∧o≠wAmount∧o≠wRate∧o≠wName by decide) op h
    · decide
  obtain ⟨h1,h2,h3,h4⟩:=this
  simp [leafW,xNode,h1,h2,h3,h4]
theorem wr_tree {es:List Xpr}:∀ (t:Xt) (n:Nat) (L:Int) (k:Nat) (r:List It),WfP t→At es n (flat n t)→L≤4→1≤k→wrM es (t.size+k) (.x ((n+t.size-1:Nat):Int) L::r)=prT t L++wrM es k r
  | .leaf op nm v,n,L,k,r,h,ha,hL,hk=>by
    have hx:es[(((n+1-1:Nat):Int)).toNat]? = some (xLeaf op nm v):=ha.one
    show wrM es (1+k) (.x ((n+1-1:Nat):Int) L::r)=leafW (xLeaf op nm v)++_
    rw [Nat.add_comm 1 k,wrM_x hx]
    have hl:¬lvlS (xLeaf op nm v).op<L:=by show ¬lvlS op<L;rw [lf_lvl h];omega
    have hp:partsW (xLeaf op nm v)=[.s (leafW (xLeaf op nm v))]:=if_pos (lf_ne h)
    rw [openW,if_neg hl,hp]
    exact wrM_s' hk _ _
  | .neg e,n,L,k,r,h,ha,hL,hk=>by
    have hp:=e.pos
    have ha1:At es n (flat n e):=ha.left
    have hx:es[(((n+(e.size+1)-1:Nat):Int)).toNat]? = some (xNode wNeg (n+e.size-1) 0 0):=(ha.right (by rw [flat_len];rfl)).one
    show wrM es (e.size+1+k) (.x ((n+(e.size+1)-1:Nat):Int) L::r)=(45::prT e 4)++_
    rw [show e.size+1+k=(e.size+k)+1 by omega,wrM_x hx]
    have hl:¬lvlS (xNode wNeg (n+e.size-1) 0 0).op<L:=by show ¬(4:Int)<L;omega
    have hq:partsW (xNode wNeg (n+e.size-1) 0 0)=[.s [45],.x ((n+e.size-1:Nat):Int) 4]:=by
      rw [partsW,leafW_node _ _ _ (.inl rfl)];rfl
    rw [openW,if_neg hl,hq]
    show wrM es (e.size+k) (.s [45] :: .x ((n+e.size-1:Nat):Int) 4::r)=_
    rw [wrM_s' (by omega),wr_tree e n 4 k r h ha1 (by decide) hk]
    simp
  | .bin op a b,n,L,k,r,h,ha,hL,hk=>by
    obtain ⟨h1,h2,h3⟩:=h
    have pa:=a.pos
    have pb:=b.pos
    have ha1:At es n (flat n a):=ha.left.left
    have hb1:At es (n+a.size) (flat (n+a.size) b):=ha.left.right (by rw [flat_len])
    have hx:es[(((n+(a.size+b.size+1)-1:Nat):Int)).toNat]? = some (xNode op (n+a.size-1) (n+a.size+b.size-1) 0) :=
      (ha.right (m:=n+(a.size+b.size+1)-1) (by rw [List.length_append,flat_len,flat_len];omega)).one
    have ia:=fun L k r hL hk=>wr_tree a n L k r h2 ha1 hL hk
    have ib:=fun L k r hL hk=>wr_tree b (n+a.size) L k r h3 hb1 hL hk
    have hlf:=leafW_node (n+a.size-1) (n+a.size+b.size-1) 0 (.inr (.inl h1):op=wNeg∨op∈binOps∨op=wIf)
    have hneg:op≠wNeg:=(bin_op h1).1
    have hif:op≠wIf:=(bin_op h1).2.2
    show wrM es (a.size+b.size+1+k) (.x ((n+(a.size+b.size+1)-1:Nat):Int) L::r)=_
    rw [show a.size+b.size+1+k=(a.size+(b.size+k))+1 by omega,wrM_x hx]
    cases hm:mmB op with
    | true =>
      have hlv:lvlS op=4:=by rcases mm_op hm with rfl|rfl <;> decide
      have hl:¬lvlS (xNode op (n+a.size-1) (n+a.size+b.size-1) 0).op<L:=by show ¬lvlS op<L;omega
      have hq:partsW (xNode op (n+a.size-1) (n+a.size+b.size-1) 0)=[.s (op++[40]),.x ((n+a.size-1:Nat):Int) 0,.s [44,32],.x ((n+a.size+b.size-1:Nat):Int) 0,.s [41]]:=by
        rw [partsW,hlf,if_neg (by simp),if_neg (by show ¬op=wNeg;exact hneg),if_pos (by show op=wMin∨op=wMax;exact mm_op hm)];rfl
      rw [openW,if_neg hl,hq]
      simp only [List.cons_append,List.nil_append]
      rw [wrM_s' (by omega),ia 0 _ _ (by decide) (by omega),wrM_s' (by omega),ib 0 _ _ (by decide) hk,wrM_s' hk]
      have e:prT (.bin op a b) L=op++40::(prT a 0++44::32::(prT b 0++[41])):=if_pos hm
      rw [e]
      simp
    | false =>
      have hlv:lvlS op≤3:=by
        rcases bin_lvl h1 with ⟨hh,_⟩|⟨_,_,hl⟩|⟨_,_,hl⟩|⟨_,_,hl⟩
        · rw [hm] at hh;cases hh
        all_goals omega
      have hmm:¬(op=wMin∨op=wMax):=fun h=>by
        rcases h with rfl|rfl <;> exact absurd hm (by decide)
      have hq:partsW (xNode op (n+a.size-1) (n+a.size+b.size-1) 0)=[.x ((n+a.size-1:Nat):Int) (max (lvlS op) 2),.s ([32]++op++[32]),.x ((n+a.size+b.size-1:Nat):Int) (lvlS op+1)]:=by
        rw [partsW,hlf,if_neg (by simp),if_neg (by show ¬op=wNeg;exact hneg),if_neg (by show ¬(op=wMin∨op=wMax);exact hmm),if_neg (by show ¬op=wIf;exact hif)];rfl
      have e:prT (.bin op a b) L=heldS (decide (lvlS op<L)) (prT a (max (lvlS op) 2)++32::(op++32::prT b (lvlS op+1))):=if_neg (by rw [hm];simp)
      rw [e,openW,hq]
      by_cases hl:lvlS op<L
      · rw [if_pos (by show lvlS op<L;exact hl),decide_eq_true hl]
        simp only [List.cons_append,List.nil_append]
        rw [wrM_s' (by omega),ia _ _ _ (by omega) (by omega),wrM_s' (by omega),ib _ _ _ (by omega) hk,wrM_s' hk]
        simp [heldS]
      · rw [if_neg (by show ¬lvlS op<L;exact hl),decide_eq_false hl]
        simp only [List.cons_append,List.nil_append]
        rw [ia _ _ _ (by omega) (by omega),wrM_s' (by omega),ib _ _ _ (by omega) hk]
        simp [heldS]
  | .ite a b c,n,L,k,r,h,ha,hL,hk=>by
    obtain ⟨h1,h2,h3⟩:=h
    have pa:=a.pos
    have pb:=b.pos
    have pc:=c.pos
    have ha1:At es n (flat n a):=ha.left.left.left
    have hb1:At es (n+a.size) (flat (n+a.size) b):=ha.left.left.right (by rw [flat_len])
    have hc1:At es (n+a.size+b.size) (flat (n+a.size+b.size) c):=ha.left.right (by rw [List.length_append,flat_len,flat_len];omega)
    have hx:es[(((n+(a.size+b.size+c.size+1)-1:Nat):Int)).toNat]? = some (xNode wIf (n+a.size-1) (n+a.size+b.size-1) (n+a.size+b.size+c.size-1)) :=
      (ha.right (m:=n+(a.size+b.size+c.size+1)-1) (by rw [List.length_append,List.length_append,flat_len,flat_len,flat_len];omega)).one
    have ia:=fun L k r hL hk=>wr_tree a n L k r h1 ha1 hL hk
    have ib:=fun L k r hL hk=>wr_tree b (n+a.size) L k r h2 hb1 hL hk
    have ic:=fun L k r hL hk=>wr_tree c (n+a.size+b.size) L k r h3 hc1 hL hk
    show wrM es (a.size+b.size+c.size+1+k) (.x ((n+(a.size+b.size+c.size+1)-1:Nat):Int) L::r)=_
    rw [show a.size+b.size+c.size+1+k=(a.size+(b.size+(c.size+k)))+1 by omega,wrM_x hx]
    have hq:partsW (xNode wIf (n+a.size-1) (n+a.size+b.size-1) (n+a.size+b.size+c.size-1))=[.s [105,102,32],.x ((n+a.size-1:Nat):Int) 0,.s [32,116,104,101,110,32],.x ((n+a.size+b.size-1:Nat):Int) 0,.s [32,101,108,115,101,32],.x ((n+a.size+b.size+c.size-1:Nat):Int) 0]:=by
      rw [partsW,leafW_node _ _ _ (.inr (.inr rfl))];rfl
    have e:prT (.ite a b c) L=heldS (decide (0<L)) (wIf++32::(prT a 0++32::(wThen++32::(prT b 0++32::(wElse++32::prT c 0))))):=rfl
    rw [e,openW,hq]
    by_cases hl:(0:Int)<L
    · rw [if_pos (by show lvlS wIf<L;exact hl),decide_eq_true hl]
      simp only [List.cons_append,List.nil_append]
      rw [wrM_s' (by omega),wrM_s' (by omega),ia _ _ _ (by omega) (by omega),wrM_s' (by omega),ib _ _ _ (by omega) (by omega),wrM_s' (by omega),ic _ _ _ (by omega) hk,wrM_s' hk]
      simp [heldS]
    · rw [if_neg (by show ¬lvlS wIf<L;exact hl),decide_eq_false hl]
      simp only [List.cons_append,List.nil_append]
      rw [wrM_s' (by omega),ia _ _ _ (by omega) (by omega),wrM_s' (by omega),ib _ _ _ (by omega) (by omega),wrM_s' (by omega),ic _ _ _ (by omega) hk]
      simp [heldS]
theorem write_tree {es:List Xpr}{t:Xt}{n:Nat}(h:WfP t)(ha:At es n (flat n t))(hn:n+t.size≤es.length):writeW es ((n+t.size-1:Nat):Int)=prT t 0:=by
  unfold writeW
  have:=wr_tree (es:=es) t n 0 (es.length+1-t.size) [] h ha (by decide) (by omega)
  rw [show t.size+(es.length+1-t.size)=es.length+1 by omega] at this
  rw [this,wrM_nil,List.append_nil]
theorem text_rules {es:List Xpr}:∀ (l:List RT)(n:Nat),(∀ q∈l,RtOk q)→At es n (exprsOf n l)→n+(exprsOf n l).length≤es.length→(rulesOf n l).flatMap (lineW es)=progTx l
  | [],n,_,_,_=>rfl
  | q::l,n,h,ha,hn=>by
    have hn:n+(flat n q.tree++exprsOf (n+q.tree.size) l).length≤es.length:=hn
    rw [List.length_append,flat_len] at hn
    have ha:At es n (flat n q.tree++exprsOf (n+q.tree.size) l):=ha
    show (_::rulesOf (n+q.tree.size) l).flatMap _=_
    unfold progTx
    rw [List.flatMap_cons,List.flatMap_cons,text_rules l (n+q.tree.size) (fun x hx=>h x (List.mem_cons_of_mem _ hx)) (ha.right (by rw [flat_len])) (by omega)]
    congr 1
    show lineX q.kind q.name (writeW es ((n+q.tree.size-1:Nat):Int))=_
    rw [write_tree (h q (by simp)).wf ha.left (by omega)]
theorem At.self (xs:List Xpr):At xs 0 xs:=fun j x h=>by rw [Nat.zero_add];exact h
theorem text_prog {l:List RT}(h:∀ q∈l,RtOk q):textW (progOf l)=progTx l:=text_rules l 0 h (At.self _) (by rw [Nat.zero_add];exact Nat.le_refl _)
def Snd (n:Nat)(xs:List Xpr):Prop:=∀ (j:Nat)(x:Xpr),xs[j]? = some x→soundX (n+j) x=true∧IRange x.val
theorem Snd.app {n m:Nat}{xs ys:List Xpr}(h:Snd n xs)(g:Snd m ys)(hm:m=n+xs.length):Snd n (xs++ys):=by
  intro j x hx
  by_cases hj:j<xs.length
  · rw [List.getElem?_append_left hj] at hx;exact h j x hx
  · rw [List.getElem?_append_right (by omega)] at hx
    have:=g _ x hx
    rwa [hm,show n+xs.length+(j-xs.length)=n+j by omega] at this
theorem Snd.one {n:Nat}{x:Xpr}(h:soundX n x=true∧IRange x.val):Snd n [x]:=by
  intro j y hy
  cases j with
  | zero=>simp at hy;subst hy;exact h
  | succ j=>simp at hy
theorem soundX_of {n:Nat}{x:Xpr}(ha:0≤x.a∧x.a<max (n:Int) 1)(hb:0≤x.b∧x.b<max (n:Int) 1)(hc:0≤x.c∧x.c<max (n:Int) 1)(h1:x.op.length≤12)(h2:x.name.length≤12):soundX n x=true:=by
  unfold soundX shPartOk
  rw [decide_eq_true ha.1,decide_eq_true ha.2,decide_eq_true hb.1,decide_eq_true hb.2,decide_eq_true hc.1,decide_eq_true hc.2,decide_eq_true h1,decide_eq_true h2]
  rfl
theorem soundR_of {n:Nat}{r:Rul}(h1:0≤r.root)(h2:r.root<(n:Int))(h3:r.kind.length≤12)(h4:r.name.length≤12):soundR n r=true:=by
  unfold soundR
  rw [decide_eq_true h1,decide_eq_true h2,decide_eq_true h3,decide_eq_true h4]
  rfl
theorem sound_node {n a b c:Nat}{op:List UInt8}(ho:op.length≤12)(ha:a<n)(hb:b<n)(hc:c<n):soundX n (xNode op a b c)=true∧IRange (xNode op a b c).val:=by
  refine ⟨soundX_of (x:=xNode op a b c) ?_ ?_ ?_ ho (by show 0≤12;omega),?_⟩
  · show 0≤(a:Int)∧(a:Int)<max (n:Int) 1;omega
  · show 0≤(b:Int)∧(b:Int)<max (n:Int) 1;omega
  · show 0≤(c:Int)∧(c:Int)<max (n:Int) 1;omega
  · show IRange 0;exact ⟨by decide,by decide⟩
theorem good_len1 {u:List UInt8}(h:Good 1 u):u.length≤12:=by
  obtain ⟨c,r,rfl⟩:=h.cons
  exact (good_kind h).2.2 rfl
theorem bin_len {op:List UInt8}(h:op∈binOps):op.length≤12:=(show ∀ o∈binOps,o.length≤12 by decide) op h
theorem flat_sound:∀ (t:Xt)(n:Nat),WfP t→Snd n (flat n t)
  | .leaf op nm v,n,h=>by
    refine Snd.one ⟨?_,h.2.2⟩
    have hl:op.length≤12∧nm.length≤12:=by
      rcases lf_cases h with ⟨rfl,hg,_⟩|⟨rfl,rfl|rfl|rfl⟩
      · exact ⟨by decide,good_len1 hg⟩
      all_goals decide
    have z:(0:Int)≤0∧(0:Int)<max (n:Int) 1:=by omega
    exact soundX_of (x:=xLeaf op nm v) z z z hl.1 hl.2
  | .neg e,n,h=>by
    have:=e.pos
    exact (flat_sound e n h).app (m:=n+e.size) (Snd.one (sound_node (by decide) (by omega) (by omega) (by omega))) (by rw [flat_len])
  | .bin op a b,n,h=>by
    have:=a.pos
    have:=b.pos
    exact ((flat_sound a n h.2.1).app (flat_sound b (n+a.size) h.2.2) (by rw [flat_len])).app (m:=n+a.size+b.size) (Snd.one (sound_node (bin_len h.1) (by omega) (by omega) (by omega))) (by rw [List.length_append,flat_len,flat_len];omega)
  | .ite a b c,n,h=>by
    have:=a.pos
    have:=b.pos
    have:=c.pos
    exact (((flat_sound a n h.1).app (flat_sound b (n+a.size) h.2.1) (by rw [flat_len])).app (flat_sound c (n+a.size+b.size) h.2.2) (by rw [List.length_append,flat_len,flat_len];omega)).app (m:=n+a.size+b.size+c.size)
      (Snd.one (sound_node (by decide) (by omega) (by omega) (by omega))) (by rw [List.length_append,List.length_append,flat_len,flat_len,flat_len];omega)
theorem exprs_sound:∀ (l:List RT)(n:Nat),(∀ q∈l,RtOk q)→Snd n (exprsOf n l)
  | [],n,_=>fun j x h=>by simp [exprsOf] at h
  | q::l,n,h=>(flat_sound q.tree n (h q (by simp)).wf).app (exprs_sound l (n+q.tree.size) (fun x hx=>h x (List.mem_cons_of_mem _ hx))) (by rw [flat_len])
theorem soundXs_of:∀ {xs:List Xpr}{n:Nat},Snd n xs→soundXs n xs=true
  | [],_,_=>rfl
  | x::xs,n,h=>by
    have h0:=(h 0 x rfl).1
    rw [Nat.add_zero] at h0
    rw [soundXs,h0,Bool.true_and]
    exact soundXs_of (fun j y hy=>by have:=h (j+1) y (by simpa using hy);rwa [show n+(j+1)=n+1+j by omega] at this)
theorem rules_sound:∀ (l:List RT)(n N:Nat),(∀ q∈l,RtOk q)→n+(exprsOf n l).length≤N→(rulesOf n l).all (soundR N)=true
  | [],_,_,_,_=>rfl
  | q::l,n,N,h,hn=>by
    have hn:n+(flat n q.tree++exprsOf (n+q.tree.size) l).length≤N:=hn
    rw [List.length_append,flat_len] at hn
    have hp:=q.tree.pos
    have hq:=h q (by simp)
    show (_::rulesOf (n+q.tree.size) l).all _=true
    rw [List.all_cons,rules_sound l (n+q.tree.size) N (fun x hx=>h x (List.mem_cons_of_mem _ hx)) (by omega),Bool.and_true]
    exact soundR_of (r:=⟨q.kind,q.name,((n+q.tree.size-1:Nat):Int)⟩) (by show (0:Int)≤((n+q.tree.size-1:Nat):Int);omega) (by show ((n+q.tree.size-1:Nat):Int)<(N:Int);omega) (good_len1 (good_kinds hq.kind)) (good_len1 hq.good)
theorem sound_prog {l:List RT}(h:∀ q∈l,RtOk q)(hn:l.length≤60):soundP (progOf l)=true:=by
  have h1:=soundXs_of (exprs_sound l 0 h)
  have h2:=rules_sound l 0 (exprsOf 0 l).length h (by omega)
  have h3:(rulesOf 0 l).length≤60:=by rw [rulesOf_len];exact hn
  show (soundXs 0 (exprsOf 0 l)&&(rulesOf 0 l).all (soundR (exprsOf 0 l).length)&&decide ((rulesOf 0 l).length≤60))=true
  rw [h1,h2]
  simpa using h3
theorem show_prog {l:List RT}(h:∀ q∈l,RtOk q)(hn:l.length≤60):showW (progOf l)=(progTx l,0):=by
  unfold showW
  rw [text_prog h,parse_print h hn,sound_prog h hn,if_pos ⟨rfl,rfl,rfl⟩]
end Pay
end
/- How long what is written may be; what stands on the stack. -/
section
set_option linter.unusedSimpArgs false
set_option linter.unusedVariables false
namespace Pay
open Go
def tl:List It→Nat
  | []=>0
  | .s u::r=>u.length+tl r
  | .x _ _::r=>tl r
theorem tl_app:∀ (a b:List It),tl (a++b)=tl a+tl b
  | [],b=>by simp [tl]
  | .s u::a,b=>by simp only [List.cons_append,tl,tl_app a b];omega
  | .x _ _::a,b=>by simp only [List.cons_append,tl,tl_app a b]
def ItOk (n:Nat):It→Prop
  | .s u=>u≠[]
  | .x i _=>0≤i∧i<(n:Int)
theorem textS_len (n:Int)(h:n≤9223372036854775807):(textS n).1.length≤62:=by
  by_cases ha:amt n=true
  · rw [textS_eq ha (by omega)]
    have h0 : -9223372036854775807≤n:=of_decide_eq_true ha
    show (textR n).length≤62
    unfold textR
    split
    · have:=textN_len n.natAbs (by omega)
      simp only [List.length_cons];omega
    · have:=textN_len n.toNat (by omega)
      omega
  · have e:(textS n).1=[]:=by
      unfold textS
      rw [if_neg ha]
    rw [e];simp
theorem leafW_len {x:Xpr} (hv:IRange x.val) (hn:x.name.length≤12):(leafW x).length≤64:=by
  unfold leafW
  split
  · have:=Lib.itoa_length_le x.val hv.1 hv.2
    omega
  · split
    · have:=textS_len x.val hv.2
      omega
    · split
      · unfold rateTextS
        split
        · rename_i h
          have hr:=rateR_iff.1 h
          have:=textN_len x.val.toNat (by omega)
          show (textR x.val++[37]).length≤64
          unfold textR
          rw [if_neg (by omega),List.length_append]
          simp only [List.length_cons,List.length_nil]
          omega
        · simp
      · split
        · omega
        · simp
theorem soundXs_get:∀ {xs:List Xpr}{n:Nat},soundXs n xs=true→∀ (j:Nat)(x:Xpr),xs[j]? = some x→soundX (n+j) x=true
  | [],_,_,j,x,hx=>by simp at hx
  | y :: xs,n,h,j,x,hx=>by
    rw [soundXs,Bool.and_eq_true] at h
    cases j with
    | zero=>simp at hx;subst hx;exact h.1
    | succ j =>
      have:=soundXs_get h.2 j x (by simpa using hx)
      rwa [show n+1+j=n+(j+1) by omega] at this
theorem soundX_iff {n:Nat}{x:Xpr}(h:soundX n x=true):(0≤x.a∧x.a<max (n:Int) 1)∧(0≤x.b∧x.b<max (n:Int) 1)∧(0≤x.c∧x.c<max (n:Int) 1)∧x.op.length≤12∧x.name.length≤12:=by
  simp only [soundX,shPartOk,Bool.and_eq_true] at h
  obtain ⟨⟨⟨⟨⟨h1,h2⟩,h3,h4⟩,h5,h6⟩,h7⟩,h8⟩:=h
  exact ⟨⟨of_decide_eq_true h1,of_decide_eq_true h2⟩,⟨of_decide_eq_true h3,of_decide_eq_true h4⟩,⟨of_decide_eq_true h5,of_decide_eq_true h6⟩,of_decide_eq_true h7,of_decide_eq_true h8⟩
theorem parts_ok {n j:Nat} {x:Xpr} (hj:j<n) (h:soundX j x=true):∀ it∈partsW x,ItOk n it:=by
  obtain ⟨⟨a1,a2⟩,⟨b1,b2⟩,⟨c1,c2⟩,_,_⟩:=soundX_iff h
  have ha:0≤x.a∧x.a<(n:Int):=by omega
  have hb:0≤x.b∧x.b<(n:Int):=by omega
  have hc:0≤x.c∧x.c<(n:Int):=by omega
  intro it hit
  unfold partsW at hit
  split at hit
  · rename_i hl
    simp only [List.mem_singleton] at hit
    subst hit;exact hl
  · split at hit
    · simp only [List.mem_cons,List.not_mem_nil,or_false] at hit
      rcases hit with rfl|rfl
      · simp [ItOk]
      · exact ha
    · split at hit
      · simp only [List.mem_cons,List.not_mem_nil,or_false] at hit
        rcases hit with rfl|rfl|rfl|rfl|rfl
        · simp [ItOk]
        · exact ha
        · simp [ItOk]
        · exact hb
        · simp [ItOk]
      · split at hit
        · simp only [List.mem_cons,List.not_mem_nil,or_false] at hit
          rcases hit with rfl|rfl|rfl|rfl|rfl|rfl
          · simp [ItOk]
          · exact ha
          · simp [ItOk]
          · exact hb
          · simp [ItOk]
          · exact hc
        · simp only [List.mem_cons,List.not_mem_nil,or_false] at hit
          rcases hit with rfl|rfl|rfl
          · exact ha
          · simp [ItOk]
          · exact hb
theorem open_ok {n j:Nat}{x:Xpr}(hj:j<n)(h:soundX j x=true)(l:Int):∀ it∈openW x l,ItOk n it:=by
  intro it hit
  unfold openW at hit
  split at hit
  · simp only [List.cons_append,List.mem_cons,List.mem_append,List.mem_singleton,List.not_mem_nil,or_false] at hit
    rcases hit with rfl|hit|rfl
    · simp [ItOk]
    · exact parts_ok hj h it hit
    · simp [ItOk]
  · exact parts_ok hj h it hit
theorem parts_size {x:Xpr} (hv:IRange x.val) (ho:x.op.length≤12) (hn:x.name.length≤12):(partsW x).length≤6∧tl (partsW x)≤400:=by
  have hl:=leafW_len hv hn
  unfold partsW
  split
  · simp only [List.length_singleton,tl];omega
  · split
    · simp [tl]
    · split
      · simp [tl];omega
      · split
        · simp [tl]
        · simp [tl];omega
theorem open_size {x:Xpr}(hv:IRange x.val)(ho:x.op.length≤12)(hn:x.name.length≤12)(l:Int):(openW x l).length≤8∧tl (openW x l)≤512:=by
  have:=parts_size hv ho hn
  unfold openW
  split
  · simp only [List.cons_append,List.length_cons,List.length_append,List.length_nil,tl,tl_app];omega
  · omega
structure OkE (es:List Xpr):Prop where
  sound:soundXs 0 es=true
  vals:∀ x∈es,IRange x.val
  len:es.length<100000
theorem wrM_len {es:List Xpr} (h:OkE es):∀ (k:Nat) (st:List It),(wrM es k st).length≤tl st+512*k
  | 0,st=>by simp [wrM]
  | k + 1,st=>by
    induction st with
    | nil=>simp [wrM_nil]
    | cons it st ih =>
      cases it with
      | s u=>rw [wrM_s,List.length_append];simp only [tl];omega
      | x i l =>
        simp only [wrM,front_x,List.nil_append]
        cases hx:es[i.toNat]? with
        | none=>simp
        | some x =>
          have hs:=soundX_iff (soundXs_get h.sound _ _ hx)
          have hz:=open_size (h.vals x (List.mem_of_getElem? hx)) hs.2.2.2.1 hs.2.2.2.2 l
          have:=wrM_len h k (openW x l++st)
          rw [tl_app] at this
          simp only [tl]
          omega
theorem writeW_len {es:List Xpr}(h:OkE es)(i:Int):(writeW es i).length≤512*(es.length+1):=by
  have:=wrM_len h (es.length+1) [.x i 0]
  simpa [tl,writeW] using this
theorem encIt_len (l:List It):∀ e∈(l.map encIt),e.length=3:=by
  intro e he
  obtain ⟨it,_,rfl⟩:=List.mem_map.1 he
  cases it <;> rfl
end Pay
end
/- What the laws of texts say, plainly. -/
section
set_option linter.unusedSimpArgs false
set_option linter.unusedVariables false
namespace Pay
open Go
theorem sprog_PK {all:List Tok}{en:Nat}:∀ (n:Nat)(x:PS),PK all x→PK all (progL en n x)
  | 0,x,h=>h
  | n+1,x,h=>by
    unfold progL
    split
    · exact h
    · exact sprog_PK n _ h.rule
theorem sparse_small (s:List UInt8) (hs:s.length<100000):(parseP s).1.rules.length≤s.length∧(parseP s).1.exprs.length≤s.length:=by
  unfold parseP
  cases hl:lexS s with|mk ts o =>
  cases o with
  | some e=>simp
  | none =>
    have hp:=sprog_PK (en:=s.length) ts.length _ (lex_PK hs hl)
    have h1:=hp.many
    have h2:=hp.rules
    have hc:ts.length≤s.length:=by
      have hc:Chain s 0 ts:=by
        have:=lex_chain s s 0 rfl (Nat.zero_le _)
        rw [← lexS_T,hl] at this
        exact this
      have:=chain_many hc (Nat.zero_le _)
      omega
    simp only
    unfold parseT
    simp only
    split
    · simp only;omega
    · simp
theorem lf_len {op nm:List UInt8}{v:Int}(h:LfOk op nm v):(leafW (xLeaf op nm v)).length≤64 :=
  leafW_len (x:=xLeaf op nm v) h.2.2 (by
    rcases lf_cases h with ⟨rfl,hg,_⟩|⟨rfl,_⟩
    · exact good_len1 hg
    · show ([]:List UInt8).length≤12;decide)
theorem held_len (b:Bool)(s:List UInt8):(heldS b s).length≤s.length+2:=by
  cases b <;> simp [heldS]
theorem prT_len:∀ (t:Xt)(L:Int),WfP t→(prT t L).length≤64*t.size
  | .leaf op nm v,L,h=>by
    have:=lf_len h
    show (leafW (xLeaf op nm v)).length≤64*1
    omega
  | .neg e,L,h=>by
    have:=prT_len e 4 h
    show (prT e 4).length+1≤64*(e.size+1)
    omega
  | .bin op a b,L,h=>by
    obtain ⟨h1,h2,h3⟩:=h
    have ho:=bin_len h1
    have a0:=prT_len a 0 h2
    have b0:=prT_len b 0 h3
    have a1:=prT_len a (max (lvlS op) 2) h2
    have b1:=prT_len b (lvlS op+1) h3
    show _≤64*(a.size+b.size+1)
    unfold prT
    split
    · simp only [List.length_append,List.length_cons,List.length_nil];omega
    · refine Nat.le_trans (held_len _ _) ?_
      simp only [List.length_append,List.length_cons,List.length_nil];omega
  | .ite a b c,L,h=>by
    obtain ⟨h1,h2,h3⟩:=h
    have a0:=prT_len a 0 h1
    have b0:=prT_len b 0 h2
    have c0:=prT_len c 0 h3
    show (heldS _ _).length≤64*(a.size+b.size+c.size+1)
    refine Nat.le_trans (held_len _ _) ?_
    simp only [List.length_append,List.length_cons,List.length_nil];omega
theorem progTx_len:∀ (l:List RT)(n:Nat),(∀ q∈l,RtOk q)→(progTx l).length≤64*(exprsOf n l).length+64*l.length
  | [],n,_=>by simp [progTx]
  | q :: l,n,h=>by
    have hq:=h q (by simp)
    have ih:=progTx_len l (n+q.tree.size) (fun x hx=>h x (List.mem_cons_of_mem _ hx))
    have h1:=prT_len q.tree 0 hq.wf
    have h2:=good_len1 (good_kinds hq.kind)
    have h3:=good_len1 hq.good
    have hL:(lineX q.kind q.name (prT q.tree 0)).length≤32+64*q.tree.size:=by
      simp only [lineX,List.length_append,List.length_cons,List.length_nil];omega
    unfold progTx at ih ⊢
    rw [List.flatMap_cons,List.length_append]
    show _≤64*(flat n q.tree++exprsOf (n+q.tree.size) l).length+64*(l.length+1)
    rw [List.length_append,flat_len]
    omega
structure ReadOk (s:List UInt8) (l:List RT):Prop where
  rts:∀ q∈l,RtOk q
  many:l.length≤60
  eq:parseP s=(progOf l,0,0)
  size:(progOf l).exprs.length≤s.length
  cnt:cK (progKt l)≤s.count 40
theorem read_facts (s:List UInt8)(hs:s.length<100000):((parseP s).2.2≠0∧(parseP s).1=⟨[],[]⟩)∨∃ l,ReadOk s l:=by
  rcases parse_fit s with h|⟨l,h1,h2,h3,h4⟩
  · exact .inl h
  · have h5:=(sparse_small s hs).2
    rw [h3] at h5
    exact .inr ⟨l,h1,h2,h3,h5,h4⟩
theorem prog_rules {l:List RT}(hn:l.length≤60):(progOf l).rules.length≤60:=by
  show (rulesOf 0 l).length≤60
  rw [rulesOf_len];exact hn
theorem prog_okE {l:List RT}(h:∀ q∈l,RtOk q)(hn:l.length≤60)(hx:(progOf l).exprs.length<100000):OkE (progOf l).exprs:=by
  have hs:=sound_prog h hn
  refine ⟨?_,fun x hx => ?_,hx⟩
  · simp only [soundP,Bool.and_eq_true] at hs
    exact hs.1.1
  · obtain ⟨j,hj,rfl⟩:=List.mem_iff_getElem.1 hx
    exact (exprs_sound l 0 h j _ (List.getElem?_eq_getElem hj)).2
theorem prog_text_len {l:List RT}(h:∀ q∈l,RtOk q)(hn:l.length≤60)(hx:(progOf l).exprs.length≤1000):(progTx l).length<100000:=by
  have h1:=progTx_len l 0 h
  have h2:(exprsOf 0 l).length≤1000:=hx
  omega
end Pay
end
/- Each expression of a program is a tree's root; its text, as a rule of its own. -/
section
set_option linter.unusedSimpArgs false
set_option linter.unusedVariables false
namespace Pay
open Go
structure SubT (es:List Xpr) (d N j:Nat) (u:Xt) (m:Nat):Prop where
  wf:WfP u
  nd:ndT u 0≤d
  at_:At es m (flat m u)
  hi:m+u.size≤N
  eq:j=m+u.size-1
theorem SubT.mono {es:List Xpr}{d d' N N' j m:Nat}{u:Xt}(h:SubT es d N j u m)(hd:d≤d')(hN:N≤N'):SubT es d' N' j u m :=
  ⟨h.wf,Nat.le_trans h.nd hd,h.at_,Nat.le_trans h.hi hN,h.eq⟩
theorem lvl_nn (op:List UInt8):0≤lvlS op:=by
  unfold lvlS
  repeat' split
  all_goals omega
theorem sub_tree {es:List Xpr}:∀ (t:Xt) (n j:Nat),WfP t→At es n (flat n t)→n≤j→j<n+t.size→∃ u m,SubT es (ndT t 0) (n+t.size) j u m
  | .leaf op nm v,n,j,h,ha,h1,h2=>⟨.leaf op nm v,n,h,Nat.le_refl _,ha,Nat.le_refl _,by simp only [Xt.size] at *;omega⟩
  | .neg e,n,j,h,ha,h1,h2=>by
    have hs:(Xt.neg e).size=e.size+1:=rfl
    by_cases hj:j=n+e.size
    · exact ⟨.neg e,n,h,Nat.le_refl _,ha,Nat.le_refl _,by rw [hs];omega⟩
    · obtain ⟨u,m,hu⟩:=sub_tree e n j h ha.left h1 (by omega)
      refine ⟨u,m,hu.mono ?_ (by omega)⟩
      show _≤ndT e 4+1
      have:=(nd_mono (t:=e) (L:=0) (M:=4) (by decide)).1
      omega
  | .bin op a b,n,j,h,ha,h1,h2=>by
    have hs:(Xt.bin op a b).size=a.size+b.size+1:=rfl
    have hl:=lvl_nn op
    have na:ndT a 0≤ndT (.bin op a b) 0∧ndT b 0≤ndT (.bin op a b) 0:=by
      cases hm:mmB op with
      | true=>rw [nd_mm hm];omega
      | false =>
        rw [nd_bin' hm]
        have e1:=(nd_mono (t:=a) (L:=0) (M:=max (lvlS op) 2) (by omega)).1
        have e2:=(nd_mono (t:=b) (L:=0) (M:=lvlS op+1) (by omega)).1
        omega
    by_cases hj:j=n+a.size+b.size
    · exact ⟨.bin op a b,n,h,Nat.le_refl _,ha,Nat.le_refl _,by rw [hs];omega⟩
    · by_cases hj2:j<n+a.size
      · obtain ⟨u,m,hu⟩:=sub_tree a n j h.2.1 ha.left.left h1 hj2
        exact ⟨u,m,hu.mono na.1 (by omega)⟩
      · obtain ⟨u,m,hu⟩:=sub_tree b (n+a.size) j h.2.2 (ha.left.right (by rw [flat_len])) (by omega) (by omega)
        exact ⟨u,m,hu.mono na.2 (by omega)⟩
  | .ite a b c,n,j,h,ha,h1,h2=>by
    have hs:(Xt.ite a b c).size=a.size+b.size+c.size+1:=rfl
    have na:ndT a 0≤ndT (.ite a b c) 0∧ndT b 0≤ndT (.ite a b c) 0∧ndT c 0≤ndT (.ite a b c) 0:=by
      rw [nd_ite];omega
    by_cases hj:j=n+a.size+b.size+c.size
    · exact ⟨.ite a b c,n,h,Nat.le_refl _,ha,Nat.le_refl _,by rw [hs];omega⟩
    · by_cases hj2:j<n+a.size
      · obtain ⟨u,m,hu⟩:=sub_tree a n j h.1 ha.left.left.left h1 hj2
        exact ⟨u,m,hu.mono na.1 (by omega)⟩
      · by_cases hj3:j<n+a.size+b.size
        · obtain ⟨u,m,hu⟩:=sub_tree b (n+a.size) j h.2.1 (ha.left.left.right (by rw [flat_len])) (by omega) (by omega)
          exact ⟨u,m,hu.mono na.2.1 (by omega)⟩
        · obtain ⟨u,m,hu⟩:=sub_tree c (n+a.size+b.size) j h.2.2 (ha.left.right (by rw [List.length_append,flat_len,flat_len];omega)) (by omega) (by omega)
          exact ⟨u,m,hu.mono na.2.2 (by omega)⟩
theorem sub_prog {es:List Xpr}:∀ (l:List RT)(n j:Nat),(∀ q∈l,RtOk q)→At es n (exprsOf n l)→n≤j→j<n+(exprsOf n l).length→∃ u m,SubT es 20 (n+(exprsOf n l).length) j u m
  | [],n,j,_,_,h1,h2=>by simp [exprsOf] at h2;omega
  | q :: l,n,j,h,ha,h1,h2=>by
    have e:exprsOf n (q::l)=flat n q.tree++exprsOf (n+q.tree.size) l:=rfl
    rw [e] at ha h2 ⊢
    rw [List.length_append,flat_len] at h2 ⊢
    by_cases hj:j<n+q.tree.size
    · obtain ⟨u,m,hu⟩:=sub_tree q.tree n j (h q (by simp)).wf ha.left h1 hj
      exact ⟨u,m,hu.mono (h q (by simp)).nd (by omega)⟩
    · obtain ⟨u,m,hu⟩:=sub_prog l (n+q.tree.size) j (fun x hx=>h x (List.mem_cons_of_mem _ hx)) (ha.right (by rw [flat_len])) (by omega) (by omega)
      exact ⟨u,m,hu.mono (Nat.le_refl _) (by omega)⟩
end Pay
end
/- Whole numbers, digit by digit. -/
section
set_option linter.unusedSimpArgs false
set_option linter.unusedVariables false
namespace Pay
open Go
def valN (s:List UInt8):Nat:=s.foldl (fun n c=>10*n+(c.toNat-48)) 0
theorem valN_snoc (s:List UInt8)(c:UInt8):valN (s++[c])=10*valN s+(c.toNat-48):=by simp [valN]
theorem valN_dec:∀ n:Nat,valN (Lib.decDigits n)=n:=by
  intro n
  induction n using Nat.strongRecOn with
  | ind n ih =>
    by_cases h:n<10
    · rw [dec_one h]
      simp [valN,dg1_nat h]
    · rw [dec_step h,valN_snoc,ih _ (by omega),dg1_nat (by omega)]
      omega
theorem valN_take {s:List UInt8}{i:Nat}(h:i<s.length):valN (s.take (i+1))=10*valN (s.take i)+(s[i].toNat-48):=by
  rw [List.take_add_one,List.getElem?_eq_getElem h]
  exact valN_snoc _ _
theorem valN_lt:∀ (k:Nat)(s:List UInt8),s.length=k→s.all digB=true→valN s<10 ^ k
  | 0,s,hl,_=>by
    rw [List.eq_nil_of_length_eq_zero hl]
    simp [valN]
  | k+1,s,hl,ha=>by
    obtain ⟨s',c,rfl⟩:∃ s' c,s=s'++[c]:=⟨s.dropLast,s.getLast (by intro e;subst e;simp at hl),(List.dropLast_concat_getLast _).symm⟩
    have hl':s'.length=k:=by simp at hl;exact hl
    simp only [List.all_append,Bool.and_eq_true,List.all_cons,List.all_nil,Bool.and_true] at ha
    have ih:=valN_lt k s' hl' ha.1
    obtain ⟨h1,h2⟩:=digB_iff.1 ha.2
    rw [valN_snoc,Nat.pow_succ]
    omega
theorem good_whole {u:List UInt8} (h:Good 2 u):u.all digB=true∧u.length≤9∧atoiV u=(valN u:Int):=by
  obtain ⟨hf,c,r,hu,_⟩:=good_fig h (by decide) (by decide)
  unfold figS at hf
  split at hf
  · exact absurd hf (by decide)
  · split at hf
    · exact absurd hf (by decide)
    · split at hf
      · rename_i hw
        have hw':=hw
        simp only [wholeB,Bool.and_eq_true,decide_eq_true_eq,Bool.or_eq_true,beq_iff_eq,bne_iff_ne,ne_eq] at hw
        obtain ⟨⟨h1,h2⟩,h3⟩:=hw
        obtain ⟨n,e,hlt,_⟩:=canon (u.length-1) u (by rw [hu];simp) h2 h3
        rw [show u.length-1+1=u.length by rw [hu];simp] at hlt
        have:n<10 ^ 9:=Nat.lt_of_lt_of_le hlt (Nat.pow_le_pow_right (by decide) h1)
        refine ⟨h2,h1,?_⟩
        rw [atoiV,e,atoi_dec (by omega),valN_dec]
      · exact absurd hf (by decide)
end Pay
end
/- The texts of all expressions, one by one, as the document writes them. -/
section
set_option linter.unusedSimpArgs false
set_option linter.unusedVariables false
namespace Pay
open Go
def partR (es:List Xpr)(l:List (List UInt8))(i:Nat)(k:Int):List UInt8 × Int :=
  if 0≤k∧k<(i:Int) then ((l[k.toNat]?).getD [],match es[k.toNat]? with|some x=>lvlS x.op|none=>4) else ([],0)
def opR (x:Xpr)(a b c:List UInt8 × Int):List UInt8 :=
  if x.op=wWhole then Lib.decDigits x.val.toNat
  else if x.op=wAmount then textR x.val
  else if x.op=wRate then textR x.val++[37]
  else if x.op=wName then x.name
  else if x.op=wNeg then [45]++heldS (decide (a.2<4)) a.1
  else if x.op=wMin∨x.op=wMax then x.op++[40]++a.1++[44,32]++b.1++[41]
  else if x.op=wIf then [105,102,32]++a.1++[32,116,104,101,110,32]++b.1++[32,101,108,115,101,32]++c.1
  else if x.op=[43]∨x.op=[45] then heldS (decide (a.2<2)) a.1++[32]++x.op++[32]++heldS (decide (b.2<3)) b.1
  else if x.op=[42] then heldS (decide (a.2<3)) a.1++[32,42,32]++heldS (decide (b.2<4)) b.1
  else heldS (decide (a.2<2)) a.1++[32]++x.op++[32]++heldS (decide (b.2<2)) b.1
def exR (es:List Xpr)(l:List (List UInt8))(i:Nat)(x:Xpr):List UInt8:=opR x (partR es l i x.a) (partR es l i x.b) (partR es l i x.c)
def textsR (es:List Xpr):Nat→List (List UInt8)
  | 0=>[]
  | k+1=>textsR es k++[match es[k]? with|some x=>exR es (textsR es k) k x|none=>[]]
theorem textsR_len (es:List Xpr):∀ k,(textsR es k).length=k
  | 0=>rfl
  | k+1=>by simp [textsR,textsR_len es k]
theorem textsR_get (es:List Xpr){j:Nat}{x:Xpr}(hx:es[j]? = some x):∀ k,j<k→(textsR es k)[j]? = some (exR es (textsR es j) j x)
  | 0,h=>by omega
  | k + 1,h=>by
    by_cases hj:j=k
    · subst hj
      rw [textsR,List.getElem?_append_right (by rw [textsR_len];exact Nat.le_refl _),textsR_len,Nat.sub_self,hx];rfl
    · rw [textsR,List.getElem?_append_left (by rw [textsR_len];omega)]
      exact textsR_get es hx k (by omega)
theorem heldS_false (s:List UInt8):heldS false s=s:=rfl
theorem prT_held {t:Xt}{L:Int}(hw:WfP t)(hL:L≤4):prT t L=heldS (decide (lvT t<L)) (prT t 0):=by
  cases t with
  | leaf op nm v=>rw [show lvT (.leaf op nm v)=4 from rfl,decide_eq_false (by omega)];rfl
  | neg e=>rw [show lvT (.neg e)=4 from rfl,decide_eq_false (by omega)];rfl
  | bin op a b =>
    rw [show lvT (.bin op a b)=lvlS op from rfl]
    cases hm:mmB op with
    | true =>
      have h4:lvlS op=4:=by rcases mm_op hm with rfl|rfl <;> decide
      rw [h4,decide_eq_false (by omega),heldS_false]
      simp only [prT,hm,if_true]
    | false =>
      have hl:=lvl_nn op
      have h0:decide (lvlS op<0)=false:=decide_eq_false (by omega)
      simp only [prT,hm,Bool.false_eq_true,if_false,h0,heldS_false]
  | ite a b c =>
    rw [show lvT (.ite a b c)=0 from rfl]
    simp only [prT,show decide ((0:Int)<0)=false from rfl,heldS_false]
theorem leaf_text {op nm:List UInt8} {v:Int} (h:LfOk op nm v) (a b c:List UInt8 × Int):opR (xLeaf op nm v) a b c=leafW (xLeaf op nm v)∧(op=wWhole→0≤v)∧(op=wAmount∨op=wRate → -9223372036854775808<v):=by
  obtain ⟨_,hg,hv⟩:=id h
  rcases lf_cases h with ⟨rfl,_,e⟩|⟨rfl,rfl|rfl|rfl⟩
  · refine ⟨?_,fun h=>absurd h (by decide),fun h=>absurd h (by decide)⟩
    rw [e];rfl
  · have hg:Good 2 (Lib.itoa v):=hg
    obtain ⟨g1,_,_⟩:=good_whole hg
    have h0:0≤v:=by
      refine Int.not_lt.1 (fun hn => ?_)
      unfold Lib.itoa at g1
      rw [if_pos hn] at g1
      simp only [List.all_cons,Bool.and_eq_true] at g1
      exact absurd g1.1 (by decide)
    refine ⟨?_,fun _=>h0,fun h=>absurd h (by decide)⟩
    show Lib.decDigits v.toNat=Lib.itoa v
    unfold Lib.itoa
    rw [if_neg (by omega)]
  · have hg:Good 3 (textS v).1:=hg
    have ha:amt v=true:=by
      cases ha:amt v with
      | true=>rfl
      | false =>
        obtain ⟨d,u,e⟩:=hg.cons
        have:(textS v).1=[]:=by unfold textS;rw [if_neg (by simp [ha])]
        rw [this] at e;cases e
    have h0 : -9223372036854775807≤v:=of_decide_eq_true ha
    refine ⟨?_,fun h=>absurd h (by decide),fun _=>by omega⟩
    show textR v=(textS v).1
    rw [textS_eq ha (by have:=hv.2;omega)]
  · have hg:Good 4 (rateTextS v).1:=hg
    have ha:rateR v=true:=by
      cases ha:rateR v with
      | true=>rfl
      | false =>
        obtain ⟨d,u,e⟩:=hg.cons
        have:(rateTextS v).1=[]:=by unfold rateTextS;rw [if_neg (by simp [ha])]
        rw [this] at e;cases e
    have h0:=rateR_iff.1 ha
    refine ⟨?_,fun h=>absurd h (by decide),fun _=>by omega⟩
    show textR v++[37]=(rateTextS v).1
    unfold rateTextS;rw [if_pos ha]
theorem root_op {es:List Xpr}:∀ (t:Xt)(m:Nat),WfP t→At es m (flat m t)→∃ x,es[m+t.size-1]? = some x∧lvlS x.op=lvT t
  | .leaf op nm v,m,h,ha=>⟨_,ha.one,lf_lvl h⟩
  | .neg e,m,h,ha=>⟨_,by
      have:=(At.right (m:=m+e.size) ha (by rw [flat_len])).one
      exact this,by show lvlS wNeg=4;decide⟩
  | .bin op a b,m,h,ha=>⟨xNode op (m+a.size-1) (m+a.size+b.size-1) 0,by
      rw [show m+(Xt.bin op a b).size-1=m+a.size+b.size by simp only [Xt.size];omega]
      have:=(At.right (m:=m+a.size+b.size) ha (by rw [List.length_append,flat_len,flat_len];omega)).one
      exact this,rfl⟩
  | .ite a b c,m,h,ha=>⟨xNode wIf (m+a.size-1) (m+a.size+b.size-1) (m+a.size+b.size+c.size-1),by
      rw [show m+(Xt.ite a b c).size-1=m+a.size+b.size+c.size by simp only [Xt.size];omega]
      have:=(At.right (m:=m+a.size+b.size+c.size) ha (by rw [List.length_append,List.length_append,flat_len,flat_len,flat_len];omega)).one
      exact this,by show lvlS wIf=0;decide⟩
theorem part_of {es:List Xpr}{t:Xt}{m i:Nat}{l:List (List UInt8)}(hw:WfP t)(ha:At es m (flat m t))(hi:m+t.size≤i)(hl:l[m+t.size-1]? = some (prT t 0)):partR es l i ((m+t.size-1:Nat):Int)=(prT t 0,lvT t):=by
  have hp:=t.pos
  obtain ⟨x,hx,hv⟩:=root_op t m hw ha
  unfold partR
  rw [if_pos ⟨by omega,by omega⟩,Int.toNat_natCast,hl,hx]
  simp only [hv];rfl
theorem tree_texts {es:List Xpr}:∀ (t:Xt)(m:Nat),WfP t→At es m (flat m t)→∀ k,m+t.size≤k→(textsR es k)[m+t.size-1]? = some (prT t 0)
  | .leaf op nm v,m,h,ha,k,hk=>by
    have hk:m+1≤k:=hk
    show (textsR es k)[m+1-1]? = _
    rw [Nat.add_sub_cancel,textsR_get es ha.one k (by omega)]
    show some (opR (xLeaf op nm v) _ _ _)=some (leafW (xLeaf op nm v))
    rw [(leaf_text h _ _ _).1]
  | .neg e,m,h,ha,k,hk=>by
    have hs:(Xt.neg e).size=e.size+1:=rfl
    have hx:=(At.right (m:=m+e.size) ha (by rw [flat_len])).one
    rw [hs] at hk ⊢
    rw [show m+(e.size+1)-1=m+e.size by omega,textsR_get es hx k (by omega)]
    have ih:=tree_texts e m h ha.left (m+e.size) (Nat.le_refl _)
    have hp:=part_of (t:=e) h ha.left (Nat.le_refl _) ih
    unfold exR
    show some (opR (xNode wNeg (m+e.size-1) 0 0) (partR es _ _ ((m+e.size-1:Nat):Int)) _ _)=some (45::prT e 4)
    rw [hp,prT_held (t:=e) h (Int.le_refl 4)]
    rfl
  | .bin op a b,m,h,ha,k,hk=>by
    obtain ⟨h1,h2,h3⟩:=h
    have hs:(Xt.bin op a b).size=a.size+b.size+1:=rfl
    have hx:=(At.right (m:=m+a.size+b.size) ha (by rw [List.length_append,flat_len,flat_len];omega)).one
    have haa:At es m (flat m a):=ha.left.left
    have hab:At es (m+a.size) (flat (m+a.size) b):=At.right (m:=m+a.size) ha.left (by rw [flat_len])
    rw [hs] at hk ⊢
    rw [show m+(a.size+b.size+1)-1=m+a.size+b.size by omega,textsR_get es hx k (by omega)]
    have pa:=part_of (t:=a) h2 haa (i:=m+a.size+b.size) (by omega) (tree_texts a m h2 haa (m+a.size+b.size) (by omega))
    have pb:=part_of (t:=b) h3 hab (i:=m+a.size+b.size) (by omega) (tree_texts b (m+a.size) h3 hab (m+a.size+b.size) (by omega))
    unfold exR
    show some (opR (xNode op (m+a.size-1) (m+a.size+b.size-1) 0) (partR es _ _ ((m+a.size-1:Nat):Int)) (partR es _ _ ((m+a.size+b.size-1:Nat):Int)) _)=some (prT (.bin op a b) 0)
    rw [pa,pb]
    have e2:=fun t (hw:WfP t)=>(prT_held (L:=2) hw (by decide)).symm
    have e3:=fun t (hw:WfP t)=>(prT_held (L:=3) hw (by decide)).symm
    have e4:=fun t (hw:WfP t)=>(prT_held (L:=4) hw (by decide)).symm
    rcases bin_list h1 with rfl|rfl|rfl|rfl|rfl|rfl|rfl|rfl|rfl|rfl|rfl
    all_goals
      simp only [opR,xNode,e2 _ h2,e2 _ h3,e3 _ h2,e3 _ h3,e4 _ h3,prT]
      simp [mmB,lvlS,heldS]
    all_goals rfl
  | .ite a b c,m,h,ha,k,hk=>by
    obtain ⟨h1,h2,h3⟩:=h
    have hs:(Xt.ite a b c).size=a.size+b.size+c.size+1:=rfl
    have hx:=(At.right (m:=m+a.size+b.size+c.size) ha (by rw [List.length_append,List.length_append,flat_len,flat_len,flat_len];omega)).one
    have haa:At es m (flat m a):=ha.left.left.left
    have hab:At es (m+a.size) (flat (m+a.size) b):=At.right (m:=m+a.size) ha.left.left (by rw [flat_len])
    have hac:At es (m+a.size+b.size) (flat (m+a.size+b.size) c):=At.right (m:=m+a.size+b.size) ha.left (by rw [List.length_append,flat_len,flat_len];omega)
    rw [hs] at hk ⊢
    rw [show m+(a.size+b.size+c.size+1)-1=m+a.size+b.size+c.size by omega,textsR_get es hx k (by omega)]
    have pa:=part_of (t:=a) h1 haa (i:=m+a.size+b.size+c.size) (by omega) (tree_texts a m h1 haa (m+a.size+b.size+c.size) (by omega))
    have pb:=part_of (t:=b) h2 hab (i:=m+a.size+b.size+c.size) (by omega) (tree_texts b (m+a.size) h2 hab (m+a.size+b.size+c.size) (by omega))
    have pc:=part_of (t:=c) h3 hac (i:=m+a.size+b.size+c.size) (by omega) (tree_texts c (m+a.size+b.size) h3 hac (m+a.size+b.size+c.size) (by omega))
    unfold exR
    show some (opR (xNode wIf (m+a.size-1) (m+a.size+b.size-1) (m+a.size+b.size+c.size-1)) (partR es _ _ ((m+a.size-1:Nat):Int)) (partR es _ _ ((m+a.size+b.size-1:Nat):Int)) (partR es _ _ ((m+a.size+b.size+c.size-1:Nat):Int)))=some (prT (.ite a b c) 0)
    rw [pa,pb,pc]
    simp [opR,xNode,prT,heldS]
structure ExOk (x:Xpr):Prop where
  op:x.op.length≤12
  name:x.name.length≤12
  whole:x.op=wWhole→0≤x.val
  low:x.op=wAmount∨x.op=wRate → -9223372036854775808<x.val
  vals:IRange x.val
theorem tree_ok:∀ (t:Xt) (m:Nat),WfP t→∀ x∈flat m t,(x.op=wWhole→0≤x.val)∧(x.op=wAmount∨x.op=wRate → -9223372036854775808<x.val)
  | .leaf op nm v,m,h,x,hx=>by
    simp only [flat,List.mem_singleton] at hx
    subst hx
    exact (leaf_text h ([],0) ([],0) ([],0)).2
  | .neg e,m,h,x,hx=>by
    rcases List.mem_append.1 hx with hx|hx
    · exact tree_ok e m h x hx
    · simp only [List.mem_singleton] at hx
      subst hx
      exact ⟨fun _=>(by decide:(0:Int)≤0),fun _=>(by decide:(-9223372036854775808:Int)<0)⟩
  | .bin op a b,m,h,x,hx=>by
    rcases List.mem_append.1 hx with hx|hx
    · rcases List.mem_append.1 hx with hx|hx
      · exact tree_ok a m h.2.1 x hx
      · exact tree_ok b _ h.2.2 x hx
    · simp only [List.mem_singleton] at hx
      subst hx
      refine ⟨fun h => ?_,fun h => ?_⟩
      · show (0:Int)≤0;decide
      · show (-9223372036854775808:Int)<0;decide
  | .ite a b c,m,h,x,hx=>by
    rcases List.mem_append.1 hx with hx|hx
    · rcases List.mem_append.1 hx with hx|hx
      · rcases List.mem_append.1 hx with hx|hx
        · exact tree_ok a m h.1 x hx
        · exact tree_ok b _ h.2.1 x hx
      · exact tree_ok c _ h.2.2 x hx
    · simp only [List.mem_singleton] at hx
      subst hx
      exact ⟨fun _=>(by decide:(0:Int)≤0),fun _=>(by decide:(-9223372036854775808:Int)<0)⟩
theorem exprs_ok:∀ (l:List RT)(n:Nat),(∀ q∈l,RtOk q)→∀ x∈exprsOf n l,(x.op=wWhole→0≤x.val)∧(x.op=wAmount∨x.op=wRate → -9223372036854775808<x.val)
  | [],n,_,x,hx=>by simp [exprsOf] at hx
  | q::l,n,h,x,hx=>by
    have hx:x∈flat n q.tree++exprsOf (n+q.tree.size) l:=hx
    rcases List.mem_append.1 hx with hx|hx
    · exact tree_ok q.tree n (h q (by simp)).wf x hx
    · exact exprs_ok l _ (fun y hy=>h y (List.mem_cons_of_mem _ hy)) x hx
theorem read_ok {l:List RT}(h:∀ q∈l,RtOk q)(hE:OkE (progOf l).exprs):∀ x∈(progOf l).exprs,ExOk x:=by
  intro x hx
  obtain ⟨j,hj,hxj⟩:=List.mem_iff_getElem.1 hx
  have hs:=soundX_iff (soundXs_get hE.sound j x (by rw [← hxj];exact List.getElem?_eq_getElem hj))
  have h1:=exprs_ok l 0 h x hx
  exact ⟨hs.2.2.2.1,hs.2.2.2.2,h1.1,h1.2,hE.vals x hx⟩
theorem read_texts {l:List RT}(h:∀ q∈l,RtOk q){j k:Nat}(hj:j<(progOf l).exprs.length)(hk:j<k):∃ u,(textsR (progOf l).exprs k)[j]? = some (prT u 0)∧writeW (progOf l).exprs (j:Int)=prT u 0∧(prT u 0).length≤64*(progOf l).exprs.length:=by
  obtain ⟨u,m,hu⟩:=sub_prog (es:=(progOf l).exprs) l 0 j h (At.self _) (Nat.zero_le _) (by rw [Nat.zero_add];exact hj)
  have hum:m+u.size≤(progOf l).exprs.length:=by have:=hu.hi;rw [Nat.zero_add] at this;exact this
  have hp:=u.pos
  have hjm:=hu.eq
  refine ⟨u,?_,?_,?_⟩
  · rw [hjm];exact tree_texts u m hu.wf hu.at_ k (by omega)
  · rw [hjm];exact write_tree hu.wf hu.at_ hum
  · have:=prT_len u 0 hu.wf
    omega
end Pay
end
