/- Contracts: the document's amounts. -/
import Derived.Test.YtmglkghngkbioaaGreatDoorPayC32
set_option linter.unusedSimpArgs false
set_option linter.unusedVariables false
set_option maxHeartbeats 1000000
namespace Pay
open Go
attribute [local irreducible] wpB opsB treeB drawB
theorem dig_eq (m:Nat):UInt8.ofNat (IntKind.u8.wrap (IntKind.i64.wrap (48+((m:Int).tmod 10)))).toNat=UInt8.ofNat (48+m % 10):=by
  have h:((m:Int).tmod 10)=((m % 10:Nat):Int):=by rw [Int.tmod_eq_emod_of_nonneg (by omega)];omega
  rw [h,wrapI (by omega) (by omega)]
  have h2:IntKind.u8.wrap (48+((m % 10:Nat):Int))=((48+m % 10:Nat):Int):=by rw [IntKind.wrap_u8];omega
  rw [h2,Int.toNat_natCast]
def hiD (n:Nat):List UInt8:=if n<10 then [] else Lib.decDigits (n / 10)
theorem dec_hi (n:Nat):Lib.decDigits n=hiD n++[UInt8.ofNat (48+n % 10)]:=by
  rw [Lib.decDigits,hiD]
  split
  · rename_i h;rw [Nat.mod_eq_of_lt h];rfl
  · rfl
theorem digits_loop {C:Ctx} {I:Nat→Prop} {Q:Ex→St→Prop} {l:List UInt8} (hl:l.length≤20) (hT:∀ s,s 3=vS l→Q (.exit 0) (St.mk s (looko []))) :
    ∀ (n:Nat),n<9223372036854775808→∀ t:List UInt8,hiD n++t=l→wpB C I g_ref01_Digits.l0 (St.mk (look [(0,vI n),(3,vS t)]) (looko [])) Q:=by
  intro n
  induction n using Nat.strongRecOn with
  | _ n ih =>
    intro hn t ht
    refine w_loopC (L:=g_ref01_Digits.l0) rfl ?_
    by_cases h:n<10
    · have h':¬((n:Int)>9):=by omega
      simp only [hiD,h,if_true,List.nil_append] at ht
      subst ht
      simp only [go_sem,h',decide_false]
      exact hT _ rfl
    · have h':((n:Int)>9):=by omega
      have hq:IntKind.i64.wrap ((n:Int).tdiv 10)=((n / 10:Nat):Int):=by
        rw [Int.tdiv_eq_ediv_of_nonneg (by omega),wrapI (by omega) (by omega)];omega
      have e:hiD n=hiD (n / 10)++[UInt8.ofNat (48+(n / 10) % 10)]:=by
        rw [← dec_hi,hiD,if_neg h]
      rw [e] at ht
      have hlen:([UInt8.ofNat (48+(n / 10) % 10)]:List UInt8).length+t.length≤9223372036854775807:=by
        have:=congrArg List.length ht
        simp at this
        simp;omega
      have hlen':1+t.length≤9223372036854775807:=by simpa using hlen
      simp only [go_sem,h',decide_true,hq,partsN,dig_eq,hlen']
      refine ih (n / 10) (by omega) (by omega) _ (by rw [← ht];simp)
theorem refDigits {C:Ctx}(h:okFn C.P C.φ 71 g_ref01_Digits=true)(n:Nat)(hn:n<9223372036854775808):SoundAt C 71 ⟨[vI n],looko []⟩ ⟨vS (Lib.decDigits n),looko []⟩:=by
  refine SoundAt.of_run h rfl (fun Q hR hN => ?_)
  rw [entry1]
  repeat (first|simp only [go_sem,partsN,dig_eq]|refine Unf.h ?_)
  refine digits_loop (l:=Lib.decDigits n) (by rw [Lib.decDigits_length];exact Lib.nDigits_le20 n (by omega)) (fun s hs => ?_) n hn _ (by rw [← dec_hi])
  repeat (first|simp only [go_sem,hs]|refine Unf.h ?_)
  refine hR _ ?_
  simp only [go_sem]
def textN (n:Nat):List UInt8:=Lib.decDigits (n / 100)++[46]++Lib.decDigits (n % 100 / 10)++Lib.decDigits (n % 10)
def textR (n:Int):List UInt8:=if n<0 then 45::textN n.natAbs else textN n.toNat
theorem dec_len (n:Nat)(h:n<9223372036854775808):(Lib.decDigits n).length≤20:=by rw [Lib.decDigits_length];exact Lib.nDigits_le20 n (by omega)
theorem textN_len (n:Nat)(h:n<9223372036854775808):(textN n).length≤61:=by
  have h1:=dec_len (n / 100) (by omega)
  have h2:=dec_len (n % 100 / 10) (by omega)
  have h3:=dec_len (n % 10) (by omega)
  simp only [textN,List.length_append,List.length_cons,List.length_nil]
  omega
theorem refTextN {C:Ctx}(h:okFn C.P C.φ 54 g_ref01_Text=true)(hD:∀ n:Nat,n<9223372036854775808→SoundAt C 71 ⟨[vI n],looko []⟩ ⟨vS (Lib.decDigits n),looko []⟩)(n:Nat)(hn:n<9223372036854775808) :
    SoundAt C 54 ⟨[vI n],looko []⟩ ⟨vS (textN n),looko []⟩:=by
  have h1:=dec_len (n / 100) (by omega)
  have h2:=dec_len (n % 100 / 10) (by omega)
  have h3:=dec_len (n % 10) (by omega)
  have e1:IntKind.i64.wrap ((n:Int).tdiv 100)=((n / 100:Nat):Int):=by rw [Int.tdiv_eq_ediv_of_nonneg (by omega),wrapI (by omega) (by omega)];omega
  have e2:(n:Int).tmod 100=((n % 100:Nat):Int):=by rw [Int.tmod_eq_emod_of_nonneg (by omega)];omega
  have e3:IntKind.i64.wrap (((n % 100:Nat):Int).tdiv 10)=((n % 100 / 10:Nat):Int):=by rw [Int.tdiv_eq_ediv_of_nonneg (by omega),wrapI (by omega) (by omega)];omega
  have e4:(n:Int).tmod 10=((n % 10:Nat):Int):=by rw [Int.tmod_eq_emod_of_nonneg (by omega)];omega
  have l1:(Lib.decDigits (n / 100)).length+1≤9223372036854775807:=by omega
  have l2:(Lib.decDigits (n / 100)).length+1+(Lib.decDigits (n % 100 / 10)).length≤9223372036854775807:=by omega
  have l3:(Lib.decDigits (n / 100)).length+1+(Lib.decDigits (n % 100 / 10)).length+(Lib.decDigits (n % 10)).length≤9223372036854775807:=by omega
  have hneg:¬((n:Int)<0):=by omega
  refine SoundAt.of_run h rfl (fun Q hR hN => ?_)
  rw [entry1]
  repeat (first|simp only [go_sem,hneg,decide_false,e1,e2,e3,e4,List.length_append,l1,l2,l3]|refine Unf.h ?_|refine callK_plain (hD _ (by omega)) (fun _=>rfl) ?_)
  refine hR _ ?_
  simp only [go_sem,textN]
theorem refText {C:Ctx}(h:okFn C.P C.φ 54 g_ref01_Text=true)(hD:∀ n:Nat,n<9223372036854775808→SoundAt C 71 ⟨[vI n],looko []⟩ ⟨vS (Lib.decDigits n),looko []⟩)(n:Int)(h0 : -9223372036854775808<n)(h1:n<9223372036854775808) :
    SoundAt C 54 ⟨[vI n],looko []⟩ ⟨vS (textR n),looko []⟩:=by
  by_cases hn:n<0
  · obtain ⟨m,rfl⟩:∃ m:Nat,n = -(m:Int):=⟨n.natAbs,by omega⟩
    have e:IntKind.i64.wrap (0 - -(m:Int))=(m:Int):=by rw [show (0 - -(m:Int))=m by omega,wrapI (by omega) (by omega)]
    have hl:=textN_len m (by omega)
    have l1:1+(textN m).length≤9223372036854775807:=by omega
    refine SoundAt.of_run h rfl (fun Q hR hN => ?_)
    rw [entry1]
    repeat (first|simp only [go_sem,hn,decide_true,e,l1]|refine Unf.h (a:=wpB _ _ g_ref01_Text.code _ _) ?_|refine callK_plain (refTextN h hD m (by omega)) (fun _=>rfl) ?_)
    refine hR _ ?_
    have ht:textR (-(m:Int))=45::textN m:=by rw [textR,if_pos hn,show (-(m:Int)).natAbs=m by omega]
    simp only [go_sem,ht]
  · obtain ⟨m,rfl⟩:∃ m:Nat,n=(m:Int):=⟨n.toNat,by omega⟩
    have ht:textR (m:Int)=textN m:=by rw [textR,if_neg hn,Int.toNat_natCast]
    rw [ht]
    exact refTextN h hD m (by omega)
def prFrom (len:Nat):Nat→Nat→List UInt8→Option Nat
  | _,n,[]=>some n
  | i,n,c::r =>
    if i+3=len then (if c=46 then prFrom len (i+1) n r else none)
    else if c.toNat<48∨57<c.toNat then none
    else if n>(9223372036854775807-(c.toNat-48)) / 10 then none
    else prFrom len (i+1) (10*n+(c.toNat-48)) r
def parseR (s:List UInt8):Int × Bool :=
  let minus:=s.head? == some 45
  let rest:=if minus=true then s.drop 1 else s
  match prFrom rest.length 0 0 rest with
  | none=>(0,false)
  | some n=>(if minus=true then -(n:Int) else n,decide (rest.length≥4)&&(textR (if minus=true then -(n:Int) else n)==s))
theorem prFrom_le (len:Nat):∀ (r:List UInt8) (i n m:Nat),n<9223372036854775808→prFrom len i n r=some m→m<9223372036854775808
  | [],i,n,m,hn,h=>by simp only [prFrom,Option.some.injEq] at h;omega
  | c :: r,i,n,m,hn,h=>by
    simp only [prFrom] at h
    split at h
    · split at h
      · exact prFrom_le len r _ n m hn h
      · cases h
    · split at h
      · cases h
      · split at h
        · cases h
        · exact prFrom_le len r _ _ m (by omega) h
theorem parse_loop {C:Ctx} {I:Nat→Prop} {Q:Ex→St→Prop} {s rest:List UInt8} {b:Bool} (hl:rest.length<100000) {r:Option Nat}
    (hF:r=none→Q .ret (St.mk (look [(2,vI 0),(3,vB false)]) (looko [])))
    (hT:∀ n t,r=some n→t 0=vS s→t 4=vS rest→t 5=vB b→t 6=vI n→Q (.exit 0) (St.mk t (looko []))) :
    ∀ (k i n:Nat),i+k=rest.length→n<9223372036854775808→prFrom rest.length i n (rest.drop i)=r→wpB C I g_ref01_Parse.l0 (St.mk (look [(0,vS s),(4,vS rest),(5,vB b),(6,vI n),(7,vI i)]) (looko [])) Q:=by
  intro k
  induction k with
  | zero =>
    intro i n hi hn hr
    refine w_loopC (L:=g_ref01_Parse.l0) rfl ?_
    have hi':i=rest.length:=by omega
    subst hi'
    rw [List.drop_length] at hr
    simp only [go_sem,Int.lt_irrefl,decide_false]
    exact hT n _ (by rw [← hr];rfl) rfl rfl rfl rfl
  | succ k ih =>
    intro i n hi hn hr
    have hlt:i<rest.length:=by omega
    have hlt':((i:Int)<(rest.length:Int)):=by omega
    have he:=List.getElem?_eq_getElem hlt
    rw [List.drop_eq_getElem_cons hlt] at hr
    obtain ⟨c,hc⟩:∃ c,rest[i]=c:=⟨_,rfl⟩
    rw [hc] at hr he
    have hcb:=c.toNat_lt
    have w1:IntKind.i64.wrap ((rest.length:Int)-3)=(rest.length:Int)-3:=wrapI (by omega) (by omega)
    have w2:IntKind.i64.wrap ((i:Int)+1)=((i+1:Nat):Int):=by rw [wrapI (by omega) (by omega)];omega
    refine w_loopC (L:=g_ref01_Parse.l0) rfl ?_
    simp only [prFrom] at hr
    by_cases h3:i+3=rest.length
    · have h3':((i:Int)==(rest.length:Int)-3)=true:=by rw [beq_iff_eq];omega
      rw [if_pos h3] at hr
      by_cases h46:c=46
      · rw [if_pos h46] at hr
        subst h46
        repeat (first|simp only [go_sem,hlt',decide_true,Int.natCast_nonneg,Int.toNat_natCast,he,w1,h3',w2,UInt8.reduceToNat,bne_self_eq_false,Int.reduceBNe]|refine Unf.h ?_)
        exact ih (i+1) n (by omega) hn hr
      · rw [if_neg h46] at hr
        have hne:((c.toNat:Int) != 46)=true:=by
          rw [bne_iff_ne]
          intro e
          exact h46 (UInt8.toNat_inj.1 (by simpa using (by omega:c.toNat=46)))
        repeat (first|simp only [go_sem,hlt',decide_true,Int.natCast_nonneg,Int.toNat_natCast,he,w1,h3',hne]|refine Unf.h ?_)
        exact hF hr.symm
    · have h3':((i:Int)==(rest.length:Int)-3)=false:=by rw [beq_eq_false_iff_ne];omega
      rw [if_neg h3] at hr
      by_cases hd:c.toNat<48∨57<c.toNat
      · rw [if_pos hd] at hr
        rcases hd with hd|hd
        · have hd':((c.toNat:Int)<48):=by omega
          repeat (first|simp only [go_sem,hlt',decide_true,Int.natCast_nonneg,Int.toNat_natCast,he,w1,h3',hd',true_or]|refine Unf.h ?_)
          exact hF hr.symm
        · have hd0:¬((c.toNat:Int)<48):=by omega
          have hd':((c.toNat:Int)>57):=by omega
          repeat (first|simp only [go_sem,hlt',decide_true,decide_false,Int.natCast_nonneg,Int.toNat_natCast,he,w1,h3',hd0,hd',true_or]|refine Unf.h ?_)
          exact hF hr.symm
      · rw [if_neg hd] at hr
        have hd0:¬((c.toNat:Int)<48):=by omega
        have hd1:¬((c.toNat:Int)>57):=by omega
        obtain ⟨d,hdd⟩:∃ d:Nat,c.toNat=48+d:=⟨c.toNat-48,by omega⟩
        have hd9:d≤9:=by omega
        have w3:IntKind.u8.wrap ((c.toNat:Int)-48)=(d:Int):=by rw [IntKind.wrap_u8];omega
        have w4:IntKind.i64.wrap (d:Int)=(d:Int):=wrapI (by omega) (by omega)
        have w5:IntKind.i64.wrap (9223372036854775807-(d:Int))=9223372036854775807-(d:Int):=wrapI (by omega) (by omega)
        have w6:IntKind.i64.wrap ((9223372036854775807-(d:Int)).tdiv 10)=(((9223372036854775807-d) / 10:Nat):Int):=by
          rw [Int.tdiv_eq_ediv_of_nonneg (by omega),wrapI (by omega) (by omega)];omega
        rw [show c.toNat-48=d by omega] at hr
        by_cases hov:n>(9223372036854775807-d) / 10
        · rw [if_pos hov] at hr
          have hov':((n:Int)>(((9223372036854775807-d) / 10:Nat):Int)):=by omega
          repeat (first|simp only [go_sem,hlt',decide_true,decide_false,Int.natCast_nonneg,Int.toNat_natCast,he,w1,h3',hd0,hd1,w3,w4,w5,w6,hov']|refine Unf.h ?_)
          exact hF hr.symm
        · rw [if_neg hov] at hr
          have hov':¬((n:Int)>(((9223372036854775807-d) / 10:Nat):Int)):=by omega
          have w7:IntKind.i64.wrap (10*(n:Int))=10*(n:Int):=wrapI (by omega) (by omega)
          have w8:IntKind.i64.wrap (10*(n:Int)+(d:Int))=((10*n+d:Nat):Int):=by rw [wrapI (by omega) (by omega)];omega
          repeat (first|simp only [go_sem,hlt',decide_true,decide_false,Int.natCast_nonneg,Int.toNat_natCast,he,w1,h3',hd0,hd1,w3,w4,w5,w6,hov',w7,w8,w2]|refine Unf.h ?_)
          exact ih (i+1) (10*n+d) (by omega) (by omega) hr
theorem refParse {C:Ctx} (h:okFn C.P C.φ 52 g_ref01_Parse=true) (hTx:∀ n:Int,-9223372036854775808<n→n<9223372036854775808→SoundAt C 54 ⟨[vI n],looko []⟩ ⟨vS (textR n),looko []⟩) (s:List UInt8) (hs:s.length<100000) :
    SoundAt C 52 ⟨[vS s],looko []⟩ ⟨vIB (parseR s),looko []⟩:=by
  refine SoundAt.of_run h rfl (fun Q hR hN => ?_)
  rw [entry1]
  have key:∀ (b:Bool) (rest:List UInt8),rest.length<100000→(s.head? == some 45)=b→(if b=true then s.drop 1 else s)=rest →
      ∀ t:Nat→V,t 0=vS s→t 4=vS rest→t 5=vB b→wpB C (fun n=>False) g_ref01_Parse.c12 (St.mk t (looko [])) Q:=by
    intro b rest hl hb hr t t0 t4 t5
    have hp:parseR s=(match prFrom rest.length 0 0 rest with
      | none=>(0,false)
      | some n=>(if b=true then -(n:Int) else n,decide (rest.length≥4)&&(textR (if b=true then -(n:Int) else n)==s))):=by
      simp only [parseR,hb,hr]
    repeat (first|simp only [go_sem,t0,t4,t5]|refine Unf.h (a:=wpB _ _ g_ref01_Parse.c12 _ _) ?_)
    refine parse_loop (s:=s) (rest:=rest) (b:=b) hl (r:=prFrom rest.length 0 0 rest) (fun hr => ?_) (fun n t hr h0 h4 h5 h6 => ?_) rest.length 0 0 (by omega) (by omega) rfl
    · refine hR _ ?_
      simp only [go_sem,hp,hr]
    · have hn:=prFrom_le _ _ _ _ _ (by omega) hr
      rw [hr] at hp
      have hw:IntKind.i64.wrap (0-(n:Int)) = -(n:Int):=by rw [wrapI (by omega) (by omega)];omega
      obtain ⟨m,hm⟩:∃ m:Int,(if b=true then -(n:Int) else n)=m:=⟨_,rfl⟩
      have hm0 : -9223372036854775808<m:=by subst hm;split <;> omega
      have hm1:m<9223372036854775808:=by subst hm;split <;> omega
      simp only [hm] at hp
      by_cases h4':((rest.length:Int)≥4)
      · have hd:decide (rest.length≥4)=true:=decide_eq_true (by omega)
        rw [hd] at hp
        cases b
        · simp only [Bool.false_eq_true,if_false] at hm
          subst hm
          repeat (first|simp only [go_sem,h0,h4,h5,h6,h4',decide_true]|refine Unf.h ?_)
          refine callK_plain (hTx _ hm0 hm1) (fun _=>rfl) ?_
          repeat (first|simp only [go_sem]|refine Unf.h ?_)
          refine hR _ ?_
          simp only [go_sem,hp,Bool.false_and]
        · simp only [if_true] at hm
          subst hm
          repeat (first|simp only [go_sem,h0,h4,h5,h6,hw,h4',decide_true]|refine Unf.h ?_)
          refine callK_plain (hTx _ hm0 hm1) (fun _=>rfl) ?_
          repeat (first|simp only [go_sem]|refine Unf.h ?_)
          refine hR _ ?_
          simp only [go_sem,hp,Bool.false_and]
      · have hd:decide (rest.length≥4)=false:=decide_eq_false (by omega)
        rw [hd] at hp
        cases b
        · simp only [Bool.false_eq_true,if_false] at hm
          subst hm
          repeat (first|simp only [go_sem,h0,h4,h5,h6,h4',decide_false]|refine Unf.h ?_)
          refine hR _ ?_
          simp only [go_sem,hp,Bool.false_and]
        · simp only [if_true] at hm
          subst hm
          repeat (first|simp only [go_sem,h0,h4,h5,h6,hw,h4',decide_false]|refine Unf.h ?_)
          refine hR _ ?_
          simp only [go_sem,hp,Bool.false_and]
  cases hsc:s with
  | nil =>
    repeat (first|simp only [go_sem,Int.lt_irrefl,decide_false]|refine Unf.h (a:=wpB _ _ g_ref01_Parse.code _ _) ?_|refine Unf.h (a:=opsB _ _ g_ref01_Parse.o0 _ _) ?_|refine Unf.h (a:=opsB _ _ g_ref01_Parse.o1 _ _) ?_|refine Unf.h (a:=wpB _ _ g_ref01_Parse.c0 _ _) ?_)
    exact key false s hs (by rw [hsc];rfl) rfl _ (by rw [hsc];rfl) (by rw [hsc];rfl) rfl
  | cons c r =>
    have hpos:(((r.length+1:Nat):Int)>0):=by omega
    by_cases hc:c=45
    · subst hc
      have h1:((1:Int)≤((r.length+1:Nat):Int)):=by omega
      repeat (first|simp only [go_sem,hpos,decide_true,UInt8.reduceToNat,h1,Int.le_refl,List.take_length]|refine Unf.h (a:=wpB _ _ g_ref01_Parse.code _ _) ?_|refine Unf.h (a:=opsB _ _ g_ref01_Parse.o0 _ _) ?_|refine Unf.h (a:=opsB _ _ g_ref01_Parse.o1 _ _) ?_|refine Unf.h (a:=wpB _ _ g_ref01_Parse.c0 _ _) ?_)
      exact key true r (by rw [hsc] at hs;simp at hs;omega) (by rw [hsc];rfl) (by rw [hsc];rfl) _ (by rw [hsc];rfl) rfl rfl
    · have hne:((c.toNat:Int)==45)=false:=by
        rw [beq_eq_false_iff_ne]
        intro e
        exact hc (UInt8.toNat_inj.1 (by simpa using (by omega:c.toNat=45)))
      repeat (first|simp only [go_sem,hpos,decide_true,hne,Int.le_refl]|refine Unf.h (a:=wpB _ _ g_ref01_Parse.code _ _) ?_|refine Unf.h (a:=opsB _ _ g_ref01_Parse.o0 _ _) ?_|refine Unf.h (a:=opsB _ _ g_ref01_Parse.o1 _ _) ?_|refine Unf.h (a:=wpB _ _ g_ref01_Parse.c0 _ _) ?_)
      exact key false s hs (by rw [hsc];simpa using hc) rfl _ (by rw [hsc];rfl) (by rw [hsc];rfl) rfl
end Pay
