/- Amounts' texts: plain laws. -/
import Derived.Lib.ItoaMem
import Derived.Lib.AtoiAllCases
import Derived.Test.YtmglkghngkbioaaGreatDoorPayC33
set_option linter.unusedSimpArgs false
set_option linter.unusedVariables false
set_option maxHeartbeats 1000000
namespace Pay
open Go
def dg1 (n:Nat):UInt8:=UInt8.ofNat (48+n)
theorem dg1_nat {n:Nat}(h:n<10):(dg1 n).toNat=48+n:=by
  simp only [dg1,UInt8.toNat_ofNat'];omega
theorem dec_one {n:Nat}(h:n<10):Lib.decDigits n=[dg1 n]:=Lib.decDigits_one h
theorem dec_step {n:Nat}(h:¬n<10):Lib.decDigits n=Lib.decDigits (n / 10)++[dg1 (n % 10)]:=by
  rw [Lib.decDigits,dif_neg h];rfl
theorem dec_head (n:Nat):∃ c r,Lib.decDigits n=c::r∧48≤c.toNat∧c.toNat≤57:=by
  induction n using Nat.strongRecOn with
  | _ n ih =>
    by_cases h:n<10
    · exact ⟨_,_,dec_one h,by rw [dg1_nat h];omega,by rw [dg1_nat h];omega⟩
    · obtain ⟨c,r,e,h1,h2⟩:=ih (n / 10) (by omega)
      exact ⟨c,r++[dg1 (n % 10)],by rw [dec_step h,e];rfl,h1,h2⟩
theorem dec_mem (n:Nat):∀ c∈Lib.decDigits n,48≤c.toNat∧c.toNat≤57:=by
  induction n using Nat.strongRecOn with
  | _ n ih =>
    intro c hc
    by_cases h:n<10
    · rw [dec_one h,List.mem_singleton] at hc
      subst hc;rw [dg1_nat h];omega
    · rw [dec_step h,List.mem_append,List.mem_singleton] at hc
      rcases hc with hc|hc
      · exact ih _ (by omega) c hc
      · subst hc;rw [dg1_nat (by omega)];omega
theorem textN_eq (n:Nat):textN n=Lib.decDigits (n / 100)++[46,dg1 (n % 100 / 10),dg1 (n % 10)]:=by
  rw [textN,dec_one (n:=n % 100 / 10) (by omega),dec_one (n:=n % 10) (by omega)]
  simp
theorem cents_eq (r:Nat)(h:r<100):(Lib.decDigits (100+r)).drop 1=[dg1 (r / 10),dg1 (r % 10)]:=by
  rw [dec_step (n:=100+r) (by omega),dec_step (n:=(100+r) / 10) (by omega),dec_one (n:=(100+r) / 10 / 10) (by omega)]
  have e1:(100+r) / 10 % 10=r / 10:=by omega
  have e2:(100+r) % 10=r % 10:=by omega
  rw [e1,e2];rfl
theorem textAt_eq (sign:List UInt8)(m:Nat)(h:m<9223372036854775808):textAt sign m=sign++textN m:=by
  have e1:w64' ((m:Int).tdiv 100)=((m / 100:Nat):Int):=by
    unfold w64';rw [Int.tdiv_eq_ediv_of_nonneg (by omega),wrapI (by omega) (by omega)];omega
  have e2:w64' (100+(m:Int).tmod 100)=((100+m % 100:Nat):Int):=by
    unfold w64';rw [Int.tmod_eq_emod_of_nonneg (by omega),wrapI (by omega) (by omega)];omega
  rw [textAt,e1,e2,Lib.itoa_nonneg,Lib.itoa_nonneg,cents_eq _ (by omega),textN_eq]
  have e3:m % 100 % 10=m % 10:=by omega
  rw [e3];simp
theorem textS_eq {n:Int}(h:amt n=true)(h1:n<9223372036854775808):textS n=(textR n,0):=by
  simp only [amt,decide_eq_true_eq] at h
  have ha:amt n=true:=by simpa [amt] using h
  rw [textS,if_pos ha,textR]
  by_cases hn:n<0
  · obtain ⟨m,rfl⟩:∃ m:Nat,n = -(m:Int):=⟨n.natAbs,by omega⟩
    have e:w64' (0 - -(m:Int))=(m:Int):=by unfold w64';rw [show (0 - -(m:Int))=m by omega,wrapI (by omega) (by omega)]
    rw [if_pos hn,if_pos hn,e,textAt_eq _ _ (by omega),show (-(m:Int)).natAbs=m by omega];rfl
  · obtain ⟨m,rfl⟩:∃ m:Nat,n=(m:Int):=⟨n.toNat,by omega⟩
    rw [if_neg hn,if_neg hn,textAt_eq _ _ (by omega),Int.toNat_natCast];rfl
theorem prFrom_digit {len i n d:Nat}{t:List UInt8}(hd:d<10)(hi:i+3≠len)(hn:10*n+d≤9223372036854775807):prFrom len i n (dg1 d::t)=prFrom len (i+1) (10*n+d) t:=by
  rw [prFrom,if_neg hi,dg1_nat hd,if_neg (by omega),if_neg (by omega),show 48+d-48=d by omega]
theorem prFrom_dec (len:Nat):∀ (a i:Nat)(t:List UInt8),a≤9223372036854775807→i+(Lib.decDigits a).length+2<len→prFrom len i 0 (Lib.decDigits a++t)=prFrom len (i+(Lib.decDigits a).length) a t:=by
  intro a
  induction a using Nat.strongRecOn with
  | _ a ih =>
    intro i t ha hl
    by_cases h:a<10
    · rw [dec_one h] at hl ⊢
      simp only [List.length_singleton,List.singleton_append] at hl ⊢
      rw [prFrom_digit h (by omega) (by omega)]
      simp
    · have e:=dec_step h
      rw [e] at hl ⊢
      simp only [List.length_append,List.length_singleton] at hl ⊢
      rw [List.append_assoc,ih (a / 10) (by omega) i _ (by omega) (by omega),List.singleton_append,prFrom_digit (by omega) (by omega) (by omega),show 10*(a / 10)+a % 10=a by omega,Nat.add_assoc]
theorem prFrom_textN (n:Nat)(h:n≤9223372036854775807):prFrom (textN n).length 0 0 (textN n)=some n:=by
  have hl:(textN n).length=(Lib.decDigits (n / 100)).length+3:=by rw [textN_eq];simp
  rw [hl,textN_eq,prFrom_dec _ _ _ _ (by omega) (by omega),Nat.zero_add,prFrom,if_pos rfl,if_pos rfl,prFrom_digit (by omega) (by omega) (by omega),prFrom_digit (by omega) (by omega) (by omega),prFrom]
  congr 1;omega
theorem textN_len4 (n:Nat):4≤(textN n).length:=by
  obtain ⟨c,r,e,_⟩:=dec_head (n / 100)
  rw [textN_eq,e];simp
theorem textN_head (n:Nat):(textN n).head? ≠ some 45:=by
  obtain ⟨c,r,e,h1,h2⟩:=dec_head (n / 100)
  rw [textN_eq,e]
  intro h
  simp at h
  subst h
  revert h1;decide
theorem parseR_text {n:Int}(h0 : -9223372036854775807≤n)(h1:n≤9223372036854775807):parseR (textR n)=(n,true):=by
  by_cases hn:n<0
  · obtain ⟨m,rfl⟩:∃ m:Nat,n = -(m:Int):=⟨n.natAbs,by omega⟩
    have ht:textR (-(m:Int))=45::textN m:=by rw [textR,if_pos hn,show (-(m:Int)).natAbs=m by omega]
    rw [ht,parseR]
    simp only [List.head?_cons,beq_self_eq_true,if_true,List.drop_succ_cons,List.drop_zero]
    rw [prFrom_textN m (by omega)]
    simp [ht,textN_len4 m]
  · obtain ⟨m,rfl⟩:∃ m:Nat,n=(m:Int):=⟨n.toNat,by omega⟩
    have ht:textR (m:Int)=textN m:=by rw [textR,if_neg hn,Int.toNat_natCast]
    have hb:((textN m).head? == some 45)=false:=beq_eq_false_iff_ne.2 (textN_head m)
    rw [ht,parseR]
    simp only [hb,Bool.false_eq_true,if_false]
    rw [prFrom_textN m (by omega)]
    simp [ht,textN_len4 m]
theorem pu_digit {n d:Nat}{t:List UInt8}(hd:d<10)(hn:10*n+d≤9223372036854775807):Lib.parseUint10 n (dg1 d::t)=Lib.parseUint10 (10*n+d) t:=by
  rw [Lib.parseUint10,dg1_nat hd,if_pos (by omega),if_neg (by omega),if_neg (by omega),show n*10+(48+d-48)=10*n+d by omega]
theorem pu_dec:∀ (a:Nat)(t:List UInt8),a≤9223372036854775807→Lib.parseUint10 0 (Lib.decDigits a++t)=Lib.parseUint10 a t:=by
  intro a
  induction a using Nat.strongRecOn with
  | _ a ih =>
    intro t ha
    by_cases h:a<10
    · rw [dec_one h,List.singleton_append,pu_digit h (by omega)];simp
    · rw [dec_step h,List.append_assoc,ih (a / 10) (by omega) _ (by omega),List.singleton_append,pu_digit (by omega) (by omega),show 10*(a / 10)+a % 10=a by omega]
theorem mag_text (n:Nat)(h:n≤9223372036854775807):Lib.parseMag (Lib.decDigits (n / 100)++[dg1 (n % 100 / 10),dg1 (n % 10)]) = .ok n:=by
  rw [Lib.parseMag,if_neg (by simp),pu_dec _ _ (by omega),pu_digit (by omega) (by omega),pu_digit (by omega) (by omega),Lib.parseUint10]
  congr 1;omega
theorem erase_text (n:Nat):(textN n).erase 46=Lib.decDigits (n / 100)++[dg1 (n % 100 / 10),dg1 (n % 10)]:=by
  rw [textN_eq,List.erase_append_right _ (fun h=>by have:=dec_mem _ _ h;revert this;decide)]
  rfl
theorem atoi_text {n:Int}(h0 : -9223372036854775807≤n)(h1:n≤9223372036854775807):Lib.atoiAll ((textR n).erase 46) = .ok n:=by
  by_cases hn:n<0
  · obtain ⟨m,rfl⟩:∃ m:Nat,n = -(m:Int):=⟨n.natAbs,by omega⟩
    have ht:textR (-(m:Int))=45::textN m:=by rw [textR,if_pos hn,show (-(m:Int)).natAbs=m by omega]
    rw [ht,List.erase_cons,if_neg (by decide),erase_text,Lib.atoiAll]
    have e:(45:UInt8).toNat=45:=rfl
    simp only [e,or_true,if_true,mag_text m (by omega),not_true_eq_false,false_and,if_false,true_and]
    rw [if_neg (by omega)]
  · obtain ⟨m,rfl⟩:∃ m:Nat,n=(m:Int):=⟨n.toNat,by omega⟩
    have ht:textR (m:Int)=textN m:=by rw [textR,if_neg hn,Int.toNat_natCast]
    have hm:=mag_text m (by omega)
    rw [ht,erase_text]
    obtain ⟨c,r,e,g1,g2⟩:=dec_head (m / 100)
    rw [e,List.cons_append] at hm ⊢
    have g3:¬c.toNat=45:=by omega
    have g4:¬c.toNat=43:=by omega
    rw [Lib.atoiAll]
    simp only [g3,g4,or_false,if_false,hm,false_and,not_false_eq_true,true_and]
    rw [if_neg (by omega)]
theorem parseS_text {n:Int}(h0 : -9223372036854775807≤n)(h1:n≤9223372036854775807):parseS (textR n)=(n,true):=by
  have ha:amt n=true:=decide_eq_true h0
  have hat:=atoi_text h0 h1
  rw [parseS,replace_erase]
  have e1:atoiOk ((textR n).erase 46)=true:=by rw [atoiOk,hat]
  have e2:atoiV ((textR n).erase 46)=n:=by rw [atoiV,hat]
  rw [e1,e2,textS_eq ha (by omega),if_pos ⟨rfl,ha,rfl⟩]
theorem parseR_ok {s:List UInt8}{x:Int}(h:parseR s=(x,true)):s=textR x ∧ -9223372036854775807≤x∧x≤9223372036854775807:=by
  unfold parseR at h
  dsimp only at h
  split at h
  · cases h
  · rename_i n hn
    have hb:=prFrom_le _ _ _ _ _ (by omega) hn
    simp only [Prod.mk.injEq,Bool.and_eq_true,beq_iff_eq] at h
    obtain ⟨h1,_,h2⟩:=h
    refine ⟨by rw [← h1,h2],?_,?_⟩ <;> (rw [← h1];split <;> omega)
theorem parseS_ok {s:List UInt8}(h:(parseS s).2=true):s=textR (parseS s).1 ∧ -9223372036854775807≤(parseS s).1∧(parseS s).1≤9223372036854775807:=by
  unfold parseS at h ⊢
  split at h
  · rename_i hc
    obtain ⟨h1,h2,h3⟩:=hc
    rw [if_pos ⟨h1,h2,h3⟩]
    have hb:atoiV (Lib.replace s [46] [] 1)≤9223372036854775807:=by
      unfold atoiV
      split
      · rename_i v hv;exact (Lib.atoiAll_bounds hv).2
      · exact (Lib.atoiSat_bounds _).2
      · decide
    rw [textS_eq h2 (by omega)] at h3
    exact ⟨h3.symm,of_decide_eq_true h2,hb⟩
  · cases h
theorem parseS_no {s:List UInt8}(h:(parseS s).2=false):(parseS s).1=0:=by
  unfold parseS at h ⊢
  split at h
  · cases h
  · rename_i hc;rw [if_neg hc]
theorem parse_same (s:List UInt8):(parseS s).2=(parseR s).2∧((parseR s).2=true→(parseS s).1=(parseR s).1)∧((parseR s).2=false→(parseS s).1=0):=by
  cases hr:(parseR s).2
  · refine ⟨?_,fun h=>absurd h (by decide),fun _ => ?_⟩
    · cases hs:(parseS s).2
      · rfl
      · obtain ⟨e,h0,h1⟩:=parseS_ok hs
        have:=parseR_text h0 h1
        rw [← e] at this
        rw [this] at hr;cases hr
    · cases hs:(parseS s).2
      · exact parseS_no hs
      · obtain ⟨e,h0,h1⟩:=parseS_ok hs
        have:=parseR_text h0 h1
        rw [← e] at this
        rw [this] at hr;cases hr
  · obtain ⟨e,h0,h1⟩:=parseR_ok (s:=s) (x:=(parseR s).1) (by rw [← hr])
    have:=parseS_text h0 h1
    rw [← e] at this
    exact ⟨by rw [this],fun _=>by rw [this],fun h=>by cases h⟩
end Pay
