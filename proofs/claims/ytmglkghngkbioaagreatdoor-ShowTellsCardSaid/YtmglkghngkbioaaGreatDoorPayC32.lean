/- Contracts: an amount's text. -/
import Derived.Lib.ItoaNum
import Derived.Lib.ItoaLen
import Derived.Lib.AtoiAll
import Derived.Lib.Replace
import Derived.Test.YtmglkghngkbioaaGreatDoorPayC31
set_option linter.unusedSimpArgs false
set_option linter.unusedVariables false
set_option maxHeartbeats 1000000
namespace Pay
open Go
attribute [local irreducible] wpB opsB treeB drawB
abbrev vS (s:List UInt8):V:=.d (.str s)
def atoiOk (s:List UInt8):Bool:=match Lib.atoiAll s with | .ok _=>true|_=>false
def atoiV (s:List UInt8):Int:=match Lib.atoiAll s with | .ok v=>v | .range=>Lib.atoiSat s|_=>0
structure LibK (C:Ctx):Prop where
  itoa:∀ n:Int,-9223372036854775808≤n→n≤9223372036854775807→SoundAt C 68 ⟨[vI n],looko []⟩ ⟨vS (Lib.itoa n),looko []⟩
  atoi:∀ s:List UInt8,s.length<100000→SoundAt C 70 ⟨[vS s],looko []⟩ ⟨.tup [vI (atoiV s),.d (.err (atoiOk s))],looko []⟩
  repl:∀ s:List UInt8,s.length<100000→SoundAt C 69 ⟨[vS s,vS [46],vS [],vI 1],looko []⟩ ⟨vS (Lib.replace s [46] [] 1),looko []⟩
theorem w64_lo (n:Int) : -9223372036854775808≤w64' n:=by unfold w64';rw [IntKind.wrap_i64];omega
theorem w64_hi (n:Int):w64' n≤9223372036854775807:=by unfold w64';rw [IntKind.wrap_i64];omega
theorem itoa_len (n:Int):(Lib.itoa (w64' n)).length≤21:=Lib.itoa_length_le _ (w64_lo n) (w64_hi n)
theorem itoa_pos (n:Int):1≤(Lib.itoa n).length:=by
  unfold Lib.itoa
  split
  · simp
  · rw [Lib.decDigits_length];exact Lib.nDigits_pos _
def textAt (sign:List UInt8)(n:Int):List UInt8:=sign++Lib.itoa (w64' (n.tdiv 100))++[46]++(Lib.itoa (w64' (100+n.tmod 100))).drop 1
def textS (n:Int):List UInt8 × Int :=
  if amt n=true then (if n<0 then textAt [45] (w64' (0-n)) else textAt [] n,0) else ([],3)
abbrev vSE (x:List UInt8 × Int):V:=.tup [vS x.1,vI x.2]
abbrev vIB (x:Int × Bool):V:=.tup [vI x.1,vB x.2]
theorem text_at {C:Ctx}(K:LibK C){I:Nat→Prop}(hI:∀ n,¬I n){Q:Ex→St→Prop}{sign:List UInt8}(hs:sign.length≤1){n:Int}{s:Nat→V}(h0:s 0=vI n)(h4:s 4=vS sign)
    (hF:Q .ret (St.mk (look [(2,vS (textAt sign n)),(3,vI 0)]) (looko []))) :
    wpB C I g_money_Text.c1 (St.mk s (looko [])) Q:=by
  obtain ⟨q,hq⟩:∃ q,w64' (n.tdiv 100)=q:=⟨_,rfl⟩
  obtain ⟨m,hm⟩:∃ m,w64' (100+n.tmod 100)=m:=⟨_,rfl⟩
  have lq:=itoa_len (n.tdiv 100)
  have lm:=itoa_len (100+n.tmod 100)
  have q0:=w64_lo (n.tdiv 100)
  have q1:=w64_hi (n.tdiv 100)
  have m0:=w64_lo (100+n.tmod 100)
  have m1:=w64_hi (100+n.tmod 100)
  rw [hq] at lq q0 q1
  rw [hm] at lm m0 m1
  have hq':IntKind.i64.wrap (n.tdiv 100)=q:=hq
  have hm':IntKind.i64.wrap (100+n.tmod 100)=m:=hm
  have l1:sign.length+(Lib.itoa q).length≤9223372036854775807:=by omega
  have l2:sign.length+(Lib.itoa q).length+1≤9223372036854775807:=by omega
  unfold textAt at hF
  rw [hq,hm] at hF
  repeat (first|simp only [go_sem,h0,h4,hm',hq']|refine Unf.h ?_)
  refine callK_plain (K.itoa m m0 m1) (fun _=>rfl) ?_
  have lp:=itoa_pos m
  have lp':(1:Int)≤((Lib.itoa m).length:Int):=by omega
  have l3:sign.length+(Lib.itoa q).length+1+((Lib.itoa m).length-1)≤9223372036854775807:=by omega
  repeat (first|simp only [go_sem,hq',quiet_true,quietL_nil,l1,l2,l3,lp',List.take_length,List.length_append,List.length_drop]|refine Unf.h ?_|refine ⟨_,K.itoa q q0 q1,fun _=>rfl,?_⟩)
  exact hF
theorem moneyText {C:Ctx}(h:okFn C.P C.φ 50 g_money_Text=true)(hRt:∀ n,SoundAt C 58 ⟨[vI n],looko []⟩ ⟨vB (amt n),looko []⟩)(K:LibK C)(n:Int):SoundAt C 50 ⟨[vI n],looko []⟩ ⟨vSE (textS n),looko []⟩:=by
  refine SoundAt.of_run h rfl (fun Q hR hN => ?_)
  rw [entry1]
  repeat (first|simp only [go_sem]|refine Unf.h (a:=wpB _ _ g_money_Text.code _ _) ?_)
  refine callK_plain (hRt n) (fun _=>rfl) ?_
  cases ha:amt n
  · repeat (first|simp only [go_sem]|refine Unf.h (a:=wpB _ _ g_money_Text.code _ _) ?_)
    refine hR _ ?_
    simp only [go_sem,textS,ha]
  by_cases hn:n<0
  · repeat (first|simp only [go_sem,hn]|refine Unf.h (a:=wpB _ _ g_money_Text.c2 _ _) ?_)
    refine text_at K (fun _ h=>h) (sign:=[45]) (by decide) (n:=w64' (0-n)) (by rfl) (by rfl) ?_
    refine hR _ ?_
    simp only [go_sem,textS,ha,hn]
  · repeat (first|simp only [go_sem,hn]|refine Unf.h (a:=wpB _ _ g_money_Text.c2 _ _) ?_)
    refine text_at K (fun _ h=>h) (sign:=[]) (by decide) (n:=n) (by rfl) (by rfl) ?_
    refine hR _ ?_
    simp only [go_sem,textS,ha,hn]
def parseS (s:List UInt8):Int × Bool :=
  if atoiOk (Lib.replace s [46] [] 1)=true∧amt (atoiV (Lib.replace s [46] [] 1))=true∧(textS (atoiV (Lib.replace s [46] [] 1))).1=s then (atoiV (Lib.replace s [46] [] 1),true) else (0,false)
theorem replaceK_erase:∀ s:List UInt8,Lib.replaceK [46] [] 1 s=s.erase 46
  | []=>rfl
  | b :: l=>by
    have ih:=replaceK_erase l
    by_cases hb:b=46
    · subst hb
      have hi:Lib.index (46::l) [46]=((0:Nat):Int):=by simp [Lib.index]
      rw [Lib.replaceK_hit _ _ _ _ _ hi]
      simp [Lib.replaceK]
    · have hp:([46]:List UInt8).isPrefixOf (b::l)=false:=by simp [List.isPrefixOf,Ne.symm hb]
      have hge:=Lib.index_ge l [46]
      rw [List.erase_cons,if_neg (by simpa using hb),← ih]
      by_cases hm:Lib.index l [46] = -1
      · have hi:Lib.index (b::l) [46] = -1:=by rw [Lib.index,hp];simp [hm]
        simp [Lib.replaceK,hi,hm]
      · obtain ⟨i,hi⟩:∃ i:Nat,Lib.index l [46]=i:=⟨(Lib.index l [46]).toNat,by omega⟩
        have hi':Lib.index (b::l) [46]=((i+1:Nat):Int):=by
          rw [Lib.index,hp]
          simp only [Bool.false_eq_true,if_false]
          rw [if_neg (by simpa using hm),hi];rfl
        rw [Lib.replaceK_hit _ _ _ _ _ hi,Lib.replaceK_hit _ _ _ _ _ hi']
        simp [Lib.replaceK,Nat.add_right_comm]
theorem replace_erase (s:List UInt8):Lib.replace s [46] [] 1=s.erase 46:=by
  rw [Lib.replace,if_neg (by decide),Lib.replaceNum]
  by_cases hc:(Lib.count s [46]:Int)<1
  · rw [if_pos (.inr hc)]
    have h0:Lib.count s [46]=0:=by omega
    rw [h0,Lib.replaceK,List.erase_of_not_mem]
    rw [Lib.count_one] at h0
    exact List.count_eq_zero.1 h0
  · rw [if_neg (by omega)]
    exact replaceK_erase s
theorem replace_len (s:List UInt8):(Lib.replace s [46] [] 1).length≤s.length:=by
  rw [replace_erase]
  exact List.length_erase_le
theorem moneyParse {C:Ctx}(h:okFn C.P C.φ 51 g_money_Parse=true)(hRt:∀ n,SoundAt C 58 ⟨[vI n],looko []⟩ ⟨vB (amt n),looko []⟩)(hText:∀ n,SoundAt C 50 ⟨[vI n],looko []⟩ ⟨vSE (textS n),looko []⟩)(K:LibK C)(s:List UInt8)(hs:s.length<100000) :
    SoundAt C 51 ⟨[vS s],looko []⟩ ⟨vIB (parseS s),looko []⟩:=by
  refine SoundAt.of_run h rfl (fun Q hR hN => ?_)
  rw [entry1]
  repeat (first|simp only [go_sem]|refine Unf.h ?_)
  refine callK_plain (K.repl s hs) (fun _=>rfl) ?_
  repeat (first|simp only [go_sem]|refine Unf.h ?_)
  refine callK_plain (K.atoi _ (Nat.lt_of_le_of_lt (replace_len s) hs)) (fun _=>rfl) ?_
  have hp:vIB (parseS s)=vIB (if atoiOk (Lib.replace s [46] [] 1)=true∧amt (atoiV (Lib.replace s [46] [] 1))=true∧(textS (atoiV (Lib.replace s [46] [] 1))).1=s then (atoiV (Lib.replace s [46] [] 1),true) else (0,false)):=rfl
  rw [hp] at hR
  clear hp hN
  generalize atoiV (Lib.replace s [46] [] 1)=n at *
  generalize atoiOk (Lib.replace s [46] [] 1)=b at *
  cases b
  · repeat (first|simp only [go_sem,true_or]|refine Unf.h ?_)
    refine hR _ ?_
    simp only [go_sem,false_and]
  repeat (first|simp only [go_sem]|refine Unf.h ?_)
  refine callK_plain (hRt n) (fun _=>rfl) ?_
  cases ha:amt n
  · repeat (first|simp only [go_sem]|refine Unf.h ?_)
    refine hR _ ?_
    simp only [go_sem,ha,false_and,and_false]
  repeat (first|simp only [go_sem]|refine Unf.h ?_)
  refine callK_plain (hText n) (fun _=>rfl) ?_
  by_cases ht:(textS n).1=s
  · repeat (first|simp only [go_sem,ht]|refine Unf.h ?_)
    refine hR _ ?_
    simp only [go_sem,ha,ht]
  · have ht':((textS n).1==s)=false:=by simpa using ht
    repeat (first|simp only [go_sem,ht']|refine Unf.h ?_)
    refine hR _ ?_
    simp only [go_sem,ha,ht,and_false]
end Pay
