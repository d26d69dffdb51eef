/- Contracts: the document's tokens of a text; they are the same. -/
import Derived.Test.YtmglkghngkbioaaGreatDoorPayC44
import Derived.Test.YtmglkghngkbioaaGreatDoorPayC45
set_option linter.unusedSimpArgs false
set_option linter.unusedVariables false
set_option maxHeartbeats 1000000
namespace Pay
open Go
attribute [local irreducible] wpB opsB treeB drawB
def signR:UInt8→List UInt8→Nat
  | c,[]=>1
  | c,d::_=>if (c=60∧(d=61∨d=62))∨(c=62∧d=61) then 2 else 1
def oneR:List UInt8→Int × Nat
  | []=>(0,0)
  | c::r =>
    if letB c=true then (if runN wordB (c::r)<13 then 1 else 0,runN wordB (c::r))
    else if digB c=true then (kindR ((c::r).take (runN numB (c::r))),runN numB (c::r))
    else if signSet.contains c=true then (5,signR c r) else (0,1)
def lexR (s:List UInt8):List Tok × Option Nat:=lexGo oneR s.length 0 s
theorem line_loop {I:Nat→Prop}{C:Ctx}{Q:Ex→St→Prop}{s:List UInt8}{v4 v5:V}(hs:s.length<4611686018427387904){ob:Option Ob}{r:Nat}
    (hT:∀ t,t 0=vS s→t 4=v4→t 5=v5→t 7=vI r→Q (.exit 3) (St.mk t (looko [(110,ob)]))) :
    ∀ (m n:Nat),n+m=s.length→n+runN lineB (s.drop n)=r→∀ t,t 0=vS s→t 4=v4→t 5=v5→t 7=vI n→wpB C I g_ref07_All.l1 (St.mk t (looko [(110,ob)])) Q:=by
  intro m
  induction m with
  | zero =>
    intro n hn hr t t0 t4 t5 t7
    refine w_loopC (L:=g_ref07_All.l1) rfl ?_
    have:n=s.length:=by omega
    subst this
    simp only [List.drop_length,runN,List.takeWhile_nil,List.length_nil,Nat.add_zero] at hr
    subst hr
    repeat (first|simp only [go_sem,t0,t4,t5,t7,Int.lt_irrefl,decide_false]|refine Unf.h (a:=opsB _ _ g_ref07_All.o2 _ _) ?_|refine Unf.h (a:=opsB _ _ g_ref07_All.o3 _ _) ?_|refine Unf.h (a:=wpB _ _ g_ref07_All.c0 _ _) ?_|refine Unf.h (a:=wpB _ _ g_ref07_All.c1 _ _) ?_)
    exact hT _ rfl rfl rfl rfl
  | succ m ih =>
    intro n hn hr t t0 t4 t5 t7
    refine w_loopC (L:=g_ref07_All.l1) rfl ?_
    have hlt:n<s.length:=by omega
    have hlt':((n:Int)<(s.length:Int)):=by omega
    have he:=List.getElem?_eq_getElem hlt
    rw [List.drop_eq_getElem_cons hlt] at hr
    have hw:IntKind.i64.wrap ((n:Int)+1)=((n+1:Nat):Int):=by rw [wrapI (by omega) (by omega)];omega
    have e1:((s[n].toNat:Int) != 10)=lineB s[n]:=congrArg (!·) (byte_eq s[n] 10)
    cases hp:lineB s[n] with
    | false =>
      have e:runN lineB (s[n]::s.drop (n+1))=0:=by rw [runN,List.takeWhile_cons,hp];rfl
      rw [e] at hr
      subst hr
      repeat (first|simp only [go_sem,t0,t4,t5,t7,hlt',decide_true,Int.natCast_nonneg,Int.toNat_natCast,he,e1,hp]|refine Unf.h (a:=opsB _ _ g_ref07_All.o2 _ _) ?_|refine Unf.h (a:=opsB _ _ g_ref07_All.o3 _ _) ?_|refine Unf.h (a:=wpB _ _ g_ref07_All.c0 _ _) ?_|refine Unf.h (a:=wpB _ _ g_ref07_All.c1 _ _) ?_)
      exact hT _ rfl rfl rfl rfl
    | true =>
      have e:runN lineB (s[n]::s.drop (n+1))=runN lineB (s.drop (n+1))+1:=by rw [runN,List.takeWhile_cons,hp];rfl
      rw [e] at hr
      repeat (first|simp only [go_sem,t0,t4,t5,t7,hlt',decide_true,Int.natCast_nonneg,Int.toNat_natCast,he,e1,hp,hw]|refine Unf.h (a:=opsB _ _ g_ref07_All.o2 _ _) ?_|refine Unf.h (a:=opsB _ _ g_ref07_All.o3 _ _) ?_|refine Unf.h (a:=wpB _ _ g_ref07_All.c0 _ _) ?_|refine Unf.h (a:=wpB _ _ g_ref07_All.c1 _ _) ?_)
      exact ih (n+1) (by omega) (by omega) _ rfl rfl rfl rfl
def vLexR (x:List Tok × Option Nat):V:=.tup [.d (.sl (x.1.map encT)),vI (match x.2 with|none => -1|some e=>e)]
theorem rall_loop {C:Ctx} (hIn:∀ (c:UInt8) (l:List UInt8),l.length<100000→SoundAt C 96 ⟨[vC c,vS l],looko []⟩ ⟨vB (l.contains c),looko []⟩)
    (hEnd:∀ (s:List UInt8) (k:Nat) (l:List UInt8),k≤s.length→l.length<100000→s.length<4611686018427387904→SoundAt C 97 ⟨[vS s,vI k,vS l],looko []⟩ ⟨vI ((k+runN l.contains (s.drop k):Nat):Int),looko []⟩)
    (hKind:∀ s:List UInt8,s.length<100000→SoundAt C 98 ⟨[vS s],looko []⟩ ⟨vI (kindR s),looko []⟩)
    {I:Nat→Prop} (hI:∀ n,¬I n) {Q:Ex→St→Prop} {s:List UInt8} (hs:s.length<100000) {x:List Tok × Option Nat}
    (hT:∀ ts t,x=(ts,none)→t 4=ownV 110 ts→Q (.exit 0) (St.mk t (looko [(110,ownO 3 encT ts)])))
    (hE:∀ e,x=([],some e)→∀ ob,Q .ret (St.mk (look [(2,.cap0),(3,vI e)]) (looko [(110,ob)]))) :
    ∀ (f k:Nat) (acc:List Tok),k≤s.length→s.length≤k+f→acc.length≤k →
      (match lexGo oneR f k (s.drop k) with|(ts,none)=>(acc++ts,none)|(_,some e)=>([],some e))=x →
      wpB C I g_ref07_All.l0 (St.mk (look [(0,vS s),(4,ownV 110 acc),(5,vI k)]) (looko [(110,ownO 3 encT acc)])) Q:=by
  intro f
  induction f with
  | zero =>
    intro k acc hk hf ha hx
    refine w_loopC (L:=g_ref07_All.l0) rfl ?_
    have hge:¬((k:Int)<(s.length:Int)):=by omega
    simp only [lexGo,List.append_nil] at hx
    repeat (first|simp only [go_sem,hge,decide_false]|refine Unf.h (a:=wpB _ _ g_ref07_All.c12 _ _) ?_)
    exact hT _ _ hx.symm rfl
  | succ f ih =>
    intro k acc hk hf ha hx
    refine w_loopC (L:=g_ref07_All.l0) rfl ?_
    by_cases hend:k=s.length
    · have hge:¬((k:Int)<(s.length:Int)):=by omega
      rw [hend,List.drop_length] at hx
      simp only [lexGo,List.append_nil] at hx
      repeat (first|simp only [go_sem,hge,decide_false]|refine Unf.h (a:=wpB _ _ g_ref07_All.c12 _ _) ?_)
      exact hT _ _ hx.symm rfl
    have hlt:k<s.length:=by omega
    have hlt':((k:Int)<(s.length:Int)):=by omega
    have he:=List.getElem?_eq_getElem hlt
    obtain ⟨c,hc⟩:∃ c,s[k]=c:=⟨_,rfl⟩
    obtain ⟨r,hr⟩:∃ r,s.drop k=c::r:=⟨_,by rw [List.drop_eq_getElem_cons hlt,hc]⟩
    have hr1:s.drop (k+1)=r:=by
      rw [← List.drop_drop,hr];rfl
    have hlr:r.length+1+k=s.length:=by
      have:=congrArg List.length hr
      simp at this;omega
    rw [hc] at he
    rw [hr] at hx
    have e32:((c.toNat:Int)==32)=(c==32):=byte_eq c 32
    have e10:((c.toNat:Int)==10)=(c==10):=byte_eq c 10
    have e35:((c.toNat:Int)==35)=(c==35):=byte_eq c 35
    have e60:((c.toNat:Int)==60)=(c==60):=byte_eq c 60
    have e62:((c.toNat:Int)==62)=(c==62):=byte_eq c 62
    have hw:IntKind.i64.wrap ((k:Int)+1)=((k+1:Nat):Int):=by rw [wrapI (by omega) (by omega)];omega
    simp only [lexGo] at hx
    have skip:∀ k':Nat,k'≤s.length→s.length≤k'+f→acc.length≤k'→(match lexGo oneR f k' (s.drop k') with|(ts,none)=>(acc++ts,none)|(_,some e)=>([],some e))=x →
        wpB C I g_ref07_All.c9 (St.mk (look [(0,vS s),(4,ownV 110 acc),(5,vI k),(7,vI k'),(8,vI (-1))]) (looko [(110,ownO 3 encT acc)])) (blockK 1 [0,4,5] (some [110]) (seqK (fun s=>wpB C I g_ref07_All.l0 s Q) Q)):=by
      intro k' h1 h2 h3 h4
      repeat (first|simp only [go_sem]|refine Unf.h (a:=wpB _ _ g_ref07_All.c7 _ _) ?_|refine Unf.h (a:=wpB _ _ g_ref07_All.c8 _ _) ?_|refine Unf.h (a:=wpB _ _ g_ref07_All.c9 _ _) ?_)
      exact ih k' acc h1 h2 h3 h4
    have none_:∀ k':Nat,x=([],some k)→wpB C I g_ref07_All.c9 (St.mk (look [(0,vS s),(4,ownV 110 acc),(5,vI k),(7,vI k'),(8,vI 0)]) (looko [(110,ownO 3 encT acc)])) (blockK 1 [0,4,5] (some [110]) (seqK (fun s=>wpB C I g_ref07_All.l0 s Q) Q)):=by
      intro k' h4
      repeat (first|simp only [go_sem]|refine Unf.h (a:=wpB _ _ g_ref07_All.c7 _ _) ?_|refine Unf.h (a:=wpB _ _ g_ref07_All.c8 _ _) ?_|refine Unf.h (a:=wpB _ _ g_ref07_All.c9 _ _) ?_)
      exact hE k h4 _
    have take:∀ (kind:Int) (n:Nat),0<kind→1≤n→k+n≤s.length→(match (match lexGo oneR f (k+n) (s.drop (k+n)) with|(ts,none)=>(⟨kind,(c::r).take n,k⟩::ts,none)|(_,some e)=>(([]:List Tok),some e)) with|(ts,none)=>(acc++ts,none)|(_,some e)=>([],some e))=x →
        wpB C I g_ref07_All.c9 (St.mk (look [(0,vS s),(4,ownV 110 acc),(5,vI k),(7,vI ((k+n:Nat):Int)),(8,vI kind)]) (looko [(110,ownO 3 encT acc)])) (blockK 1 [0,4,5] (some [110]) (seqK (fun s=>wpB C I g_ref07_All.l0 s Q) Q)):=by
      intro kind n hkind hn hkn h4
      have hcut:(s.take (k+n)).drop k=(c::r).take n:=by rw [List.drop_take,hr];congr 1;omega
      obtain ⟨u,hu⟩:∃ u,(c::r).take n=u:=⟨_,rfl⟩
      rw [hu] at h4 hcut
      have hb1:((k+n:Nat):Int)≤(s.length:Int):=by omega
      have hb2:(k:Int)≤((k+n:Nat):Int):=by omega
      have hk0:(kind==0)=false:=by rw [beq_eq_false_iff_ne];omega
      have hk1:(kind>0):=hkind
      have next:wpB C I g_ref07_All.l0 (St.mk (look [(0,vS s),(4,ownV 110 (acc++[⟨kind,u,k⟩])),(5,vI ((k+n:Nat):Int))]) (looko [(110,ownO 3 encT (acc++[⟨kind,u,k⟩]))])) Q:=by
        refine ih (k+n) (acc++[⟨kind,u,k⟩]) (by omega) (by omega) (by simp;omega) ?_
        rw [← h4]
        rcases lexGo oneR f (k+n) (s.drop (k+n)) with ⟨ts,_|e⟩ <;> simp
      rw [ownV_snoc,ownO_snoc] at next
      cases acc with
      | nil =>
        repeat (first|simp only [go_sem,hI,ownV,ownO,partsN,hk0,hk1,decide_true,Int.natCast_nonneg,Int.toNat_natCast,hb1,hb2,hcut,and_self]|refine Unf.h (a:=wpB _ _ g_ref07_All.c7 _ _) ?_|refine Unf.h (a:=wpB _ _ g_ref07_All.c8 _ _) ?_|refine Unf.h (a:=wpB _ _ g_ref07_All.c9 _ _) ?_)
        exact next
      | cons a l =>
        have ha1:l.length+1+1≤140737488355328:=by simp at ha;omega
        have ha2:(l.length+1+1)*32≤140737488355328:=by simp at ha;omega
        repeat (first|simp only [go_sem,hI,ownV,ownO,partsN,hk0,hk1,decide_true,Int.natCast_nonneg,Int.toNat_natCast,hb1,hb2,hcut,and_self,List.length_map,ha1,ha2]|refine Unf.h (a:=wpB _ _ g_ref07_All.c7 _ _) ?_|refine Unf.h (a:=wpB _ _ g_ref07_All.c8 _ _) ?_|refine Unf.h (a:=wpB _ _ g_ref07_All.c9 _ _) ?_)
        exact next
    by_cases h1:c=32
    · have h1':(c==32)=true:=by simpa using h1
      rw [if_pos (.inl h1),← hr1] at hx
      repeat (first|simp only [go_sem,hlt',decide_true,he,Int.natCast_nonneg,Int.toNat_natCast,e32,h1',hw]|refine Unf.h (a:=wpB _ _ g_ref07_All.c12 _ _) ?_|refine Unf.h (a:=wpB _ _ g_ref07_All.c11 _ _) ?_|refine Unf.h (a:=wpB _ _ g_ref07_All.c10 _ _) ?_|refine Unf.h (a:=opsB _ _ g_ref07_All.o0 _ _) ?_|refine Unf.h (a:=opsB _ _ g_ref07_All.o1 _ _) ?_|refine Unf.h (a:=wpB _ _ g_ref07_All.c6 _ _) ?_)
      exact skip (k+1) (by omega) (by omega) (by omega) hx
    have h1':(c==32)=false:=by simpa using h1
    by_cases h2:c=10
    · have h2':(c==10)=true:=by simpa using h2
      rw [if_pos (.inr h2),← hr1] at hx
      repeat (first|simp only [go_sem,hlt',decide_true,he,Int.natCast_nonneg,Int.toNat_natCast,e32,e10,h1',h2',hw]|refine Unf.h (a:=wpB _ _ g_ref07_All.c12 _ _) ?_|refine Unf.h (a:=wpB _ _ g_ref07_All.c11 _ _) ?_|refine Unf.h (a:=wpB _ _ g_ref07_All.c10 _ _) ?_|refine Unf.h (a:=opsB _ _ g_ref07_All.o0 _ _) ?_|refine Unf.h (a:=opsB _ _ g_ref07_All.o1 _ _) ?_|refine Unf.h (a:=wpB _ _ g_ref07_All.c6 _ _) ?_)
      exact skip (k+1) (by omega) (by omega) (by omega) hx
    have h2':(c==10)=false:=by simpa using h2
    rw [if_neg (by simp [h1,h2])] at hx
    by_cases h3:c=35
    · have h3':(c==35)=true:=by simpa using h3
      rw [if_pos h3] at hx
      have hp:runN lineB (c::r)=runN lineB r+1:=by rw [runN,List.takeWhile_cons,show lineB c=true from by subst h3;rfl];rfl
      have hle:=runN_le lineB r
      have hdr:(c::r).drop (runN lineB (c::r))=s.drop (k+1+runN lineB (s.drop (k+1))):=by
        have:=List.drop_drop (i:=runN lineB r+1) (j:=k) (l:=s)
        rw [hr] at this
        rw [hp,hr1,this];congr 1;omega
      have hpos:k+runN lineB (c::r)=k+1+runN lineB (s.drop (k+1)):=by rw [hp,hr1];omega
      rw [hdr,hpos] at hx
      have hle':k+1+runN lineB (s.drop (k+1))≤s.length:=by rw [hr1];omega
      repeat (first|simp only [go_sem,hlt',decide_true,he,Int.natCast_nonneg,Int.toNat_natCast,e32,e10,e35,h1',h2',h3',hw]|refine Unf.h (a:=wpB _ _ g_ref07_All.c12 _ _) ?_|refine Unf.h (a:=wpB _ _ g_ref07_All.c11 _ _) ?_|refine Unf.h (a:=wpB _ _ g_ref07_All.c10 _ _) ?_|refine Unf.h (a:=opsB _ _ g_ref07_All.o0 _ _) ?_|refine Unf.h (a:=opsB _ _ g_ref07_All.o1 _ _) ?_|refine Unf.h (a:=wpB _ _ g_ref07_All.c6 _ _) ?_)
      refine line_loop (by omega) (r:=k+1+runN lineB (s.drop (k+1))) (fun t t0 t4 t5 t7 => ?_) (s.length-(k+1)) (k+1) (by omega) rfl _ rfl rfl rfl rfl
      repeat (first|simp only [go_sem,t0,t4,t5,t7]|refine Unf.h (a:=wpB _ _ g_ref07_All.c2 _ _) ?_)
      exact skip _ hle' (by omega) (by omega) hx
    have h3':(c==35)=false:=by simpa using h3
    rw [if_neg h3] at hx
    have tl:=hIn c lettersL (by decide)
    have td:=hIn c digitsL (by decide)
    have ts:=hIn c signSet (by decide)
    rw [letters_eq] at tl
    rw [digits_eq] at td
    cases h4:letB c with
    | true =>
      have te:=hEnd s k (lettersL++digitsL) (by omega) (by decide) (by omega)
      have hfun:(lettersL++digitsL).contains=wordB:=funext words_eq
      rw [hfun,hr] at te
      rw [h4] at tl
      have hle:=runN_le wordB (c::r)
      rw [List.length_cons] at hle
      have hpos:1≤runN wordB (c::r):=runN_pos (by simp [wordB,h4])
      have hone:oneR (c::r)=(if runN wordB (c::r)<13 then 1 else 0,runN wordB (c::r)):=by rw [oneR,if_pos h4]
      rw [hone] at hx
      obtain ⟨n,hn⟩:∃ n,runN wordB (c::r)=n:=⟨_,rfl⟩
      rw [hn] at hx te hle hpos
      have hw2:IntKind.i64.wrap (((k+n:Nat):Int)-(k:Int))=(n:Int):=by rw [wrapI (by omega) (by omega)];omega
      have hdr:(c::r).drop n=s.drop (k+n):=by rw [← hr,List.drop_drop]
      by_cases h5:n<13
      · have h5':((n:Int)<13):=by omega
        rw [if_pos h5,if_neg (by simp)] at hx
        simp only [hdr] at hx
        repeat (first|simp only [go_sem,hlt',decide_true,he,Int.natCast_nonneg,Int.toNat_natCast,e32,e10,e35,h1',h2',h3',hw,hw2,h5']|refine callK_plain tl (fun _=>rfl) ?_|refine callK_plain te (fun _=>rfl) ?_|refine Unf.h (a:=wpB _ _ g_ref07_All.c12 _ _) ?_|refine Unf.h (a:=wpB _ _ g_ref07_All.c11 _ _) ?_|refine Unf.h (a:=wpB _ _ g_ref07_All.c10 _ _) ?_|refine Unf.h (a:=opsB _ _ g_ref07_All.o0 _ _) ?_|refine Unf.h (a:=opsB _ _ g_ref07_All.o1 _ _) ?_|refine Unf.h (a:=wpB _ _ g_ref07_All.c6 _ _) ?_|refine Unf.h (a:=wpB _ _ g_ref07_All.c3 _ _) ?_)
        exact take 1 n (by decide) hpos (by omega) hx
      · have h5':¬((n:Int)<13):=by omega
        rw [if_neg h5,if_pos rfl] at hx
        repeat (first|simp only [go_sem,hlt',decide_true,decide_false,he,Int.natCast_nonneg,Int.toNat_natCast,e32,e10,e35,h1',h2',h3',hw,hw2,h5']|refine callK_plain tl (fun _=>rfl) ?_|refine callK_plain te (fun _=>rfl) ?_|refine Unf.h (a:=wpB _ _ g_ref07_All.c12 _ _) ?_|refine Unf.h (a:=wpB _ _ g_ref07_All.c11 _ _) ?_|refine Unf.h (a:=wpB _ _ g_ref07_All.c10 _ _) ?_|refine Unf.h (a:=opsB _ _ g_ref07_All.o0 _ _) ?_|refine Unf.h (a:=opsB _ _ g_ref07_All.o1 _ _) ?_|refine Unf.h (a:=wpB _ _ g_ref07_All.c6 _ _) ?_|refine Unf.h (a:=wpB _ _ g_ref07_All.c3 _ _) ?_)
        exact none_ _ hx.symm
    | false =>
      rw [h4] at tl
      cases h5:digB c with
      | true =>
        rw [h5] at td
        have te:=hEnd s k (digitsL++[46,37]) (by omega) (by decide) (by omega)
        have hfun:(digitsL++[46,37]).contains=numB:=funext nums_eq
        rw [hfun,hr] at te
        have hle:=runN_le numB (c::r)
        rw [List.length_cons] at hle
        have hpos:1≤runN numB (c::r):=runN_pos (by simp [numB,h5])
        have hone:oneR (c::r)=(kindR ((c::r).take (runN numB (c::r))),runN numB (c::r)):=by rw [oneR,if_neg (by rw [h4];simp),if_pos h5]
        rw [hone] at hx
        obtain ⟨n,hn⟩:∃ n,runN numB (c::r)=n:=⟨_,rfl⟩
        rw [hn] at hx te hle hpos
        have hcut:(s.take (k+n)).drop k=(c::r).take n:=by rw [List.drop_take,hr];congr 1;omega
        have hb1:((k+n:Nat):Int)≤(s.length:Int):=by omega
        have hb2:(k:Int)≤((k+n:Nat):Int):=by omega
        have hdr:(c::r).drop n=s.drop (k+n):=by rw [← hr,List.drop_drop]
        have tk:=hKind ((c::r).take n) (by rw [List.length_take,List.length_cons];omega)
        have go : wpB C I g_ref07_All.c9 (St.mk (look [(0,vS s),(4,ownV 110 acc),(5,vI k),(7,vI ((k+n:Nat):Int)),(8,vI (kindR ((c::r).take n)))]) (looko [(110,ownO 3 encT acc)])) (blockK 1 [0,4,5] (some [110]) (seqK (fun s=>wpB C I g_ref07_All.l0 s Q) Q)):=by
          by_cases h6:kindR ((c::r).take n)=0
          · rw [if_pos h6] at hx
            rw [h6]
            exact none_ _ hx.symm
          · rw [if_neg h6] at hx
            simp only [hdr] at hx
            refine take _ n ?_ hpos (by omega) hx
            revert h6
            unfold kindR
            split
            · intro _;decide
            · split
              · intro _;decide
              · split
                · intro _;decide
                · intro h;exact absurd rfl h
        obtain ⟨u,hu⟩:∃ u,(c::r).take n=u:=⟨_,rfl⟩
        rw [hu] at hcut tk go
        repeat (first|simp only [go_sem,hlt',decide_true,decide_false,he,Int.natCast_nonneg,Int.toNat_natCast,e32,e10,e35,h1',h2',h3',hw,hb1,hb2,hcut,and_self]|refine callK_plain tl (fun _=>rfl) ?_|refine callK_plain te (fun _=>rfl) ?_|refine callK_plain td (fun _=>rfl) ?_|refine callK_plain tk (fun _=>rfl) ?_|refine Unf.h (a:=wpB _ _ g_ref07_All.c12 _ _) ?_|refine Unf.h (a:=wpB _ _ g_ref07_All.c11 _ _) ?_|refine Unf.h (a:=wpB _ _ g_ref07_All.c10 _ _) ?_|refine Unf.h (a:=opsB _ _ g_ref07_All.o0 _ _) ?_|refine Unf.h (a:=opsB _ _ g_ref07_All.o1 _ _) ?_|refine Unf.h (a:=wpB _ _ g_ref07_All.c6 _ _) ?_|refine Unf.h (a:=wpB _ _ g_ref07_All.c4 _ _) ?_)
        exact go
      | false =>
        rw [h5] at td
        cases h6:signSet.contains c with
        | false =>
          rw [h6] at ts
          have hone:oneR (c::r)=(0,1):=by rw [oneR,if_neg (by rw [h4];simp),if_neg (by rw [h5];simp),if_neg (by rw [h6];simp)]
          rw [hone,if_pos rfl] at hx
          repeat (first|simp only [go_sem,hlt',decide_true,decide_false,he,Int.natCast_nonneg,Int.toNat_natCast,e32,e10,e35,h1',h2',h3',hw]|refine callK_plain tl (fun _=>rfl) ?_|refine callK_plain td (fun _=>rfl) ?_|refine callK_plain ts (fun _=>rfl) ?_|refine Unf.h (a:=wpB _ _ g_ref07_All.c12 _ _) ?_|refine Unf.h (a:=wpB _ _ g_ref07_All.c11 _ _) ?_|refine Unf.h (a:=wpB _ _ g_ref07_All.c10 _ _) ?_|refine Unf.h (a:=opsB _ _ g_ref07_All.o0 _ _) ?_|refine Unf.h (a:=opsB _ _ g_ref07_All.o1 _ _) ?_|refine Unf.h (a:=wpB _ _ g_ref07_All.c6 _ _) ?_)
          exact none_ _ hx.symm
        | true =>
          rw [h6] at ts
          have hone:oneR (c::r)=(5,signR c r):=by rw [oneR,if_neg (by rw [h4];simp),if_neg (by rw [h5];simp),if_pos h6]
          rw [hone,if_neg (by simp)] at hx
          simp only at hx
          have hdr:(c::r).drop (signR c r)=s.drop (k+signR c r):=by rw [← hr,List.drop_drop]
          rw [hdr] at hx
          cases r with
          | nil =>
            have hge:¬(((k+1:Nat):Int)<(s.length:Int)):=by simp at hlr;omega
            repeat (first|simp only [go_sem,hlt',hge,decide_true,decide_false,he,Int.natCast_nonneg,Int.toNat_natCast,e32,e10,e35,h1',h2',h3',hw]|refine callK_plain tl (fun _=>rfl) ?_|refine callK_plain td (fun _=>rfl) ?_|refine callK_plain ts (fun _=>rfl) ?_|refine Unf.h (a:=wpB _ _ g_ref07_All.c12 _ _) ?_|refine Unf.h (a:=wpB _ _ g_ref07_All.c11 _ _) ?_|refine Unf.h (a:=wpB _ _ g_ref07_All.c10 _ _) ?_|refine Unf.h (a:=opsB _ _ g_ref07_All.o0 _ _) ?_|refine Unf.h (a:=opsB _ _ g_ref07_All.o1 _ _) ?_|refine Unf.h (a:=wpB _ _ g_ref07_All.c6 _ _) ?_|refine Unf.h (a:=opsB _ _ g_ref07_All.o4 _ _) ?_|refine Unf.h (a:=opsB _ _ g_ref07_All.o5 _ _) ?_|refine Unf.h (a:=opsB _ _ g_ref07_All.o6 _ _) ?_|refine Unf.h (a:=opsB _ _ g_ref07_All.o7 _ _) ?_|refine Unf.h (a:=opsB _ _ g_ref07_All.o8 _ _) ?_|refine Unf.h (a:=opsB _ _ g_ref07_All.o9 _ _) ?_|refine Unf.h (a:=opsB _ _ g_ref07_All.o10 _ _) ?_|refine Unf.h (a:=opsB _ _ g_ref07_All.o11 _ _) ?_|refine Unf.h (a:=opsB _ _ g_ref07_All.o12 _ _) ?_|refine Unf.h (a:=opsB _ _ g_ref07_All.o13 _ _) ?_|refine Unf.h (a:=wpB _ _ g_ref07_All.c5 _ _) ?_)
            exact take 5 1 (by decide) (by omega) (by omega) hx
          | cons d r' =>
            have hd:s[k+1]? = some d:=by
              have:=congrArg (·[0]?) hr1
              simpa using this
            have hlt2:(((k+1:Nat):Int)<(s.length:Int)):=by simp at hlr;omega
            have d61:((d.toNat:Int)==61)=(d==61):=byte_eq d 61
            have d62:((d.toNat:Int)==62)=(d==62):=byte_eq d 62
            have hw3:IntKind.i64.wrap (((k+1:Nat):Int)+1)=((k+2:Nat):Int):=by rw [wrapI (by omega) (by omega)];omega
            simp only [List.length_cons] at hlr
            have hs2:signR c (d::r')=if ((c==60&&(d==61||d==62))||(c==62&&d==61))=true then 2 else 1:=by simp [signR]
            have two:signR c (d::r')=2→wpB C I g_ref07_All.c9 (St.mk (look [(0,vS s),(4,ownV 110 acc),(5,vI k),(7,vI ((k+2:Nat):Int)),(8,vI 5)]) (looko [(110,ownO 3 encT acc)])) (blockK 1 [0,4,5] (some [110]) (seqK (fun s=>wpB C I g_ref07_All.l0 s Q) Q)):=fun h=>by
              rw [h] at hx
              exact take 5 2 (by decide) (by omega) (by omega) hx
            have single:signR c (d::r')=1→wpB C I g_ref07_All.c9 (St.mk (look [(0,vS s),(4,ownV 110 acc),(5,vI k),(7,vI ((k+1:Nat):Int)),(8,vI 5)]) (looko [(110,ownO 3 encT acc)])) (blockK 1 [0,4,5] (some [110]) (seqK (fun s=>wpB C I g_ref07_All.l0 s Q) Q)):=fun h=>by
              rw [h] at hx
              exact take 5 1 (by decide) (by omega) (by omega) hx
            repeat (first|simp only [go_sem,hlt',hlt2,decide_true,decide_false,he,Int.natCast_nonneg,Int.toNat_natCast,e32,e10,e35,h1',h2',h3',hw]|refine callK_plain tl (fun _=>rfl) ?_|refine callK_plain td (fun _=>rfl) ?_|refine callK_plain ts (fun _=>rfl) ?_|refine Unf.h (a:=wpB _ _ g_ref07_All.c12 _ _) ?_|refine Unf.h (a:=wpB _ _ g_ref07_All.c11 _ _) ?_|refine Unf.h (a:=wpB _ _ g_ref07_All.c10 _ _) ?_|refine Unf.h (a:=opsB _ _ g_ref07_All.o0 _ _) ?_|refine Unf.h (a:=opsB _ _ g_ref07_All.o1 _ _) ?_|refine Unf.h (a:=wpB _ _ g_ref07_All.c6 _ _) ?_)
            cases g1:c==60 <;> cases g2:c==62 <;> cases g3:d==61 <;> cases g4:d==62
            all_goals (
              repeat (first|simp only [go_sem,hd,Int.natCast_nonneg,Int.toNat_natCast,e60,e62,d61,d62,g1,g2,g3,g4,hw3]|refine Unf.h (a:=opsB _ _ g_ref07_All.o4 _ _) ?_|refine Unf.h (a:=opsB _ _ g_ref07_All.o5 _ _) ?_|refine Unf.h (a:=opsB _ _ g_ref07_All.o6 _ _) ?_|refine Unf.h (a:=opsB _ _ g_ref07_All.o7 _ _) ?_|refine Unf.h (a:=opsB _ _ g_ref07_All.o8 _ _) ?_|refine Unf.h (a:=opsB _ _ g_ref07_All.o9 _ _) ?_|refine Unf.h (a:=opsB _ _ g_ref07_All.o10 _ _) ?_|refine Unf.h (a:=opsB _ _ g_ref07_All.o11 _ _) ?_|refine Unf.h (a:=opsB _ _ g_ref07_All.o12 _ _) ?_|refine Unf.h (a:=opsB _ _ g_ref07_All.o13 _ _) ?_|refine Unf.h (a:=wpB _ _ g_ref07_All.c5 _ _) ?_)
              first
                | exact two (by rw [hs2,g1,g2,g3,g4];rfl)
                | exact single (by rw [hs2,g1,g2,g3,g4];rfl))
theorem refAll {C:Ctx} (h:okFn C.P C.φ 75 g_ref07_All=true) (hIn:∀ (c:UInt8) (l:List UInt8),l.length<100000→SoundAt C 96 ⟨[vC c,vS l],looko []⟩ ⟨vB (l.contains c),looko []⟩)
    (hEnd:∀ (s:List UInt8) (k:Nat) (l:List UInt8),k≤s.length→l.length<100000→s.length<4611686018427387904→SoundAt C 97 ⟨[vS s,vI k,vS l],looko []⟩ ⟨vI ((k+runN l.contains (s.drop k):Nat):Int),looko []⟩)
    (hKind:∀ s:List UInt8,s.length<100000→SoundAt C 98 ⟨[vS s],looko []⟩ ⟨vI (kindR s),looko []⟩) (s:List UInt8) (hs:s.length<100000) :
    SoundAt C 75 ⟨[vS s],looko []⟩ ⟨vLexR (lexR s),looko []⟩:=by
  have key:∀ r,(match lexR s with|(ts,none)=>r = .tup [slV encT ts,vI (-1)]|(_,some e)=>r = .tup [.cap0,vI e])→SoundAt C 75 ⟨[vS s],looko []⟩ ⟨r,looko []⟩:=by
    intro r hr
    refine SoundAt.of_run h rfl (fun Q hR hN => ?_)
    rw [entry1]
    repeat (first|simp only [go_sem]|refine Unf.h (a:=wpB _ _ g_ref07_All.code _ _) ?_)
    refine rall_loop hIn hEnd hKind (I:=fun n=>False) (fun n h=>h) hs (x:=lexR s) (fun ts t hx h4 => ?_) (fun e hx ob => ?_) s.length 0 [] (by omega) (by omega) (by simp) (lexGo_err oneR s.length 0 s)
    · rw [hx] at hr
      subst hr
      cases ts with
      | nil =>
        repeat (first|simp only [go_sem,h4,ownV,ownO]|refine Unf.h (a:=wpB _ _ g_ref07_All.c13 _ _) ?_)
        refine hR _ ?_
        simp only [go_sem,ownV,ownO,slV]
      | cons a l =>
        repeat (first|simp only [go_sem,h4,ownV,ownO]|refine Unf.h (a:=wpB _ _ g_ref07_All.c13 _ _) ?_)
        refine hR _ ?_
        simp only [go_sem,ownV,ownO,slV]
    · refine hR _ ?_
      rw [hx] at hr
      subst hr
      simp only [go_sem]
  rcases hx:lexR s with ⟨ts,_|e⟩
  · have:=SoundAt.res_up (key (.tup [slV encT ts,vI (-1)]) (by rw [hx]))
    simpa [V.up,V.ups,slV_up,vLexR] using this
  · have he:=lexGo_err oneR s.length 0 s
    rw [show lexGo oneR s.length 0 s=(ts,some e) from hx] at he
    simp only [Prod.mk.injEq,and_true] at he
    subst he
    have:=SoundAt.res_up (key (.tup [.cap0,vI e]) (by rw [hx]))
    simpa [V.up,V.ups,slV_up,vLexR] using this
end Pay
