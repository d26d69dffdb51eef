/- Contracts: the copy of a program; the fixed answer of the layer of texts. -/
import Derived.Test.YtmglkghngkbioaaGreatDoorPayC66
import Derived.Test.YtmglkghngkbioaaGreatDoorPayMSw5
set_option linter.unusedSimpArgs false
set_option linter.unusedVariables false
set_option maxRecDepth 100000
set_option maxHeartbeats 1000000
namespace Pay
open Go
attribute [local irreducible] wpB opsB treeB drawB
theorem ref9_loop0 {C:Ctx}{I:Nat→Prop}(hI:∀ n,¬I n){Q:Ex→St→Prop}{p:Prog}{b2:Ob}(hb2:b2 = .box [.cap0,.cap0])(hp:p.rules.length*40≤140737488355328)
    (hT:∀ s,s 1 = .ptr 1 0→s 2 = .ptr 2 0→s 3 = .ptr 3 0→Q (.exit 0) (St.mk s (looko [(1,some (.box [.d (.sl (p.rules.map encRl)),.d (.sl (p.exprs.map encX))])),(2,some b2),(3,some (.box [ownV 19 p.rules,.cap0])),(19,ownO 3 encRl p.rules),(33,none)]))) :
    ∀ (m k:Nat),k+m=p.rules.length →
      wpB C I g_law09_ref.l0 (St.mk (look [(1,.ptr 1 0),(2,.ptr 2 0),(3,.ptr 3 0),(9,.d (.sl (p.rules.map encRl))),(10,vI p.rules.length),(11,vI k)]) (looko [(1,some (.box [.d (.sl (p.rules.map encRl)),.d (.sl (p.exprs.map encX))])),(2,some b2),(3,some (.box [ownV 19 (p.rules.take k),.cap0])),(19,ownO 3 encRl (p.rules.take k)),(33,none)])) Q:=by
  subst hb2
  intro m
  induction m with
  | zero =>
    intro k hk
    refine w_loopC (L:=g_law09_ref.l0) rfl ?_
    have hk':k=p.rules.length:=by omega
    subst hk'
    rw [List.take_length]
    repeat (first|simp only [go_sem,Int.lt_irrefl,decide_false]|refine Unf.h ?_)
    refine hT _ ?_ ?_ ?_ <;> rfl
  | succ m ih =>
    intro k hk
    refine w_loopC (L:=g_law09_ref.l0) rfl ?_
    have hlt:k<p.rules.length:=by omega
    have hlt':((k:Int)<(p.rules.length:Int)):=by omega
    have e1:=List.getElem?_eq_getElem hlt
    have hw:IntKind.i64.wrap ((k:Int)+1)=((k+1:Nat):Int):=by rw [wrapI (by omega) (by omega)];omega
    have next:=ih (k+1) (by omega)
    have hts:p.rules.take (k+1)=p.rules.take k++[p.rules[k]]:=by rw [List.take_add_one,e1];rfl
    have hln:(p.rules.take k).length=k:=by rw [List.length_take];omega
    rw [hts] at next
    obtain ⟨acc,hacc⟩:∃ acc,p.rules.take k=acc:=⟨_,rfl⟩
    obtain ⟨a,ha⟩:∃ a,p.rules[k]=a:=⟨_,rfl⟩
    rw [hacc] at next hln ⊢
    rw [ha] at next e1
    rw [ownV_snoc,ownO_snoc] at next
    cases acc with
    | nil =>
      repeat (first|simp only [go_sem,hI,ownV,ownO,partsN,hlt',decide_true,Int.natCast_nonneg,Int.toNat_natCast,getMap encRl e1,encRl,hw]|refine Unf.h ?_)
      exact next
    | cons c l =>
      simp only [List.length_cons] at hln
      have h1:l.length≤140737488355326:=by omega
      have h2:(l.length+1+1)*40≤140737488355328:=by omega
      repeat (first|simp only [go_sem,hI,ownV,ownO,partsN,hlt',decide_true,Int.natCast_nonneg,Int.toNat_natCast,getMap encRl e1,encRl,hw,List.length_map,h1,h2]|refine Unf.h ?_)
      exact next
theorem ref9_loop1 {C:Ctx}{I:Nat→Prop}(hI:∀ n,¬I n){Q:Ex→St→Prop}{p:Prog}{b2:Ob}(hb2:b2 = .box [.cap0,.cap0])(hp:p.exprs.length<100000){rs:List Rul}{c0:V}{o19:Option Ob}(hc:c0=ownV 19 rs)(ho:o19=ownO 3 encRl rs)
    (hT:∀ s,s 2 = .ptr 2 0→s 3 = .ptr 3 0→Q (.exit 2) (St.mk s (looko [(2,some b2),(3,some (.box [c0,ownV 33 p.exprs])),(19,o19),(33,ownO 6 encX p.exprs)]))) :
    ∀ (m k:Nat),k+m=p.exprs.length →
      wpB C I g_law09_ref.l1 (St.mk (look [(2,.ptr 2 0),(3,.ptr 3 0),(23,.d (.sl (p.exprs.map encX))),(24,vI p.exprs.length),(25,vI k)]) (looko [(2,some b2),(3,some (.box [c0,ownV 33 (p.exprs.take k)])),(19,o19),(33,ownO 6 encX (p.exprs.take k))])) Q:=by
  subst hb2 hc ho
  intro m
  induction m with
  | zero =>
    intro k hk
    refine w_loopC (L:=g_law09_ref.l1) rfl ?_
    have hk':k=p.exprs.length:=by omega
    subst hk'
    rw [List.take_length]
    repeat (first|simp only [go_sem,Int.lt_irrefl,decide_false]|refine Unf.h ?_)
    refine hT _ ?_ ?_ <;> rfl
  | succ m ih =>
    intro k hk
    refine w_loopC (L:=g_law09_ref.l1) rfl ?_
    have hlt:k<p.exprs.length:=by omega
    have hlt':((k:Int)<(p.exprs.length:Int)):=by omega
    have e1:=List.getElem?_eq_getElem hlt
    have hw:IntKind.i64.wrap ((k:Int)+1)=((k+1:Nat):Int):=by rw [wrapI (by omega) (by omega)];omega
    have next:=ih (k+1) (by omega)
    have hts:p.exprs.take (k+1)=p.exprs.take k++[p.exprs[k]]:=by rw [List.take_add_one,e1];rfl
    have hln:(p.exprs.take k).length=k:=by rw [List.length_take];omega
    rw [hts] at next
    obtain ⟨acc,hacc⟩:∃ acc,p.exprs.take k=acc:=⟨_,rfl⟩
    obtain ⟨a,ha⟩:∃ a,p.exprs[k]=a:=⟨_,rfl⟩
    rw [hacc] at next hln ⊢
    rw [ha] at next e1
    rw [ownV_snoc,ownO_snoc] at next
    cases acc with
    | nil =>
      cases rs <;> simp only [ownV,ownO] at next ⊢
      all_goals
       repeat (first|simp only [go_sem,hI,ownV,ownO,partsN,hlt',decide_true,Int.natCast_nonneg,Int.toNat_natCast,getMap encX e1,encX,hw]|refine Unf.h ?_)
       exact next
    | cons c l =>
      simp only [List.length_cons] at hln
      have h1:l.length≤140737488355326:=by omega
      have h2:(l.length+1+1)*64≤140737488355328:=by omega
      cases rs <;> simp only [ownV,ownO] at next ⊢
      all_goals
       repeat (first|simp only [go_sem,hI,ownV,ownO,partsN,hlt',decide_true,Int.natCast_nonneg,Int.toNat_natCast,getMap encX e1,encX,hw,List.length_map,h1,h2]|refine Unf.h ?_)
       exact next
theorem r9Ref {C:Ctx} (h:okFn C.P C.φ 179 g_law09_ref=true) (p:Prog) (h1:p.rules.length*40≤140737488355328) (h2:p.exprs.length<100000) :
    SoundAt C 179 ⟨[vProg p],looko []⟩ ⟨vProg p,looko []⟩:=by
  have key:SoundAt C 179 ⟨[vProg p],looko []⟩ ⟨.agg [slV encRl p.rules,slV encX p.exprs],looko []⟩:=by
    refine SoundAt.of_run h rfl (fun Q hR hN => ?_)
    rw [entry1]
    repeat (first|simp only [go_sem,List.length_map]|refine Unf.h ?_)
    refine ref9_loop0 (fun n h=>h) rfl h1 (fun s s1 s2 s3 => ?_) p.rules.length 0 (by omega)
    repeat (first|simp only [go_sem,s1,s2,s3,List.length_map]|refine Unf.h ?_)
    refine ref9_loop1 (fun n h=>h) rfl h2 (rs:=p.rules) rfl rfl (fun s s2 s3 => ?_) p.exprs.length 0 (by omega)
    cases hr:p.rules with
    | nil =>
      cases hx:p.exprs with
      | nil =>
        rw [hr,hx] at hR
        repeat (first|simp only [go_sem,s2,s3,ownV,ownO]|refine Unf.h ?_)
        refine hR _ ?_
        rw [ends_frz]
        simp only [go_sem,slV]
      | cons b m =>
        rw [hr,hx] at hR
        repeat (first|simp only [go_sem,s2,s3,ownV,ownO]|refine Unf.h ?_)
        refine hR _ ?_
        rw [ends_frz]
        simp only [go_sem,slV]
    | cons a l =>
      cases hx:p.exprs with
      | nil =>
        rw [hr,hx] at hR
        repeat (first|simp only [go_sem,s2,s3,ownV,ownO]|refine Unf.h ?_)
        refine hR _ ?_
        rw [ends_frz]
        simp only [go_sem,slV]
      | cons b m =>
        rw [hr,hx] at hR
        repeat (first|simp only [go_sem,s2,s3,ownV,ownO]|refine Unf.h ?_)
        refine hR _ ?_
        rw [ends_frz]
        simp only [go_sem,slV]
  have:=SoundAt.res_up key
  simpa [V.up,V.ups,slV_up] using this
abbrev aw9:List UInt8:=[108,101,116,32,97,61,40,49,43,50,41,42,98,59]
abbrev aw9P:Prog:=⟨[⟨wLet,[97],4⟩],[xLeaf wWhole [] 1,xLeaf wWhole [] 2,xNode [43] 0 1 0,xLeaf wName [98] 0,xNode [42] 2 3 0]⟩
abbrev aw9T:List UInt8:=[108,101,116,32,97,32,61,32,40,49,32,43,32,50,41,32,42,32,98,59,10]
abbrev aw9Q:Prog:=⟨[⟨[],[],0⟩],[]⟩
theorem aw9_p:parseP aw9=(aw9P,0,0):=by kernel_rfl
theorem aw9_t:textW aw9P=aw9T:=by kernel_rfl
theorem aw9_1:showW aw9P=(aw9T,0):=by kernel_rfl
theorem aw9_2:showW aw9Q=([],1):=by kernel_rfl
theorem aw9_3:exprW aw9P 2=([49,32,43,32,50],0):=by kernel_rfl
structure Sh9 (C:Ctx):Prop where
  parse:HParse C
  text:∀ p:Prog,p.rules.length<100000→p.exprs.length<100000→(∀ x∈p.exprs,IRange x.val)→(soundP p=true→(textW p).length<100000)→SoundAt C 174 ⟨[vProg p],looko []⟩ ⟨.tup [vS (showW p).1,vI (showW p).2],looko []⟩
  expr:∀ (p:Prog) (i:Int),p.rules.length<100000→OkE p.exprs→(soundP p=true→(textW p).length<100000)→SoundAt C 175 ⟨[vProg p,vI i],looko []⟩ ⟨.tup [vS (exprW p i).1,vI (exprW p i).2],looko []⟩
theorem lawShowAwake {C:Ctx}(h:okFn C.P C.φ 172 g_law09_awake=true)(K:Sh9 C):SoundAt C 172 ⟨[],looko []⟩ ⟨vB true,looko []⟩:=by
  have t1:=K.parse aw9 (by decide)
  rw [aw9_p] at t1
  have hv:∀ x∈aw9P.exprs,IRange x.val:=by
    intro x hx
    simp only [List.mem_cons,List.not_mem_nil,or_false] at hx
    rcases hx with rfl|rfl|rfl|rfl|rfl <;> exact ⟨by decide,by decide⟩
  have t2:=K.text aw9P (by decide) (by decide) hv (fun _=>by rw [aw9_t];decide)
  rw [aw9_1] at t2
  have t3:SoundAt C 174 ⟨[.agg [.d (.sl [[.str [],.str [],dI 0]]),.cap0]],looko []⟩ ⟨.tup [vS [],vI 1],looko []⟩:=SoundAt.up (by
    have:=K.text aw9Q (by decide) (by decide) (fun x hx=>by simp at hx) (fun h=>by
      exact absurd h (by decide))
    rw [aw9_2] at this
    exact this)
  have t4:=K.expr aw9P 2 (by decide) ⟨by kernel_rfl,hv,by decide⟩ (fun _=>by rw [aw9_t];decide)
  rw [aw9_3] at t4
  simp only [vParse,vProg,List.map_cons,List.map_nil,encX,encRl,xLeaf,xNode,aw9,aw9P,aw9T] at t1 t2 t4
  refine SoundAt.of_run h rfl (fun Q hR hN => ?_)
  rw [entry0]
  repeat' (first|simp only [go_sem,partsN]|refine callK_plain t1 (fun _=>rfl) ?_|refine callK_plain t2 (fun _=>rfl) ?_|refine callK_plain t3 (fun _=>rfl) ?_|refine callK_plain t4 (fun _=>rfl) ?_|refine Unf.h ?_|refine hR _ ?_)
end Pay
