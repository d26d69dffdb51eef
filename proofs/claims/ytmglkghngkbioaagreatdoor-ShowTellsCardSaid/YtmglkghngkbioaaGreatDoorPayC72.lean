/- Contracts: the document's parser of rule sets, its first functions. -/
import Derived.Test.YtmglkghngkbioaaGreatDoorPayC66
set_option linter.unusedSimpArgs false
set_option linter.unusedVariables false
set_option maxHeartbeats 1000000
namespace Pay
open Go
attribute [local irreducible] wpB opsB treeB drawB
def RuS (R:V)(l:List (Nat × Ob)):Prop:=(R = .cap0∧l=[])∨∃ es,R = .own 108∧l=[(108,.row 3 es)]
theorem RuS.refsIn {R:V}{l:List (Nat × Ob)}(h:RuS R l):refsIn l:=by
  rcases h with ⟨_,rfl⟩|⟨es,_,rfl⟩
  · intro p hp;cases hp
  · intro p hp m hm
    simp only [List.mem_cons,List.not_mem_nil,or_false] at hp
    subst hp
    simp [Ob.refs] at hm
theorem RuS.some {R:V}{l:List (Nat × Ob)}(h:RuS R l){n:Nat}(hn:V.refs n R=true):(looko (oL l) n).isSome=true:=by
  rcases h with ⟨rfl,_⟩|⟨es,rfl,rfl⟩
  · simp [V.refs] at hn
  · simp [V.refs] at hn
    subst hn
    simp [oL,looko]
theorem callK_v {C:Ctx}{I:Nat→Prop}{st:St}{dst:Option Nat}{f:Nat}{xs:List V}{F:V→(Nat→Option Ob)→Prop}{r:V}{R:V}{l:List (Nat × Ob)}(hR:RuS R l)
    (h:SoundAt C f ⟨xs,looko (oL l)⟩ ⟨r,looko (oL l)⟩) (ho:objsIn l st.o) (hr:∀ n,V.refs n r=true→V.refs n R=true) (hK:F r (updL st.o l)):callK C I st dst f xs F :=
  callK_objs l l ho rfl hR.refsIn h (fun n hn=>hR.some (hr n hn)) hK
abbrev sV (R:V) (all:List Tok) (en:Nat) (x:PS):V:=.agg [.d (.sl (all.map encT)),vI en,vI (atN all x.ts),R,slV encX x.exprs,vI x.err,vI x.place]
attribute [go_sem] slV_refs
theorem sV_refs {R:V}{all:List Tok}{en:Nat}{x:PS}(n:Nat)(h:V.refs n (sV R all en x)=true):V.refs n R=true:=by
  simpa [V.refs,V.refsL,slV_refs] using h
def wordT (x:PS):List UInt8:=match x.ts with
  | []=>[]
  | t::_=>if signT t=true then t.text else []
def HSt (C:Ctx)(f:Nat)(args:List V)(g:Nat→PS→PS):Prop:=∀ {R:V}{l:List (Nat × Ob)}{all:List Tok}{en:Nat}{x:PS},RuS R l→PK all x→SoundAt C f ⟨sV R all en x::args,looko (oL l)⟩ ⟨sV R all en (g en x),looko (oL l)⟩
def HText (C:Ctx):Prop:=∀ {R:V}{l:List (Nat × Ob)}{all:List Tok}{en:Nat}{x:PS},RuS R l→PK all x→SoundAt C 193 ⟨[sV R all en x],looko (oL l)⟩ ⟨vS (wordT x),looko (oL l)⟩
theorem ref8Text {C:Ctx} (h:okFn C.P C.φ 193 g_ref08_text=true):HText C:=by
  intro R l all en x hRS hp
  rcases hRS with ⟨rfl,rfl⟩|⟨es,rfl,rfl⟩
  all_goals
    refine SoundAt.of_run h rfl (fun Q hR hN => ?_)
    simp only [oL,List.map_cons,List.map_nil]
    rw [entry1]
    cases hts:x.ts with
    | nil =>
      have e:=hp.nil hts
      rw [hts] at e
      have et:wordT x=[]:=by unfold wordT;rw [hts]
      repeat (first|simp only [go_sem,hts,List.length_map,e,Int.lt_irrefl,decide_false]|refine Unf.h ?_)
      refine hR _ (ends_objs ?_)
      simp only [go_sem,et]
    | cons t r =>
      obtain ⟨e1,e2,e3⟩:=hp.cons hts
      rw [hts] at e1 e2
      have e1':((atN all (t::r):Int)<(all.length:Int)):=by omega
      by_cases k1:t.kind=1
      · have et:wordT x=t.text:=by unfold wordT signT;rw [hts];simp [k1]
        have b1:(t.kind==1)=true:=by simp [k1]
        repeat (first|simp only [go_sem,hts,List.length_map,e1',decide_true,Int.natCast_nonneg,Int.toNat_natCast,getMap encT e2,encT,b1]|refine Unf.h ?_)
        refine hR _ (ends_objs ?_)
        simp only [go_sem,et]
      have b1:(t.kind==1)=false:=by simp [k1]
      by_cases k5:t.kind=5
      · have et:wordT x=t.text:=by unfold wordT signT;rw [hts];simp [k5]
        have b5:(t.kind==5)=true:=by simp [k5]
        repeat (first|simp only [go_sem,hts,List.length_map,e1',decide_true,Int.natCast_nonneg,Int.toNat_natCast,getMap encT e2,encT,b1,b5]|refine Unf.h ?_)
        refine hR _ (ends_objs ?_)
        simp only [go_sem,et]
      have b5:(t.kind==5)=false:=by simp [k5]
      have et:wordT x=[]:=by unfold wordT signT;rw [hts];simp [k1,k5]
      repeat (first|simp only [go_sem,hts,List.length_map,e1',decide_true,Int.natCast_nonneg,Int.toNat_natCast,getMap encT e2,encT,b1,b5]|refine Unf.h ?_)
      refine hR _ (ends_objs ?_)
      simp only [go_sem,et]
theorem ref8Wrong {C:Ctx} (h:okFn C.P C.φ 194 g_ref08_wrong=true) (e:Int):HSt C 194 [vI e] (fun en x=>failS en e x):=by
  intro R l all en x hRS hp
  rcases hRS with ⟨rfl,rfl⟩|⟨es,rfl,rfl⟩
  all_goals
    refine SoundAt.of_run h rfl (fun Q hR hN => ?_)
    simp only [oL,List.map_cons,List.map_nil]
    rw [entry2]
    by_cases hx:x.err=0
    · have hb:(x.err==0)=true:=by simp [hx]
      have hf:failS en e x = { x with err:=e,place:=posT en x.ts }:=by unfold failS;rw [if_pos hx]
      cases hts:x.ts with
      | nil =>
        have e0:=hp.nil hts
        rw [hts] at e0
        repeat (first|simp only [go_sem,hts,hb,List.length_map,e0,Int.lt_irrefl,decide_false]|refine Unf.h ?_)
        refine hR _ (ends_objs ?_)
        simp only [go_sem,sV,hf,hts,posT,e0]
      | cons t r =>
        obtain ⟨e1,e2,e3⟩:=hp.cons hts
        rw [hts] at e1 e2
        have e1':((atN all (t::r):Int)<(all.length:Int)):=by omega
        repeat (first|simp only [go_sem,hts,hb,List.length_map,e1',decide_true,Int.natCast_nonneg,Int.toNat_natCast,getMap encT e2,encT]|refine Unf.h ?_)
        refine hR _ (ends_objs ?_)
        simp only [go_sem,sV,hf,hts,posT]
    · have hb:(x.err==0)=false:=by simp [hx]
      have hf:failS en e x=x:=by unfold failS;rw [if_neg hx]
      repeat (first|simp only [go_sem,hb]|refine Unf.h ?_)
      refine hR _ (ends_objs ?_)
      simp only [go_sem,sV,hf]
theorem word_none {l:List (List UInt8)}(hl:l.contains []=false){x:PS}(hx:x.err=0)(hk:takeT l x=none):l.contains (wordT x)=false:=by
  unfold takeT at hk
  rw [if_pos hx] at hk
  unfold wordT
  cases hts:x.ts with
  | nil=>exact hl
  | cons t r =>
    rw [hts] at hk
    simp only at hk ⊢
    by_cases h1:signT t=true
    · rw [if_pos h1]
      by_cases h2:l.contains t.text=true
      · rw [if_pos ⟨h1,h2⟩] at hk;cases hk
      · exact Bool.eq_false_iff.2 h2
    · rw [if_neg h1];exact hl
theorem word_some {l:List (List UInt8)}{x y:PS}{u:List UInt8}(hk:takeT l x=some (u,y)):l.contains (wordT x)=true∧wordT x=u∧∃ t r,x.ts=t::r∧y=x.go r:=by
  obtain ⟨h0,t,r,h1,h2,h3,rfl,rfl⟩:=take_some hk
  have:wordT x=t.text:=by unfold wordT;rw [h1];simp [h2]
  exact ⟨by rw [this];exact h3,this,t,r,h1,rfl⟩
theorem one_eq (s u:List UInt8):[s].contains u=(u==s):=by cases h:(u==s) <;> simp_all [List.contains_cons]
theorem PK.at1 {all:List Tok}{x:PS}(hp:PK all x){t:Tok}{r:List Tok}(hts:x.ts=t::r):IntKind.i64.wrap ((atN all x.ts:Int)+1)=(atN all r:Int):=by
  obtain ⟨e1,e2,e3⟩:=hp.cons hts
  have:=hp.len
  rw [e3,wrapI (by omega) (by omega)];omega
theorem ref8Must {C:Ctx} (h:okFn C.P C.φ 195 g_ref08_must=true) (hT:HText C) (hW:∀ e,HSt C 194 [vI e] (fun en x=>failS en e x)) (s:List UInt8) (hs:s≠[]):HSt C 195 [vS s] (fun en x=>needS en s x):=by
  intro R l all en x hRS hp
  have ht:=hT (en:=en) hRS hp
  have hw:=hW 2 (en:=en) hRS hp
  have hs':[s].contains []=false:=by rw [one_eq];simpa using hs
  rcases hRS with ⟨rfl,rfl⟩|⟨es,rfl,rfl⟩
  all_goals
    refine SoundAt.of_run h rfl (fun Q hR hN => ?_)
    simp only [oL,List.map_cons,List.map_nil]
    rw [entry2]
    by_cases hx:x.err=0
    · have hb:(x.err==0)=true:=by simp [hx]
      cases hk:takeT [s] x with
      | none =>
        have wt:=word_none hs' hx hk
        rw [one_eq] at wt
        have hn:needS en s x=failS en 2 x:=by unfold needS;rw [hk]
        repeat (first|simp only [go_sem,bne,hb]|refine Unf.h ?_)
        refine callK_v (by first|exact .inl ⟨rfl,rfl⟩|exact .inr ⟨_,rfl,rfl⟩) ht (by simp only [go_sem]) (fun n hn=>by cases hn) ?_
        repeat (first|simp only [go_sem,bne,wt]|refine Unf.h ?_)
        refine callK_v (by first|exact .inl ⟨rfl,rfl⟩|exact .inr ⟨_,rfl,rfl⟩) hw (by simp only [go_sem]) sV_refs ?_
        repeat (first|simp only [go_sem]|refine Unf.h ?_)
        refine hR _ (ends_objs ?_)
        simp only [go_sem,sV,hn]
      | some p =>
        obtain ⟨u,y⟩:=p
        obtain ⟨wt,_,t,r,hts,rfl⟩:=word_some hk
        rw [one_eq] at wt
        have hn:needS en s x=x.go r:=by unfold needS;rw [hk]
        have ha:=hp.at1 hts
        repeat (first|simp only [go_sem,bne,hb]|refine Unf.h ?_)
        refine callK_v (by first|exact .inl ⟨rfl,rfl⟩|exact .inr ⟨_,rfl,rfl⟩) ht (by simp only [go_sem]) (fun n hn=>by cases hn) ?_
        repeat (first|simp only [go_sem,bne,wt,ha]|refine Unf.h ?_)
        refine hR _ (ends_objs ?_)
        simp only [go_sem,sV,hn]
    · have hb:(x.err==0)=false:=by simp [hx]
      have hk:takeT [s] x=none:=by unfold takeT;rw [if_neg hx]
      have hn:needS en s x=x:=by unfold needS failS;rw [hk];simp [hx]
      repeat (first|simp only [go_sem,bne,hb]|refine Unf.h ?_)
      refine hR _ (ends_objs ?_)
      simp only [go_sem,sV,hn]
theorem readD_slV {α:Type}(o:Nat→Option Ob)(f:α→List D)(l:List α):readD o (slV f l)=some (l.map f):=by cases l <;> rfl
def HEx (C:Ctx)(f:Nat)(args:List V)(g:Nat→Pr):Prop:=∀ {R:V}{l:List (Nat × Ob)}{all:List Tok}{en:Nat}{x:PS},RuS R l→PK all x→SoundAt C f ⟨sV R all en x::args,looko (oL l)⟩ ⟨.tup [sV R all en (g en x).1,vI (g en x).2],looko (oL l)⟩
theorem thaw_slV (n:Nat)(es:List (List D)){α:Type}(f:α→List D)(l:List α):V.thaw n es (slV f l)=slV f l:=by cases l <;> rfl
theorem slV_snoc {α:Type}(f:α→List D)(l:List α)(a:α):slV f (l++[a]) = .d (.sl (l.map f++[f a])):=by cases l <;> simp [slV]
theorem ref8Put {C:Ctx}(h:okFn C.P C.φ 209 g_ref08_put=true)(e:Xpr):HEx C 209 [vX e] (fun en x=>putS e x):=by
  intro R l all en x hRS hp
  have hl:x.exprs.length<100000:=by have:=hp.many;have:=hp.len;omega
  have hl1:(x.exprs.length+1)*64≤140737488355328:=by omega
  have hl2:x.exprs.length*64≤140737488355328:=by omega
  rcases hRS with ⟨rfl,rfl⟩|⟨es,rfl,rfl⟩
  all_goals
    refine SoundAt.of_run h rfl (fun Q hR hN => ?_)
    simp only [oL,List.map_cons,List.map_nil]
    rw [entry2]
    repeat (first|simp only [go_sem,readD_slV]|refine Unf.h ?_)
    refine ⟨by simp [encX],by rw [List.length_map];exact hl2,by rw [List.length_map];omega,?_⟩
    repeat (first|simp only [go_sem,partsN,List.length_map,thaw_slV,List.length_append]|refine Unf.h ?_|refine And.intro ?_ (noRv_of (by simp only [go_sem]))|refine And.intro (by omega) ?_)
    refine hR _ (ends_objs ?_)
    simp only [go_sem,sV,putS,slV_snoc,encX]
theorem ref8Level {C:Ctx}(h:okFn C.P C.φ 215 g_ref08_level=true):SoundAt C 215 ⟨[vI 0],looko []⟩ ⟨vStrs cmpL,looko []⟩∧SoundAt C 215 ⟨[vI 1],looko []⟩ ⟨vStrs sumL,looko []⟩∧SoundAt C 215 ⟨[vI 2],looko []⟩ ⟨vStrs mulL,looko []⟩:=by
  refine ⟨?_,?_,?_⟩
  all_goals
    refine SoundAt.of_run h rfl (fun Q hR hN => ?_)
    rw [entry1]
    repeat (first|simp only [go_sem,partsN]|refine Unf.h ?_)
    refine hR _ ?_
    simp only [go_sem,encS1]
    rfl
end Pay
