/- What the library's functions make, at this program. -/
import Derived.Test.YtmglkghngkbioaaGreatDoorRows
import Derived.Test.YtmglkghngkbioaaGreatDoorPayC32
import Derived.Test.YtmglkghngkbioaaGreatDoorPayPhi
namespace Go.Proofs.YtmglkghngkbioaaGreatDoor.payce
open Go.RowKit
set_option linter.unusedVariables false
set_option maxRecDepth 100000
def gi (w:World):Prop :=
  Lib.TabIs Tryz.prog w "internal/strconv.uint64pow10" .u64 Lib.pow10Tab ∧ (∃ m, w.cell? ⟨0, 0, none⟩ = some (.int .i64 m)) ∧
    (∃ tp p, w.var? Tryz.prog "strconv.ErrSyntax" = some #[.iface tp p]) ∧ (∃ tp p, w.var? Tryz.prog "strconv.ErrRange" = some #[.iface tp p])
theorem var_keep {P:Program}{w w':World}{n:String}{g:Nat}(hg:P.globalNamed n=some g)(h:w'.heap[g]? = w.heap[g]?):w'.var? P n=w.var? P n:=by
  unfold World.var?
  rw [hg,Option.bind_some,Option.bind_some,h]
theorem keep (w w':World)(h:gi w)(hg:∀ g,g<6→w'.heap[g]? = w.heap[g]?):gi w':=by
  obtain ⟨h1,⟨m,h2⟩,⟨t1,p1,h3⟩,⟨t2,p2,h4⟩⟩:=h
  refine ⟨?_,⟨m,?_⟩,⟨t1,p1,?_⟩,⟨t2,p2,?_⟩⟩
  · unfold Lib.TabIs at h1 ⊢
    rw [var_keep (g:=5) (by kernel_rfl) (hg 5 (by decide))];exact h1
  · rw [World.cell?_of_block (w:=w) (hg 0 (by decide))];exact h2
  · rw [var_keep (g:=1) (by kernel_rfl) (hg 1 (by decide))];exact h3
  · rw [var_keep (g:=2) (by kernel_rfl) (hg 2 (by decide))];exact h4
noncomputable def ctx:Pay.Ctx:={ P:=Tryz.prog,φ:=Pay.phi,mixed:=by kernel_rfl,gi:=gi,base:=6,keep:=keep }
theorem phi68:ctx.φ 68=106:=by kernel_rfl
theorem phi69:ctx.φ 69=110:=by kernel_rfl
theorem phi70:ctx.φ 70=109:=by kernel_rfl
theorem rep_one {x:Pay.V}{u:Value}(h:∀ w ok γ v,Pay.RepV ctx w ok γ x v→v=u):∀ w ok γ us',Pay.RepVs ctx w ok γ [x] us'→us'=[u]:=by
  rintro w ok γ us' ⟨v,us,rfl,hv,rfl⟩
  rw [h _ _ _ _ hv]
theorem below_grow (w:World)(k:Nat)(os:Array Obj):Below w.heap.size w (Go.Sort.grow (w.drewN k) os) :=
  ⟨rfl,rfl,rfl,by simp [Go.Sort.grow,World.drewN],fun g hg=>by simp [Go.Sort.grow,World.drewN,Array.getElem?_append,hg]⟩
theorem itoaK (n:Int)(h0 : -9223372036854775808≤n)(h1:n≤9223372036854775807):Pay.SoundAt ctx 68 ⟨[Pay.vI n],Pay.looko []⟩ ⟨Pay.vS (Lib.itoa n),Pay.looko []⟩:=by
  refine Pay.SoundAt.of_calls (us:=[.int .i64 n]) (g:=Tryz.f106) (by rw [phi68];exact Tryz.func106) (by kernel_rfl) (by kernel_rfl) (rep_one fun _ _ _ _ h=>h) (fun w hg => ?_)
  rw [phi68]
  refine (Any.strconv_Itoa Tryz.laysM171 n h0 h1 w hg.1).mono ?_
  rintro e w' ⟨rfl,k,os,rfl⟩
  exact ⟨_,rfl,fun _ _=>rfl,below_grow w k os⟩
theorem atoiK (s:List UInt8)(hs:s.length<100000):Pay.SoundAt ctx 70 ⟨[Pay.vS s],Pay.looko []⟩ ⟨.tup [Pay.vI (Pay.atoiV s),.d (.err (Pay.atoiOk s))],Pay.looko []⟩:=by
  refine Pay.SoundAt.of_calls (us:=[.string ⟨s.toArray⟩]) (g:=Tryz.f109) (by rw [phi70];exact Tryz.func109) (by kernel_rfl) (by kernel_rfl) (rep_one fun _ _ _ _ h=>h) (fun w hg => ?_)
  rw [phi70]
  have hsz:(⟨s.toArray⟩:ByteArray).size<100000:=hs
  obtain ⟨_,_,⟨t1,p1,h3⟩,⟨t2,p2,h4⟩⟩:=hg
  cases hA:Lib.atoiAll s
  case ok v =>
    have e1:Pay.atoiV s=v:=by rw [Pay.atoiV,hA]
    have e2:Pay.atoiOk s=true:=by rw [Pay.atoiOk,hA]
    rw [e1,e2]
    refine (Any.strconv_Atoi_ok Tryz.laysC172 ⟨s.toArray⟩ (by omega) v hA w).mono ?_
    rintro e w' ⟨rfl,hw⟩
    refine ⟨_,rfl,fun _ _=>⟨_,rfl,_,_,rfl,rfl,_,_,rfl,?_,rfl⟩,?_⟩
    · simp [Pay.RepV,Pay.RepD]
    · rcases hw with rfl|⟨t,rfl⟩
      · exact Below.refl _ _
      · exact Lib.bytesWorld_below _ _ _
  case range =>
    have e1:Pay.atoiV s=Lib.atoiSat s:=by rw [Pay.atoiV,hA]
    have e2:Pay.atoiOk s=false:=by rw [Pay.atoiOk,hA]
    rw [e1,e2]
    refine (Any.strconv_Atoi_range_var Tryz.laysC172 ⟨s.toArray⟩ (by omega) hA t2 p2 w h4).mono ?_
    rintro e w' ⟨N,rfl,_,_,hb⟩
    refine ⟨_,rfl,fun _ _=>⟨_,rfl,_,_,rfl,rfl,_,_,rfl,?_,rfl⟩,hb⟩
    simp only [Pay.RepV,Pay.RepD]
    exact ⟨_,_,rfl⟩
  all_goals (
    have e1:Pay.atoiV s=0:=by rw [Pay.atoiV,hA]
    have e2:Pay.atoiOk s=false:=by rw [Pay.atoiOk,hA]
    rw [e1,e2]
    refine (Any.strconv_Atoi_syntax_var Tryz.laysC172 ⟨s.toArray⟩ (by omega) hA t1 p1 w h3).mono ?_
    rintro e w' ⟨N,rfl,_,_,hb⟩
    refine ⟨_,rfl,fun _ _=>⟨_,rfl,_,_,rfl,rfl,_,_,rfl,?_,rfl⟩,hb⟩
    simp only [Pay.RepV,Pay.RepD]
    exact ⟨_,_,rfl⟩)
theorem replK (s:List UInt8)(hs:s.length<100000):Pay.SoundAt ctx 69 ⟨[Pay.vS s,Pay.vS [46],Pay.vS [],Pay.vI 1],Pay.looko []⟩ ⟨Pay.vS (Lib.replace s [46] [] 1),Pay.looko []⟩:=by
  refine Pay.SoundAt.of_calls (us:=[.string ⟨s.toArray⟩,.string ⟨#[46]⟩,.string ⟨#[]⟩,.int .i64 1]) (g:=Tryz.f110) (by rw [phi69];exact Tryz.func110) (by kernel_rfl) (by kernel_rfl) ?_ (fun w hg => ?_)
  · rintro w ok γ us' ⟨v1,r1,rfl,h1,v2,r2,rfl,h2,v3,r3,rfl,h3,v4,r4,rfl,h4,rfl⟩
    simp only [Pay.RepV,Pay.RepD] at h1 h2 h3 h4
    subst h1 h2 h3 h4
    rfl
  rw [phi69]
  have hsz:(⟨s.toArray⟩:ByteArray).size<100000:=hs
  obtain ⟨_,⟨m,hm⟩,_⟩:=hg
  refine (Any.strings_Replace { Tryz.laysM154 with } Tryz.Builder_Extra_M154 ⟨s.toArray⟩ ⟨#[46]⟩ ⟨#[]⟩ 1 m w (by omega) hm (by decide) (by
    have:(⟨#[]⟩:ByteArray).size=0:=rfl
    rw [this];omega)).mono ?_
  rintro e w' ⟨rfl,hb⟩
  exact ⟨_,rfl,fun _ _=>rfl,hb⟩
theorem libK:Pay.LibK ctx:=⟨itoaK,atoiK,replK⟩
theorem phi124:ctx.φ 124=102:=by kernel_rfl
theorem indexByteK (s:List UInt8)(c:UInt8):Pay.SoundAt ctx 124 ⟨[Pay.vS s,.d (.int .u8 (c.toNat:Int))],Pay.looko []⟩ ⟨Pay.vI (Lib.indexByte s c),Pay.looko []⟩:=by
  refine Pay.SoundAt.of_calls (us:=[.string ⟨s.toArray⟩,.int .u8 (c.toNat:Int)]) (g:=Tryz.f102) (by rw [phi124];exact Tryz.func102) (by kernel_rfl) (by kernel_rfl) ?_ (fun w hg => ?_)
  · rintro w ok γ us' ⟨v1,r1,rfl,h1,v2,r2,rfl,h2,rfl⟩
    simp only [Pay.RepV,Pay.RepD] at h1 h2
    subst h1 h2
    rfl
  rw [phi124]
  refine (Tryz.strings_IndexByte ⟨s.toArray⟩ (c.toNat:Int) w).mono ?_
  rintro e w' ⟨rfl,rfl⟩
  refine ⟨_,rfl,fun _ _ => ?_,Below.refl _ _⟩
  simp [Pay.RepV,Pay.RepD]
end Go.Proofs.YtmglkghngkbioaaGreatDoor.payce
