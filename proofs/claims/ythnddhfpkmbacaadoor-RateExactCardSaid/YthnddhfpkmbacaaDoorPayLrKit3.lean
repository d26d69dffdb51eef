/- The layer of parts, by the document's long numbers, at this program. -/
import Derived.Test.YthnddhfpkmbacaaDoorPayC59
import Derived.Test.YthnddhfpkmbacaaDoorPayLrKit2
namespace Go.Proofs.YthnddhfpkmbacaaDoor.paylr
open Go.RowKit
set_option linter.unusedVariables false
set_option maxRecDepth 100000
theorem bigK : Pay.BigK ctx := by
  have hT := fun l hl => Pay.refTrim (C := ctx) Pay.ok_g_ref02_trim l hl
  exact ⟨hT, fun a b ha hb => by have := Pay.refSize (C := ctx) Pay.ok_g_ref02_size (Pay.digs a) (Pay.digs b) (by omega) (by omega); rwa [Pay.cmp_digs] at this,
    fun n hn => Pay.refOf (C := ctx) Pay.ok_g_ref02_Of n hn, fun ma mb a b ha hb => Pay.refMul (C := ctx) Pay.ok_g_ref02_Mul hT ma mb a b ha hb,
    fun a b hab ha => Pay.refLess (C := ctx) Pay.ok_g_ref02_less hT a b hab (by omega)⟩
theorem quotK (a b k how : Int) (ha : Pay.i64 a) (hb : Pay.i64 b) (hk : Pay.i64 k) (hb0 : 0 ≤ b) (hk0 : 1 ≤ k) : Pay.SoundAt ctx 87 ⟨[Pay.vI a, Pay.vI b, Pay.vI k, Pay.vI how], Pay.looko []⟩ ⟨Pay.vIE (Pay.quotS a b k how), Pay.looko []⟩ :=
  Pay.lawQuotient (C := ctx) Pay.ok_g_law03_quotient (fun n => Pay.refRight (C := ctx) Pay.ok_g_ref01_Right n)
    (fun a b k how ha hb hk hb0 hk0 hh => Pay.refMulDiv (C := ctx) Pay.ok_g_ref02_MulDiv bigK (fun a ha => Pay.refDouble (C := ctx) Pay.ok_g_ref02_double bigK a ha) a b k how ha hb hk hb0 hk0 hh)
    a b k how ha hb hk hb0 hk0
end Go.Proofs.YthnddhfpkmbacaaDoor.paylr
