/- Of the text LaidEnvST, what the row of ScreenTexts reaches. -/
import Derived.Test.YtjiheojjfnfmaaaDoorRows
import Derived.Test.YtjiheojjfnfmaaaDoorZScreenTextsSTx15
import Derived.Stop.LaidErr
import Derived.MakeChecks
import Derived.Stop.Joined
namespace Go.Proofs.YtjiheojjfnfmaaaDoor.ST
open Go.RowKit Go.Shelf
theorem star_ : "*" ++ "errors.errorString" = "*errors.errorString" := by decide
theorem row_err (u : TypeId) (h : Tryd.prog.typeName? 3 u = some "*errors.errorString") : u = 143 := typeName_ptr_named (nm := "errors.errorString") (by rw [star_]; kernel_rfl) (by kernel_rfl) (by decide) u (by rw [star_]; exact h)
theorem envOf {W : World} (hL : laidMetH Tryd.prog [("math/bits.deBruijn32tab", Rows.laid_math_bits_deBruijn32tab), ("math/bits.deBruijn64tab", Rows.laid_math_bits_deBruijn64tab), ("internal/strconv.uint64pow10", Rows.laid_internal_strconv_uint64pow10), ("unicode/utf8.acceptRanges", Rows.laid_unicode_utf8_acceptRanges), ("strconv.ErrRange", Rows.laid_strconv_ErrRange), ("strconv.ErrSyntax", Rows.laid_strconv_ErrSyntax), ("unicode/utf8.first", Rows.laid_unicode_utf8_first)] W) : Env W := by
  have h1 : laidMet Tryd.prog [("math/bits.deBruijn32tab", Rows.laid_math_bits_deBruijn32tab), ("math/bits.deBruijn64tab", Rows.laid_math_bits_deBruijn64tab), ("internal/strconv.uint64pow10", Rows.laid_internal_strconv_uint64pow10), ("unicode/utf8.acceptRanges", Rows.laid_unicode_utf8_acceptRanges), ("strconv.ErrRange", Rows.laid_strconv_ErrRange), ("strconv.ErrSyntax", Rows.laid_strconv_ErrSyntax), ("unicode/utf8.first", Rows.laid_unicode_utf8_first)] W := by rw [← MakeChecks.laidMetH_plain _ _ _ (by kernel_rfl)]; exact hL
  obtain ⟨a0, s0, hs, -⟩ := laid_sentinel h1.tail.tail.tail.tail.tail atLay.m15 (by kernel_rfl) Tryd.underlying55 row_err Tryd.underlying143 Tryd.underlying145 rfl rfl Tryd.underlying9 (by kernel_rfl) (by kernel_rfl)
  obtain ⟨a1, s1, hr, -⟩ := laid_sentinel h1.tail.tail.tail.tail atLay.m16 (by kernel_rfl) Tryd.underlying55 row_err Tryd.underlying143 Tryd.underlying145 rfl rfl Tryd.underlying9 (by kernel_rfl) (by kernel_rfl)
  exact ⟨Lib.tabIs_of_head (k := .u64) (zs := Lib.pow10Tab) itLay.m17 rfl Tryd.underlying138 Tryd.underlying117 (by kernel_rfl) (by kernel_rfl) h1.tail.tail, ⟨_, _, hs⟩, ⟨_, _, hr⟩⟩
end Go.Proofs.YtjiheojjfnfmaaaDoor.ST

