/- What the library's search and conversions want of a world, out of what the row says is laid and of the form's own shape. -/
import Derived.Test.YtifejhbochkifaaGreatDoorBA
import Derived.Test.YtifejhbochkifaaGreatDoorRows
import Derived.Stop.LaidErr
import Derived.Lib.LaidTab
import Derived.Shelf.LaysM
namespace Go.Proofs.YtifejhbochkifaaGreatDoor.X
open Go.RowKit Go.ChangeShapes Go.WideShapes Go.ChangeAt
theorem errRow (u : TypeId) (h : Tryz.prog.typeName? 3 u = some "*errors.errorString") : u = 158 :=
 typeName_ptr_named (nm := "errors.errorString") (by kernel_rfl) (by kernel_rfl) (by decide) u h
theorem GOK.both {W : World} (h : laidMet Tryz.prog [("math/bits.deBruijn32tab", Rows.laid_math_bits_deBruijn32tab), ("math/bits.deBruijn64tab", Rows.laid_math_bits_deBruijn64tab), ("internal/strconv.uint64pow10", Rows.laid_internal_strconv_uint64pow10), ("unicode/utf8.acceptRanges", Rows.laid_unicode_utf8_acceptRanges), ("strconv.ErrRange", Rows.laid_strconv_ErrRange), ("strconv.ErrSyntax", Rows.laid_strconv_ErrSyntax), ("unicode/utf8.first", Rows.laid_unicode_utf8_first)] W) (hSh : W.ShapedOpen Tryz.prog) : GOK W := by
 have h3 := h.tail.tail
 have h4 := h3.tail.tail
 have h5 := h4.tail
 refine ⟨Go.Proofs.cell_of_shapedOpen_int (zero := #[.int .i64 0]) (t := 3) hSh (of_decide_eq_true (by kernel_rfl)) (by kernel_rfl) rfl (by kernel_rfl) (by kernel_rfl) Tryz.underlying3, Lib.tabIs_of_head (g := 0) (by kernel_rfl) (by kernel_rfl) Tryz.underlying133 Tryz.underlying99 (by kernel_rfl) (by kernel_rfl) h3, ?_, ?_⟩
 ·obtain ⟨a, s, hv, _⟩ := laid_sentinel (g := 1) h5 (by kernel_rfl) (by kernel_rfl) Tryz.underlying82 errRow Tryz.underlying158 Tryz.underlying160 rfl rfl Tryz.underlying9 (by kernel_rfl) (by kernel_rfl)
  exact ⟨_, _, hv⟩
 ·obtain ⟨a, s, hv, _⟩ := laid_sentinel (g := 2) h4 (by kernel_rfl) (by kernel_rfl) Tryz.underlying82 errRow Tryz.underlying158 Tryz.underlying160 rfl rfl Tryz.underlying9 (by kernel_rfl) (by kernel_rfl)
  exact ⟨_, _, hv⟩
end Go.Proofs.YtifejhbochkifaaGreatDoor.X
