/- What the search wants of a world, out of the form's own shape. -/
import Derived.Test.YtkcgalpagpgfhaaDoorHGokD
import Derived.Shelf.LaysM
namespace Go.Proofs.YtkcgalpagpgfhaaDoor.X
theorem GOK.shaped {w : World} (h : w.ShapedOpen Tryd.prog) : GOK w :=
  Go.Proofs.cell_of_shapedOpen_int (zero := #[.int .i64 0]) (t := 3) h (of_decide_eq_true (by kernel_rfl)) (by kernel_rfl) rfl (by kernel_rfl) (by kernel_rfl) Tryd.underlying3
end Go.Proofs.YtkcgalpagpgfhaaDoor.X
