/- A struct's cells stored one by one: what stays beside them. -/
import Derived.Test.YtjfajkdamechiaaDoorX0
import Derived.WalkKit
namespace Go.Proofs.YtjfajkdamechiaaDoor.X
open Go.RowKit Go.Proofs.YtjfajkdamechiaaDoorW.PrintWords Go.Proofs.YtjfajkdamechiaaDoorW.PrintLast Go.Proofs.YtjfajkdamechiaaDoorW.PrintMore
set_option linter.unusedVariables false
theorem setAll_other {g k : Nat} (hk : k ≠ g) : ∀ (us : List Value) (i : Nat) (w : World), (setAll w g i us).heap[k]? = w.heap[k]?
  | [], _, _ => rfl
  | u :: r, i, w => (setAll_other hk r (i + 1) _).trans (Below.heap_setCell w ⟨g, i, none⟩ u k hk)
theorem setAll_size {g : Nat} : ∀ (us : List Value) (i : Nat) (w : World), (setAll w g i us).heap.size = w.heap.size
  | [], _, _ => rfl
  | u :: r, i, w => (setAll_size r (i + 1) _).trans (by simp)
theorem bel_all {B g : Nat} {w0 : World} (hg : B ≤ g) : ∀ (us : List Value) (i : Nat) (w : World), Below B w0 w → Below B w0 (setAll w g i us)
  | [], _, _, h => h
  | u :: r, i, w, h => bel_all hg r (i + 1) _ (h.setCell hg u)
theorem fill_mid (g t : Nat) : ∀ (us pre mid post : List Value) (w : World), w.heap[g]? = some (.cells (pre ++ mid ++ post).toArray t (0, 0)) → mid.length = us.length → (setAll w g pre.length us).heap[g]? = some (.cells (pre ++ us ++ post).toArray t (0, 0))
  | [], pre, mid, post, w, h, hl => by
    obtain rfl := List.length_eq_zero_iff.1 hl
    exact h
  | u :: r, pre, [], post, w, h, hl => by cases hl
  | u :: r, pre, x :: mid, post, w, h, hl => by
    have h1 := blk_put h pre.length u (cs' := ((pre ++ [u]) ++ mid ++ post).toArray) (by
      rw [List.setIfInBounds_toArray]
      congr 1
      rw [List.append_assoc, List.set_append_right _ _ (Nat.le_refl _), Nat.sub_self]
      simp)
    have h2 := fill_mid g t r (pre ++ [u]) mid post _ h1 (by simpa using hl)
    have e1 : (pre ++ [u]).length = pre.length + 1 := by rw [List.length_append]; rfl
    have e2 : pre ++ [u] ++ r ++ post = pre ++ u :: r ++ post := by simp
    rw [e1, e2] at h2
    exact h2
theorem fillM {g t : Nat} (pre us mid post : List Value) {w : World} (h : w.heap[g]? = some (.cells (pre ++ mid ++ post).toArray t (0, 0))) (hl : mid.length = us.length) : (setAll w g pre.length us).heap[g]? = some (.cells (pre ++ us ++ post).toArray t (0, 0)) := fill_mid g t us pre mid post w h hl
end Go.Proofs.YtjfajkdamechiaaDoor.X
