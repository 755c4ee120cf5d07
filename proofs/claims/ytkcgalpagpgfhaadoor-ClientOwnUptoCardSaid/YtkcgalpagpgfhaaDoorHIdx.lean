/- Where a predicate holds first in a list. -/
import Derived.Test.YtkcgalpagpgfhaaDoorX0
namespace Go.Proofs.YtkcgalpagpgfhaaDoor.X
/-- where a predicate holds first; -1: nowhere -/
def idxOf {α : Type} (p : α → Bool) : List α → Int
  | [] => -1
  | x :: r => if p x then 0 else if idxOf p r < 0 then -1 else idxOf p r + 1
theorem idxOf_range {α : Type} (p : α → Bool) (l : List α) : -1 ≤ idxOf p l ∧ idxOf p l < l.length := by
  induction l with
  | nil => simp [idxOf]
  | cons x r ih => simp only [idxOf, List.length_cons]; split <;> (try split) <;> omega

/-- after k misses -/
theorem idxOf_all {α : Type} (p : α → Bool) (l : List α) (h : ∀ x ∈ l, p x = false) : idxOf p l = -1 := by
  induction l with
  | nil => rfl
  | cons x r ih =>
    rw [idxOf, h x (List.mem_cons_self ..), ih (fun y hy => h y (List.mem_cons_of_mem _ hy))]
    simp
theorem idxOf_hit {α : Type} (p : α → Bool) : ∀ (k : Nat) (l : List α) (hk : k < l.length), (∀ j (hj : j < k), p (l[j]'(by omega)) = false) → p (l[k]'hk) = true → idxOf p l = k
  | 0, x :: r, _, _, h => by
    have : p x = true := h
    simp [idxOf, this]
  | k + 1, x :: r, hk, hm, h => by
    have h0 : p x = false := hm 0 (by omega)
    have := idxOf_hit p k r (by simpa using hk) (fun j hj => hm (j + 1) (by omega)) h
    simp [idxOf, h0, this]
    omega
end Go.Proofs.YtkcgalpagpgfhaaDoor.X
