/- A region that draws its order: one operation that must come first (a call, which may turn the world), and behind it operations that turn nothing, walked as they stand. -/
import Derived.StillTailTactics
import Derived.Still
import Derived.WalkKit
namespace Go.Proofs.Ytnfnalalpligiaa.X
open Go.RowKit
theorem wp_region_head {P : Program} {id : Nat} {Q : Exit → Act → World → Prop} {a : Act} {w : World} {o : Oper} {l : List Oper} (hm : P.follows .mixedOrders = true)
    (hr : Region.ready .any (o :: l).toArray (Array.replicate (o :: l).toArray.size false) = [0]) (hs : Region.noSelect (o :: l).toArray = true)
    (hB : Region.lexFrom .any (o :: l).toArray l.length 1 ((Array.replicate (o :: l).toArray.size false).setIfInBounds 0 true) = true)
    (h : ∀ K : Act → World → Prop, (∀ a' w', wpStill P (o :: l).toArray w' (fun a'' => Q .normal a'' w') l a' → K a' w') →
      if Region.wanted o (yielded (o :: l).toArray a.tmps) = true then Oper.wp P o a w.drew K Q else K (a.put o.dst undef) w.drew) :
    (Code.region id (o :: l).toArray true).wp P Q a w := by
  refine wp_region_any hm ?_
  show wpAny P .any (o :: l).toArray Q (l.length + 1) _ a w.drew
  refine ⟨fun h0 => absurd (hr.symm.trans h0) (by simp), fun i hi => ?_⟩
  rw [hr] at hi
  obtain rfl : i = 0 := by simpa using hi
  have H := h (wpAny P .any (o :: l).toArray Q l.length ((Array.replicate (o :: l).toArray.size false).setIfInBounds 0 true)) (fun a' w' hst =>
    wpAny_of_still (Q := fun a'' => Q .normal a'' w') (fun _ h => h) _ _ _
      (wpAnyS_lex hs l 1 _ _ (fun j => by simp [Nat.add_comm 1 j]) hB hst))
  unfold wpOp
  simp only [List.getElem?_toArray, List.getElem?_cons_zero]
  split
  · rename_i hw
    rw [if_pos hw] at H
    exact .inl H
  · rename_i hw
    rw [if_neg hw] at H
    exact H
end Go.Proofs.Ytnfnalalpligiaa.X
