/- client.Good of brokers without connectors, in the printer's form. -/
import Derived.Test.YtkcgalpagpgfhaaDoorHGood
namespace Go.Proofs.YtkcgalpagpgfhaaDoor.X
open Go.RowKit Go.Proofs.YtkcgalpagpgfhaaDoorW.PrintWords Go.Proofs.YtkcgalpagpgfhaaDoorW.PrintLast Go.Proofs.YtkcgalpagpgfhaaDoorW.PrintMore Go.Proofs.YtkcgalpagpgfhaaDoor.Spec
set_option linter.unusedVariables false
def client_Good.f (a0_0 a0_1 a0_2 : ByteArray) (l0_3 : List S25) (l0_4 : List S40) : Option Bool :=
  if l0_4.length = 0 ∧ (∀ x ∈ l0_3, x.f0.size ≤ 1000000000000) ∧ l0_3.length ≤ 1000000000000 ∧ (uriU (bl a0_0)).1.size + (uriU (bl a0_0)).2.1.size + (uriU (bl a0_0)).2.2.1.size + (uriU (bl a0_0)).2.2.2.1.size ≤ 1000000000000 then
    some (goodU a0_0 a0_1 a0_2 && goodL (fun _ => true) l0_3 l0_4) else none
theorem client_Good.calls (a0_0 a0_1 a0_2 : ByteArray) (A0_3 : Option Addr) (c0_3 : Nat) (l0_3 : List (S25)) (A0_4 : Option Addr) (c0_4 : Nat) (l0_4 : List (S40)) (r : Bool) (w : World) (hr0_3 : Kd.C k25 w A0_3 l0_3.length l0_3) (hc0_3 : l0_3.length ≤ c0_3) (hr0_4 : Kd.C k40 w A0_4 l0_4.length l0_4) (hc0_4 : l0_4.length ≤ c0_4) (h : client_Good.f a0_0 a0_1 a0_2 l0_3 l0_4 = some r) (hG : GOK w := by first | assumption | exact hG | exact GOK.drewN _ hG | exact GOK.below hG (by repeat (first | (with_reducible first | exact HB.out | apply below_alloc | apply pw_below_drewN | apply below_drew1 | refine below_set ?_ (Aside0.out (by assumption))) | exact HB.out))) :
    Calls Tryd.prog 17 #[.agg #[.string a0_0, .string a0_1, .string a0_2, .slice A0_3 l0_3.length c0_3, .slice A0_4 l0_4.length c0_4]] w fun e w' => e = .returned (.bool r) ∧ Below w.heap.size w w' := by
  unfold client_Good.f at h
  split at h
  case isFalse => cases h
  rename_i hs
  obtain ⟨h4, h3, hm, hz⟩ := hs
  obtain rfl := Option.some.inj h
  obtain rfl : l0_4 = [] := List.length_eq_zero_iff.1 h4
  exact good_calls (fun _ => true) a0_0 a0_1 a0_2 A0_3 c0_3 l0_3 A0_4 c0_4 [] w hr0_3 hc0_3 hr0_4 hc0_4 h3 (fun x hx => by cases hx) hm (by simp) hz hG (fun x hx => by cases hx)
end Go.Proofs.YtkcgalpagpgfhaaDoor.X
