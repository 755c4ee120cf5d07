/- The library's Itoa and Atoi at every number and text. -/
import Derived.Test.YtjfajkdamechiaaDoorHGokD
import Derived.Lib.AtoiAllCases
import Derived.Lib.ItoaLen
import Derived.Deep.LoopGhost
namespace Go.Proofs.YtjfajkdamechiaaDoor.X
open Go.RowKit Go.Proofs.YtjfajkdamechiaaDoorW.PrintWords Go.Proofs.YtjfajkdamechiaaDoorW.PrintLast Go.Proofs.YtjfajkdamechiaaDoorW.PrintMore Go.Proofs.YtjfajkdamechiaaDoor.Spec
set_option linter.unusedVariables false
set_option linter.unusedSimpArgs false

theorem itoa_calls (n : Int) (h0 : -9223372036854775808 ≤ n) (h1 : n ≤ 9223372036854775807) (w : World) (hG : GOK w) :
    Calls Tryd.prog 22 #[.int .i64 n] w fun e w' => e = .returned (.string (ba (Lib.itoa n))) ∧ Below w.heap.size w w' := by
  refine (Tryd.strconv_Itoa n h0 h1 w hG.tab).mono ?_
  rintro e w' ⟨rfl, k, os, rfl⟩
  exact ⟨rfl, Lib.below_grow _ w (Nat.le_refl _) k os⟩

def strconv_Itoa_22.f (n : Int) : Option ByteArray := if -9223372036854775808 ≤ n ∧ n ≤ 9223372036854775807 then some (ba (Lib.itoa n)) else none
theorem strconv_Itoa_22.calls (a0 : Int) (r : ByteArray) (w : World) (h : strconv_Itoa_22.f a0 = some r) (hG : GOK w := by first | assumption | exact hG | exact GOK.drewN _ hG | exact GOK.below hG (by repeat (first | (with_reducible first | exact HB.out | apply below_alloc | apply pw_below_drewN | apply below_drew1 | refine below_set ?_ (Aside0.out (by assumption))) | exact HB.out))) :
    Calls Tryd.prog 22 #[.int .i64 a0] w fun e w' => e = .returned (.string r) ∧ Below w.heap.size w w' := by
  unfold strconv_Itoa_22.f at h
  split at h
  case isFalse => cases h
  rename_i hs
  obtain rfl := Option.some.inj h
  exact itoa_calls a0 hs.1 hs.2 w hG
theorem below_on' {w0 a b : World} (h : Below w0.heap.size w0 a) (k : Below a.heap.size a b) : Below w0.heap.size w0 b := h.trans (k.mono h.size)
theorem isb_below {T e : TypeId} {B b : Nat} {bs : List Value} {w w' : World} (h : Lib.IsBuilder T e B b bs w) (hb : Below w.heap.size w w') : Lib.IsBuilder T e B b bs w' := by
  have at_below : ∀ p, Lib.BuilderAt T e B b p bs w → Lib.BuilderAt T e B b p bs w' := by
    rintro p ⟨hB, v, h1, h2, h3⟩
    exact ⟨hB, v, blk_below h1 hb, own_move h2 (fun k hk => by obtain ⟨cells, hc⟩ := own_typed h2 k hk; exact hb.block k (blk_lt hc)), h3⟩
  exact h.imp (at_below _) (at_below _)
/-- the number that Atoi answers, and whether without an error -/
def atv (l : List UInt8) : Int := match Lib.atoiAll l with | .ok v => v | .«syntax» => 0 | .range => Lib.atoiSat l
def atOk (l : List UInt8) : Bool := match Lib.atoiAll l with | .ok _ => true | _ => false
theorem atv_range (l : List UInt8) : -9223372036854775808 ≤ atv l ∧ atv l ≤ 9223372036854775807 := by
  unfold atv
  split
  · rename_i v h; exact Lib.atoiAll_bounds h
  · omega
  · unfold Lib.atoiSat; split <;> omega

theorem atoi_calls (s : ByteArray) (hs : s.size ≤ 281474976710656) (w : World) (hG : GOK w) :
    Calls Tryd.prog 27 #[.string s] w fun e w' => ∃ ev, e = .returned (.tuple #[.int .i64 (atv (bl s)), ev]) ∧ ((ev = .nilIface ∧ atOk (bl s) = true) ∨ ((∃ t p, ev = .iface t (.pointer (some p))) ∧ atOk (bl s) = false)) ∧ Below w.heap.size w w' := by
  cases hr : Lib.atoiAll s.data.toList with
  | ok v =>
    refine (Tryd.strconv_Atoi_ok s (by omega) v hr w).mono ?_
    rintro e w' ⟨rfl, hw⟩
    refine ⟨.nilIface, ?_, .inl ⟨rfl, ?_⟩, ?_⟩
    · have : atv (bl s) = v := by unfold atv bl; rw [hr]
      rw [this]
    · unfold atOk bl; rw [hr]
    · rcases hw with rfl | ⟨t, rfl⟩
      · exact Below.refl _ _
      · exact Joins.below_bytesWorld _ w _ _ (Nat.le_refl _)
  | «syntax» =>
    obtain ⟨tp, p, hv⟩ := hG.esyn
    refine (Tryd.strconv_Atoi_syntax_var s hs hr tp p w hv).mono ?_
    rintro e w' ⟨N, rfl, _, _, hb⟩
    have e1 : atv (bl s) = 0 := by unfold atv bl; rw [hr]
    have e2 : atOk (bl s) = false := by unfold atOk bl; rw [hr]
    rw [e1, e2]
    exact ⟨_, rfl, .inr ⟨⟨_, _, rfl⟩, rfl⟩, hb⟩
  | range =>
    obtain ⟨tp, p, hv⟩ := hG.eran
    refine (Tryd.strconv_Atoi_range_var s hs hr tp p w hv).mono ?_
    rintro e w' ⟨N, rfl, _, _, hb⟩
    have e1 : atv (bl s) = Lib.atoiSat s.data.toList := by unfold atv bl; rw [hr]
    have e2 : atOk (bl s) = false := by unfold atOk bl; rw [hr]
    rw [e1, e2]
    exact ⟨_, rfl, .inr ⟨⟨_, _, rfl⟩, rfl⟩, hb⟩

theorem toList_eq (a : List UInt8) (b : ByteArray) : ((ba a).toList == b.toList) = decide (a = bl b) := by
  rw [toList_bl, toList_bl, bl_ba]
  by_cases h : a = bl b
  · rw [decide_eq_true h, beq_iff_eq]; exact h
  · rw [decide_eq_false h, beq_eq_false_iff_ne]; exact h

end Go.Proofs.YtjfajkdamechiaaDoor.X
