/- json.bare: has a value nothing but what its kind has? -/
import Derived.Test.YtifejhbochkifaaGreatDoorHJs
import Derived.Test.YtifejhbochkifaaGreatDoorHRdr
namespace Go.Proofs.YtifejhbochkifaaGreatDoor.X
open Go.RowKit Go.Proofs.YtifejhbochkifaaGreatDoorW.PrintWords Go.Proofs.YtifejhbochkifaaGreatDoorW.PrintLast Go.Proofs.YtifejhbochkifaaGreatDoorW.PrintMore Go.Proofs.YtifejhbochkifaaGreatDoor.Spec
set_option linter.unusedVariables false
set_option linter.unusedSimpArgs false
set_option maxHeartbeats 8000000 in
set_option maxRecDepth 100000 in
theorem bare_calls (x : V) (A3 A4 : Option Addr) (q3 q4 : Nat) (w : World) (hl : x.f3.length ≤ 9223372036854775807) :
  Calls Tryz.prog 43 #[.agg #[.int .i64 x.f0, .int .i64 x.f1, .string x.f2, .slice A3 x.f3.length q3, .slice A4 x.f4.length q4]] w fun e w' => e = .returned (.bool (bareB x)) ∧ Below w.heap.size w w' := by
 obtain ⟨n3, hn3⟩ : ∃ n, x.f3.length = n := ⟨_, rfl⟩
 obtain ⟨n4, hn4⟩ : ∃ n, x.f4.length = n := ⟨_, rfl⟩
 obtain ⟨k, hk⟩ : ∃ n, x.f0 = n := ⟨_, rfl⟩
 obtain ⟨m, hm⟩ : ∃ n, x.f1 = n := ⟨_, rfl⟩
 obtain ⟨t, ht⟩ : ∃ n, x.f2 = n := ⟨_, rfl⟩
 have HBR := Aside0.mk (show bareB x = (((k == 3 && decide (-9007199254740992 ≤ m) && decide (m ≤ 9007199254740992)) || (k == 2 && decide (0 ≤ m) && decide (m ≤ 1)) || m == 0) && (k == 4 || t.size == 0) && (k == 5 || k == 6 || n3 == 0) && decide (n3 ≤ 64)) by unfold bareB; rw [hk, hm, ht, hn3])
 rw [hn3, hn4, hk, hm, ht]
 obtain ⟨R, hR⟩ : ∃ R, bareB x = R := ⟨_, rfl⟩
 rw [hR] at HBR ⊢
 clear hn3 hn4 hk hm ht hR hl
 have HTS := Aside0.mk (show t.toList = [] ↔ t.size = 0 from ⟨fun e => (by rw [toList_bl] at e; rw [← bl_length, e]; rfl), fun e => (by rw [toList_bl]; exact List.eq_nil_of_length_eq_zero (by rw [bl_length]; exact e))⟩)
 have bk := blk_new w (.cells #[.int .i64 k, .int .i64 m, .string t, .slice A3 n3 q3, .slice A4 n4 q4] 25)
 have HB := Aside0.mk (below_alloc (Below.refl _ w) (.cells #[.int .i64 k, .int .i64 m, .string t, .slice A3 n3 q3, .slice A4 n4 q4] 25))
 go_enter Tryz.func43, Tryz.ntmps43
 go_wp2
 all_goals go_ret
 all_goals (refine ⟨?_, by first | exact HB.out | (subst_vars; exact HB.out)⟩)
 all_goals (refine congrArg (fun b : Bool => Ending.returned (Value.bool b)) ?_)
 all_goals (rw [HBR.out, Bool.eq_iff_iff])
 all_goals (simp only [HTS.out] at *)
 all_goals (simp only [Bool.and_eq_true, Bool.or_eq_true, beq_iff_eq, decide_eq_true_eq, Bool.false_eq_true, true_iff, false_iff, iff_true, iff_false])
 all_goals (try omega)
end Go.Proofs.YtifejhbochkifaaGreatDoor.X
