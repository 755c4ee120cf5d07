/- json's reader: what stands behind a backslash. -/
import Derived.Test.YtifejhbochkifaaGreatDoorHRdr
import Derived.Test.YtifejhbochkifaaGreatDoorShelf
import Derived.BigQuiet
import Derived.Deep.QuietTactic
namespace Go.Proofs.YtifejhbochkifaaGreatDoor.X
open Go.RowKit Go.Proofs.YtifejhbochkifaaGreatDoorW.PrintWords Go.Proofs.YtifejhbochkifaaGreatDoorW.PrintLast Go.Proofs.YtifejhbochkifaaGreatDoorW.PrintMore Go.Proofs.YtifejhbochkifaaGreatDoor.Spec
set_option linter.unusedVariables false
set_option linter.unusedSimpArgs false
def digitsA : ByteArray := ⟨#[48, 49, 50, 51, 52, 53, 54, 55, 56, 57, 97, 98, 99, 100, 101, 102]⟩
def hexi (c : UInt8) : Int := match hexd c with | some n => n | none => -1
theorem hexi_fin : ∀ n : Fin 256, Lib.indexByte (bl digitsA) (UInt8.ofNat n.val) = hexi (UInt8.ofNat n.val) := by decide +kernel
theorem hexi_call (c : UInt8) (w : World) : Calls Tryz.prog 78 #[.string (⟨#[48, 49, 50, 51, 52, 53, 54, 55, 56, 57, 97, 98, 99, 100, 101, 102]⟩ : ByteArray), .int .u8 (c.toNat : Int)] w fun e w' => e = .returned (.int .i64 (hexi c)) ∧ w' = w := by
 refine (Tryz.strings_IndexByte _ _ w).mono ?_
 rintro e w' ⟨rfl, rfl⟩
 refine ⟨?_, rfl⟩
 have h := hexi_fin ⟨c.toNat, c.toNat_lt⟩
 simp only [UInt8.ofNat_toNat] at h
 rw [← h, show (c.toNat : Int).toNat.toUInt8 = c from by rw [Int.toNat_natCast]; exact UInt8.ofNat_toNat]
 rfl
theorem hexi_range (c : UInt8) : -1 ≤ hexi c ∧ hexi c < 16 := by
 unfold hexi hexd
 split
 ·rename_i n e
  split at e
  ·injection e with e; omega
  ·split at e
   ·injection e with e; omega
   ·cases e
 ·omega
theorem hexi_some {c : UInt8} (h : 0 ≤ hexi c) : hexd c = some (hexi c).toNat := by
 unfold hexi at h ⊢
 split at h
 ·rename_i n e; rw [e]; simp
 ·omega
theorem hexi_none {c : UInt8} (h : hexi c < 0) : hexd c = none := by
 unfold hexi at h
 split at h
 ·omega
 ·rename_i e; exact e
theorem or_fin : ∀ a b : Fin 16, bits BinOp.or IntKind.i64 ((a.val : Int) * 16) (b.val : Int) % 256 = ((UInt8.ofNat (16 * a.val + b.val)).toNat : Int) := by decide +kernel
theorem or_hex (x y : Int) (h0 : 0 ≤ x) (h1 : x < 16) (g0 : 0 ≤ y) (g1 : y < 16) : bits BinOp.or IntKind.i64 (x * 16) y % 256 = ((UInt8.ofNat (16 * x.toNat + y.toNat)).toNat : Int) := by
 have := or_fin ⟨x.toNat, by omega⟩ ⟨y.toNat, by omega⟩
 simp only [Int.toNat_of_nonneg h0, Int.toNat_of_nonneg g0] at this
 exact this

/-- What escaped leaves. -/
def EscOut (w : World) (b : Nat) (s : List UInt8) (e : Ending) (w' : World) : Prop :=
  ∃ (x : Int) (s' : List UInt8) (bad : Bool), e = .returned (.int .u8 x) ∧ Rs w' b s' bad ∧ w.grownBy w' (some b) ∧ 0 ≤ x ∧ x < 256 ∧ s'.length ≤ s.length ∧
    (∀ c r, unesc s = some (c, r) → x = (c.toNat : Int) ∧ s' = r ∧ bad = false) ∧ (unesc s = none → bad = true)
set_option maxHeartbeats 4000000 in
set_option maxRecDepth 100000 in
theorem escaped_calls (b : Nat) (s : List UInt8) (w : World) (h : Rs w b s false) :
  Calls Tryz.prog 63 #[.pointer (some ⟨b, 0, none⟩)] w (EscOut w b s) := by
 have H := Aside0.mk h
 clear h
 by_cases h34 : [34] <+: s
 ·have HP := Aside0.mk h34
  have HE := Aside0.mk (show unesc s = some (34, s.drop 1) by unfold unesc; rw [if_pos h34])
  clear h34
  go_enter Tryz.func63, Tryz.ntmps63
  go_wp2_with fail
  refine (take_yes b s [34] false w H.out HP.out).mono ?_
  rintro e w1 ⟨rfl, h1, g1⟩
  have H1 := Aside0.mk h1
  have G1 := Aside0.mk g1
  clear h1 g1
  go_wp2
  go_ret
  refine ⟨34, _, false, rfl, H1.out, G1.out, by decide, by decide, by simp, ?_, ?_⟩
  ·intro c r e; rw [HE.out] at e; simp only [Option.some.injEq, Prod.mk.injEq] at e; obtain ⟨rfl, rfl⟩ := e; exact ⟨rfl, rfl, rfl⟩
  ·intro e; rw [HE.out] at e; cases e
 by_cases h92 : [92] <+: s
 ·have HN := Aside0.mk h34
  have HP := Aside0.mk h92
  have HE := Aside0.mk (show unesc s = some (92, s.drop 1) by unfold unesc; rw [if_neg h34, if_pos h92])
  clear h34 h92
  go_enter Tryz.func63, Tryz.ntmps63
  go_wp2_with fail
  refine (take_no b s [34] false w H.out HN.out).mono ?_
  rintro e w1 ⟨rfl, rfl⟩
  go_wp2_with fail
  refine (take_yes b s [92] false w1 H.out HP.out).mono ?_
  rintro e w2 ⟨rfl, h1, g1⟩
  have H1 := Aside0.mk h1
  have G1 := Aside0.mk g1
  clear h1 g1
  go_wp2
  go_ret
  refine ⟨92, _, false, rfl, H1.out, G1.out, by decide, by decide, by simp, ?_, ?_⟩
  ·intro c r e; rw [HE.out] at e; simp only [Option.some.injEq, Prod.mk.injEq] at e; obtain ⟨rfl, rfl⟩ := e; exact ⟨rfl, rfl, rfl⟩
  ·intro e; rw [HE.out] at e; cases e
 by_cases hu : [117, 48, 48] <+: s
 ·have hus : unesc s = unhex (s.drop 3) := by unfold unesc; rw [if_neg h34, if_neg h92, if_pos hu]
  have hls : (s.drop 3).length + 3 = s.length := by have := hu.length_le; simp only [List.length_cons, List.length_nil] at this; rw [List.length_drop]; omega
  obtain ⟨t, ht⟩ : ∃ t, s.drop 3 = t := ⟨_, rfl⟩
  rw [ht] at hus hls
  have HD := Aside0.mk ht
  have HN := Aside0.mk h34
  have HN2 := Aside0.mk h92
  have HP := Aside0.mk hu
  have HU := Aside0.mk hus
  have HL := Aside0.mk hls
  clear h34 h92 hu ht hus hls
  go_enter Tryz.func63, Tryz.ntmps63
  go_wp2_with fail
  refine (take_no b s [34] false w H.out HN.out).mono ?_
  rintro e w1 ⟨rfl, rfl⟩
  go_wp2_with fail
  refine (take_no b s [92] false w1 H.out HN2.out).mono ?_
  rintro e w2 ⟨rfl, rfl⟩
  go_wp2_with fail
  refine (need_yes b s [117, 48, 48] false w2 H.out HP.out).mono ?_
  rintro e w3 ⟨rfl, h1, g1⟩
  rw [show ([117, 48, 48] : List UInt8).length = 3 from rfl, HD.out] at h1
  have H1 := Aside0.mk h1
  have G1 := Aside0.mk g1
  have c0 := h1.c0
  have c1 := h1.c1
  have f0 := blk_frozen h1 0
  have f1 := blk_frozen h1 1
  have hsz : (ba t).size = t.length := size_ba t
  clear h1 g1
  by_cases h2 : t.length < 2
  ·have d2 : decide ((t.length : Int) < 2) = true := decide_eq_true (by omega)
   have HE := Aside0.mk (show unesc s = none by
    rw [HU.out]
    match t, h2 with
    | [], _ => rfl
    | [a], _ => rfl)
   clear HU
   go_wp2
   go_ret
   refine ⟨0, t, true, rfl, H1.out.set1, G1.out.trans (gb_set _ b 1 _), by decide, by decide, by have := HL.out; omega, ?_, fun _ => rfl⟩
   intro c r e; rw [HE.out] at e; cases e
  ·obtain ⟨x, y, r, rfl⟩ : ∃ x y r, t = x :: y :: r := by
    match t, h2 with
    | x :: y :: r, _ => exact ⟨x, y, r, rfl⟩
    | [], h => simp at h
    | [a], h => simp at h
   have HE := Aside0.mk (show unesc s = unhex (x :: y :: r) from HU.out)
   clear HU
   obtain ⟨S, hS⟩ : ∃ S, ba (x :: y :: r) = S := ⟨_, rfl⟩
   have hx : ∀ h : 0 < S.size, S[0]'h = x := fun h => by subst hS; rfl
   have hy : ∀ h : 1 < S.size, S[1]'h = y := fun h => by subst hS; rfl
   have hr : S.extract 2 S.size = ba r := by subst hS; apply ByteArray.ext; simp [ba, ByteArray.size]
   rw [hS] at c0 hsz
   have hz0 : 2 ≤ S.size := by rw [hsz]; simp
   have z1 : 0 < S.size := by omega
   have z2 : 1 < S.size := by omega
   have z3 : (1 : Int) < (S.size : Int) := by omega
   have z4 : (1 : Int).toNat < S.size := by simpa using z2
   have d2 : decide ((S.size : Int) < 2) = false := decide_eq_false (by omega)
   have HS := Aside0.mk hS
   have HX := Aside0.mk hx
   have HY := Aside0.mk hy
   have HR := Aside0.mk hr
   clear hS hx hy hr hsz h2
   go_wp2_with fail
   go_quiet (exact Calls.quiet_of_same (hexi_call _ _))
   obtain ⟨A, hA⟩ : ∃ A, hexi S[0] = A := ⟨_, rfl⟩
   obtain ⟨B, hB⟩ : ∃ B, hexi S[1] = B := ⟨_, rfl⟩
   rw [hA, hB]
   rw [HX.out] at hA
   rw [HY.out] at hB
   have HA := Aside0.mk hA
   have HB := Aside0.mk hB
   have rA := Aside0.mk (hA ▸ hexi_range x)
   have rB := Aside0.mk (hB ▸ hexi_range y)
   clear hA hB
   have FIN := Aside0.mk (fun q : Bool => (show Rs (((w3.drewN nq).setCell ⟨b, 0, none⟩ (.string (S.extract 2 S.size))).setCell ⟨b, 1, none⟩ (.bool q)) b r q ∧ w2.grownBy (((w3.drewN nq).setCell ⟨b, 0, none⟩ (.string (S.extract 2 S.size))).setCell ⟨b, 1, none⟩ (.bool q)) (some b) by
    rw [HR.out]
    exact ⟨((H1.out.below (pw_below_drewN (Below.refl _ _) nq)).set0).set1, ((G1.out.trans (grown_of_below (pw_below_drewN (Below.refl _ _) nq) _)).trans (gb_set _ b 0 _)).trans (gb_set _ b 1 _)⟩))
   have hfin := Aside0.mk (fun (X : Int) (q : Bool) (hq : (0 ≤ A ∧ A ≤ 1 ∧ 0 ≤ B → q = false ∧ X = bits BinOp.or IntKind.i64 (A * 16) B) ∧ (¬ (0 ≤ A ∧ A ≤ 1 ∧ 0 ≤ B) → q = true)) (w9 : World) (hw : Rs w9 b r q ∧ w2.grownBy w9 (some b)) => (show EscOut w2 b s (.returned (.int .u8 (X % 256))) w9 by
    refine ⟨X % 256, r, q, rfl, hw.1, hw.2, Int.emod_nonneg _ (by decide), Int.emod_lt_of_pos _ (by decide), by have h_ := HL.out; simp only [List.length_cons] at h_; omega, ?_, ?_⟩
    ·intro c r' e
     rw [HE.out] at e
     by_cases hc : 0 ≤ A ∧ A ≤ 1 ∧ 0 ≤ B
     ·obtain ⟨rfl, rfl⟩ := hq.1 hc
      unfold unhex at e
      simp only [hexi_some (c := x) (by rw [HA.out]; exact hc.1), hexi_some (c := y) (by rw [HB.out]; exact hc.2.2), HA.out, HB.out] at e
      rw [if_pos (by omega)] at e
      simp only [Option.some.injEq, Prod.mk.injEq] at e
      obtain ⟨rfl, rfl⟩ := e
      exact ⟨or_hex A B hc.1 rA.out.2 hc.2.2 rB.out.2, rfl, rfl⟩
     ·exfalso
      unfold unhex at e
      by_cases ha : 0 ≤ A
      ·simp only [hexi_some (c := x) (by rw [HA.out]; exact ha), HA.out] at e
       by_cases hb : 0 ≤ B
       ·simp only [hexi_some (c := y) (by rw [HB.out]; exact hb), HB.out] at e
        rw [if_neg (by omega)] at e
        cases e
       ·simp only [hexi_none (c := y) (by rw [HB.out]; omega)] at e
        cases e
      ·simp only [hexi_none (c := x) (by rw [HA.out]; omega)] at e
       cases e
    ·intro e
     rw [HE.out] at e
     refine hq.2 (fun hc => ?_)
     unfold unhex at e
     simp only [hexi_some (c := x) (by rw [HA.out]; exact hc.1), hexi_some (c := y) (by rw [HB.out]; exact hc.2.2), HA.out, HB.out] at e
     rw [if_pos (by omega)] at e
     cases e))
   clear HE HL H1 G1 HA HB
   go_wp2
   ·rename_i p1 p2
    go_ret
    exact hfin.out _ (decide (A < 0) || decide (1 < A) || decide (B < 0)) ⟨fun h => ⟨by simp only [Bool.or_eq_false_iff, decide_eq_false_iff_not]; omega, rfl⟩, fun h => by simp only [Bool.or_eq_true, decide_eq_true_eq]; omega⟩ _ (FIN.out _)
   ·rename_i p1 p2
    go_ret
    exact hfin.out _ _ ⟨fun h => by omega, fun h => rfl⟩ _ (FIN.out _)
   ·rename_i p1
    go_ret
    exact hfin.out _ _ ⟨fun h => by omega, fun h => rfl⟩ _ (FIN.out _)
 ·have HE := Aside0.mk (show unesc s = none by unfold unesc; rw [if_neg h34, if_neg h92, if_neg hu])
  have HN := Aside0.mk h34
  have HN2 := Aside0.mk h92
  have HP := Aside0.mk hu
  clear h34 h92 hu
  go_enter Tryz.func63, Tryz.ntmps63
  go_wp2_with fail
  refine (take_no b s [34] false w H.out HN.out).mono ?_
  rintro e w1 ⟨rfl, rfl⟩
  go_wp2_with fail
  refine (take_no b s [92] false w1 H.out HN2.out).mono ?_
  rintro e w2 ⟨rfl, rfl⟩
  go_wp2_with fail
  refine (need_no b s [117, 48, 48] false w2 H.out HP.out).mono ?_
  rintro e w3 ⟨rfl, h1, g1⟩
  have H1 := Aside0.mk h1
  have G1 := Aside0.mk g1
  have c0 := h1.c0
  have c1 := h1.c1
  have f0 := blk_frozen h1 0
  have f1 := blk_frozen h1 1
  clear h1 g1
  go_wp2
  go_ret
  refine ⟨0, s, true, rfl, H1.out.set1, G1.out.trans (gb_set _ b 1 _), by decide, by decide, Nat.le_refl _, ?_, fun _ => rfl⟩
  intro c r e; rw [HE.out] at e; cases e
end Go.Proofs.YtifejhbochkifaaGreatDoor.X
