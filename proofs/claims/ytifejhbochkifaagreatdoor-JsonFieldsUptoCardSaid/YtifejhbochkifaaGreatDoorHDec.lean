/- The reference's decimal numerals: they are the library's. -/
import Derived.Test.YtifejhbochkifaaGreatDoorX0
import Derived.Test.YtifejhbochkifaaGreatDoorBA
import Derived.Lib.ItoaNum
import Derived.Deep.RegionWith
import Derived.Lib.LazyBuf
import Derived.Lib.ItoaLen
namespace Go.Proofs.YtifejhbochkifaaGreatDoor.X
open Go.RowKit Go.Proofs.YtifejhbochkifaaGreatDoorW.PrintWords Go.Proofs.YtifejhbochkifaaGreatDoorW.PrintLast Go.Proofs.YtifejhbochkifaaGreatDoorW.PrintMore Go.Proofs.YtifejhbochkifaaGreatDoor.Spec
set_option linter.unusedVariables false
set_option linter.unusedSimpArgs false

theorem below_on' {w0 a b : World} (h : Below w0.heap.size w0 a) (k : Below a.heap.size a b) : Below w0.heap.size w0 b := h.trans (k.mono h.size)
theorem one_str (w : World) (b : Nat) (x c : Nat) (h : w.cell? ⟨b, 0, none⟩ = some (.int .u8 x)) (hx : x < 256) :
  (convert 77 9 (.slice (some ⟨b, 0, none⟩) 1 c)).run Tryz.prog w = .ok (.string (ba [UInt8.ofNat x])) w := by
 have hr : ReadsInt w .u8 (some ⟨b, 0, none⟩) 1 [(x : Int)] := ⟨rfl, by decide, fun _ => ⟨_, rfl, fun j hj => by
  obtain rfl : j = 0 := by omega
  rw [Addr.add_lit]
  exact h⟩⟩
 have := string_of_reads Tryz.underlying77 Tryz.underlying5 Tryz.underlying9 (c := c) hr
 rw [this]
 have e : strOfNums [(x : Int)] = ba [UInt8.ofNat x] := by
  have h1 := Lib.Lz.strOfNums_map [UInt8.ofNat x]
  have h2 : (x : Int) = ((UInt8.ofNat x).toNat : Int) := by rw [UInt8.toNat_ofNat']; omega
  rw [h2]
  exact h1
 rw [e]

set_option maxHeartbeats 4000000 in
set_option maxRecDepth 100000 in
theorem dec_calls : ∀ (u : Nat), u < 18446744073709551616 → ∀ w, Calls Tryz.prog 75 #[.int .u64 u] w fun e w' => e = .returned (.string (ba (Lib.decDigits u))) ∧ Below w.heap.size w w' := by
 intro u
 induction u using Nat.strongRecOn with
 | _ u ih =>
  intro hu w
  by_cases h10 : u < 10
  ·have hd : decide ((u : Int) < 10) = true := decide_eq_true (by omega)
   have hw1 : IntKind.u8.wrap (u : Int) = (u : Int) := by simp [IntKind.wrap, IntKind.bits]; omega
   have hw2 : IntKind.u8.wrap (48 + (u : Int)) = ((48 + u : Nat) : Int) := by simp [IntKind.wrap, IntKind.bits]; omega
   have hc := one_str (w.alloc (.cells #[.int .u8 ((48 + u : Nat) : Int)] 5)) w.heap.size (48 + u) 1 (World.cell?_alloc_new w #[.int .u8 ((48 + u : Nat) : Int)] 5 0) (by omega)
   rw [show ((48 + u : Nat) : Int) = 48 + (u : Int) from by omega] at hc
   have e48 : UInt8.ofNat (48 + u) = 48 + UInt8.ofNat u := by rw [UInt8.ofNat_add]; rfl
   rw [Lib.decDigits, dif_pos h10, e48]
   rw [e48] at hc
   clear ih hu h10
   go_enter Tryz.func75, Tryz.ntmps75
   go_wp2
   go_ret
   exact ⟨rfl, below_alloc (Below.refl _ w) _⟩
  ·have hd : decide ((u : Int) < 10) = false := decide_eq_false (by omega)
   obtain ⟨q, hq⟩ : ∃ q, u / 10 = q := ⟨_, rfl⟩
   obtain ⟨r, hr⟩ : ∃ r, u % 10 = r := ⟨_, rfl⟩
   have hqu : q < u := by omega
   have hr9 : r < 10 := by omega
   have ht : ba (Lib.decDigits u) = ba (Lib.decDigits q) ++ ba [UInt8.ofNat (48 + r)] := by
    apply bl_inj
    rw [bl_append, bl_ba, bl_ba, bl_ba]
    conv => lhs; rw [Lib.decDigits]
    rw [dif_neg h10, hq, hr]
   rw [ht]
   have hl : (Lib.decDigits q).length ≤ 21 := by
    have := Lib.itoa_length_le (q : Int) (by omega) (by omega)
    rwa [show Lib.itoa (q : Int) = Lib.decDigits q from by unfold Lib.itoa; rw [if_neg (by omega), Int.toNat_natCast]] at this
   have IH := Aside0.mk (ih q hqu (by omega))
   have hq1 : (u : Int) / 10 = (q : Int) := by omega
   have hr1 : (u : Int).tmod 10 = (r : Int) := by rw [Int.tmod_eq_emod_of_nonneg (by omega)]; omega
   have hq2 : IntKind.u64.wrap (q : Int) = (q : Int) := by simp [IntKind.wrap, IntKind.bits]; omega
   have hr2 : IntKind.u64.wrap (r : Int) = (r : Int) := by simp [IntKind.wrap, IntKind.bits]; omega
   have hw1 : IntKind.u8.wrap (r : Int) = (r : Int) := by simp [IntKind.wrap, IntKind.bits]; omega
   have hw2 : IntKind.u8.wrap (48 + (r : Int)) = ((48 + r : Nat) : Int) := by simp [IntKind.wrap, IntKind.bits]; omega
   obtain ⟨d, hdd⟩ : ∃ d, 48 + r = d := ⟨_, rfl⟩
   rw [hdd] at hw2 ⊢
   have hd7 : d < 256 := by omega
   clear hdd
   have HCV := Aside0.mk (show ∀ w1 : World, (convert 77 9 (.slice (some ⟨w1.heap.size, 0, none⟩) 1 1)).run Tryz.prog (w1.alloc (.cells #[.int .u8 (d : Int)] 5)) = .ok (.string (ba [UInt8.ofNat d])) (w1.alloc (.cells #[.int .u8 (d : Int)] 5)) from fun w1 =>
    one_str _ w1.heap.size d 1 (World.cell?_alloc_new w1 #[.int .u8 (d : Int)] 5 0) hd7)
   have HCB := Aside0.mk (show ∀ (B : Nat) (w1 w7 : World), w1.heap.size < B → Below B (w1.alloc (.cells #[.int .u8 (d : Int)] 5)).drew w7 → (convert 77 9 (.slice (some ⟨w1.heap.size, 0, none⟩) 1 1)).run Tryz.prog w7 = .ok (.string (ba [UInt8.ofNat d])) w7 from fun B w1 w7 hB hb =>
    one_str _ w1.heap.size d 1 ((hb.cell (p := ⟨w1.heap.size, 0, none⟩) hB).trans (World.cell?_alloc_new w1 #[.int .u8 (d : Int)] 5 0)) hd7)
   have hc0 : (convert 77 9 (.slice (some ⟨w.heap.size, 0, none⟩) 1 1)).run Tryz.prog (w.alloc (.cells #[.int .u8 (d : Int)] 5)).drew = .ok (.string (ba [UInt8.ofNat d])) (w.alloc (.cells #[.int .u8 (d : Int)] 5)).drew :=
    one_str _ w.heap.size d 1 (World.cell?_alloc_new w #[.int .u8 (d : Int)] 5 0) hd7
   have z1 : (9223372036854775807 < (Lib.decDigits q).length + 1) = False := eq_false (by omega)
   obtain ⟨D, hD⟩ : ∃ D, Lib.decDigits q = D := ⟨_, rfl⟩
   rw [hD] at IH z1 ⊢
   clear ht h10 ih hq hr hqu hr9 hl hD hu hd7
   go_enter Tryz.func75, Tryz.ntmps75
   go_wp2
   go_region_with (first
    | (go_at_call 75; refine (IH.out _).mono ?_; rintro e w7 ⟨rfl, hb7⟩; have hc1 := HCV.out w7; have hc2 : (convert 77 9 (.slice (some ⟨w.heap.size, 0, none⟩) 1 1)).run Tryz.prog w7 = .ok (.string (ba [UInt8.ofNat d])) w7 := HCB.out _ w w7 (by show w.heap.size < (w.heap.push _).size; simp) hb7; have B7 := Aside0.mk hb7; clear hb7)
    | (go_at_call 75; refine (IH.out _).mono ?_; rintro e w7 ⟨rfl, hb7⟩; have hc1 := HCV.out w7; have B7 := Aside0.mk hb7; clear hb7))
   all_goals (try go_wp2)
   all_goals go_ret
   ·exact ⟨rfl, below_alloc (below_on' (below_drew1 (Below.refl _ w)) B7.out) _⟩
   ·exact ⟨rfl, below_on' (below_drew1 (below_alloc (Below.refl _ w) _)) B7.out⟩
   ·exact ⟨rfl, below_on' (below_drew1 (below_alloc (Below.refl _ w) _)) B7.out⟩

def exequaturref01_Dec.f (n : Int) : Option ByteArray := if -9223372036854775808 ≤ n ∧ n ≤ 9223372036854775807 then some (ba (Lib.itoa n)) else none
set_option maxHeartbeats 4000000 in
set_option maxRecDepth 100000 in
theorem exequaturref01_Dec.calls (a0 : Int) (r : ByteArray) (w : World) (h : exequaturref01_Dec.f a0 = some r) :
  Calls Tryz.prog 54 #[.int .i64 a0] w fun e w' => e = .returned (.string r) ∧ Below w.heap.size w w' := by
 unfold exequaturref01_Dec.f at h
 split at h
 case isFalse => cases h
 rename_i hs
 obtain rfl := Option.some.inj h
 clear h
 obtain ⟨h0, h1⟩ := hs
 by_cases hn : a0 < 0
 ·have hd : decide (a0 < 0) = true := decide_eq_true hn
  obtain ⟨u, hu⟩ : ∃ u : Nat, -a0 = u := ⟨(-a0).toNat, by omega⟩
  have HC := Aside0.mk (dec_calls u (by omega) w)
  have w1 : IntKind.i64.wrap (a0 + 1) = a0 + 1 := IntWalk.i64_in _ (by omega)
  have w2 : IntKind.i64.wrap (-(a0 + 1)) = -(a0 + 1) := IntWalk.i64_in _ (by omega)
  have w3 : IntKind.u64.wrap (-(a0 + 1)) = -(a0 + 1) := by simp [IntKind.wrap, IntKind.bits]; omega
  have w4 : IntKind.u64.wrap (-(a0 + 1) + 1) = (u : Int) := by
   rw [show -(a0 + 1) + 1 = (u : Int) from by omega]
   have : (u : Int) ≤ 9223372036854775808 := by omega
   clear w1 w2 w3 hd hn h0 h1 HC hu
   simp [IntKind.wrap, IntKind.bits, IntKind.signed]; omega
  have e1 : Lib.itoa a0 = 45 :: Lib.decDigits u := by
   unfold Lib.itoa
   rw [if_pos hn, show a0.natAbs = u from by omega]
  have e2 : ba (45 :: Lib.decDigits u) = (⟨#[45]⟩ : ByteArray) ++ ba (Lib.decDigits u) := by
   apply bl_inj
   rw [bl_append, bl_ba, bl_ba]
   rfl
  have hl : (Lib.decDigits u).length ≤ 21 := by
   have := Lib.itoa_length_le a0 h0 h1
   rw [e1] at this
   simp at this; omega
  obtain ⟨D, hD⟩ : ∃ D, Lib.decDigits u = D := ⟨_, rfl⟩
  rw [hD] at HC e1 e2 hl
  rw [e1, e2]
  have z1 : (9223372036854775807 < 1 + D.length) = False := eq_false (by omega)
  clear e1 e2 hD h0 h1 hl hu hn
  go_enter Tryz.func54, Tryz.ntmps54
  go_wp2_with fail
  refine HC.out.mono ?_
  rintro e w7 ⟨rfl, hb⟩
  have HB := Aside0.mk hb
  clear hb
  go_wp2
  go_ret
  exact ⟨rfl, HB.out⟩
 ·have hd : decide (a0 < 0) = false := decide_eq_false hn
  obtain ⟨u, rfl⟩ : ∃ u : Nat, a0 = u := ⟨a0.toNat, by omega⟩
  have HC := Aside0.mk (dec_calls u (by omega) w)
  have w3 : IntKind.u64.wrap (u : Int) = (u : Int) := by simp [IntKind.wrap, IntKind.bits]; omega
  have e1 : Lib.itoa (u : Int) = Lib.decDigits u := by
   unfold Lib.itoa
   rw [if_neg hn, Int.toNat_natCast]
  rw [e1]
  clear e1
  go_enter Tryz.func54, Tryz.ntmps54
  go_wp2_with fail
  refine HC.out.mono ?_
  rintro e w7 ⟨rfl, hb⟩
  have HB := Aside0.mk hb
  clear hb
  go_wp2
  go_ret
  exact ⟨rfl, HB.out⟩
end Go.Proofs.YtifejhbochkifaaGreatDoor.X
