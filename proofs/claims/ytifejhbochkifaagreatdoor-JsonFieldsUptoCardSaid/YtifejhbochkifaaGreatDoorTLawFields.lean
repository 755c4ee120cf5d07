/- JsonFields: its walk. -/
import Derived.Test.YtifejhbochkifaaGreatDoorBF
import Derived.Test.YtifejhbochkifaaGreatDoorHLaw
import Derived.Test.YtifejhbochkifaaGreatDoorHRFld
import Derived.Test.YtifejhbochkifaaGreatDoorHSmV
namespace Go.Proofs.YtifejhbochkifaaGreatDoor.X
open Go.RowKit Go.Proofs.YtifejhbochkifaaGreatDoorW.PrintWords Go.Proofs.YtifejhbochkifaaGreatDoorW.PrintLast Go.Proofs.YtifejhbochkifaaGreatDoorW.PrintMore Go.Proofs.YtifejhbochkifaaGreatDoor.Spec
set_option linter.unusedVariables false
set_option linter.unusedSimpArgs false
theorem field_lim (D : Nat) (v : V) (key : ByteArray) (h : limB (D + 1) v = true) : limB (D + 1) ((fieldL v key).getD z_V) = true := by
 have hz : limB (D + 1) z_V = true := lim_up 1 _ _ (by omega) lim_z
 obtain ⟨_, _, la⟩ := lim_succ h
 unfold fieldL
 split
 ·split
  ·exact hz
  ·cases hx : v.f3[(idxL key v.f4 0).toNat]? with
   | none => exact hz
   | some x => exact lim_up D _ _ (by omega) (la x (List.mem_of_getElem? hx))
 ·exact hz
set_option maxHeartbeats 32000000 in
set_option maxRecDepth 100000 in
theorem fields_calls (v u : V) (key : ByteArray) (A3 A4 E3 E4 : Option Addr) (q3 q4 r3 r4 : Nat) (w : World) (h3 : v.f3.length ≤ q3) (g3 : Kd.C k25 w A3 v.f3.length v.f3) (h4 : v.f4.length ≤ q4) (g4 : Kd.C Kd.string w A4 v.f4.length v.f4) (h5 : u.f3.length ≤ r3) (g5 : Kd.C k25 w E3 u.f3.length u.f3) (h6 : u.f4.length ≤ r4) (g6 : Kd.C Kd.string w E4 u.f4.length u.f4) (hG : GOK w := by first | assumption | exact hG | exact GOK.drewN _ hG | exact GOK.below hG (by repeat (first | (with_reducible first | exact HB.out | apply below_alloc | apply pw_below_drewN | apply below_drew1 | refine below_set ?_ (Aside0.out (by assumption))) | exact HB.out))) :
  Calls Tryz.prog 8 #[.agg #[.int .i64 v.f0, .int .i64 v.f1, .string v.f2, .slice A3 v.f3.length q3, .slice A4 v.f4.length q4], .agg #[.int .i64 u.f0, .int .i64 u.f1, .string u.f2, .slice E3 u.f3.length r3, .slice E4 u.f4.length r4], .string key] w fun e w' => e = .returned (.bool true) ∧ Below w.heap.size w w' := by
 have HG := Aside0.mk hG
 obtain ⟨W2, hW2⟩ : ∃ W, (w.alloc (.cells #[.int .i64 v.f0, .int .i64 v.f1, .string v.f2, .slice A3 v.f3.length q3, .slice A4 v.f4.length q4] 25)).alloc (.cells #[.int .i64 u.f0, .int .i64 u.f1, .string u.f2, .slice E3 u.f3.length r3, .slice E4 u.f4.length r4] 25) = W := ⟨_, rfl⟩
 have hb2 : Below w.heap.size w W2 := by rw [← hW2]; exact below_alloc (below_alloc (Below.refl _ w) _) _
 have BV2 := Aside0.mk (show W2.heap[w.heap.size]? = some (.cells #[.int .i64 v.f0, .int .i64 v.f1, .string v.f2, .slice A3 v.f3.length q3, .slice A4 v.f4.length q4] 25 (0, 0)) by rw [← hW2]; exact blk_alloc (blk_new w _) _)
 have BU2 := Aside0.mk (show W2.heap[w.heap.size + 1]? = some (.cells #[.int .i64 u.f0, .int .i64 u.f1, .string u.f2, .slice E3 u.f3.length r3, .slice E4 u.f4.length r4] 25 (0, 0)) by
  rw [← hW2]
  have h := blk_new (w.alloc (.cells #[.int .i64 v.f0, .int .i64 v.f1, .string v.f2, .slice A3 v.f3.length q3, .slice A4 v.f4.length q4] 25)) (.cells #[.int .i64 u.f0, .int .i64 u.f1, .string u.f2, .slice E3 u.f3.length r3, .slice E4 u.f4.length r4] 25)
  rw [show (w.alloc (.cells #[.int .i64 v.f0, .int .i64 v.f1, .string v.f2, .slice A3 v.f3.length q3, .slice A4 v.f4.length q4] 25)).heap.size = w.heap.size + 1 by simp] at h
  exact h)
 obtain ⟨ks, hks⟩ := (small_ev 12 (by decide) v).get
 obtain ⟨ku, hku⟩ := (small_ev 12 (by decide) u).get
 have HSM := Aside0.mk (exequaturlaw05_small.calls ks v.f0 v.f1 v.f2 A3 q3 v.f3 A4 q4 v.f4 12 _ W2 (Kd.C_below g3 hb2) h3 (Kd.C_below g4 hb2) h4 hks)
 have HSU := Aside0.mk (fun (W : World) (hW : Below w.heap.size w W) => exequaturlaw05_small.calls ku u.f0 u.f1 u.f2 E3 r3 u.f3 E4 r4 u.f4 12 _ W (Kd.C_below g5 hW) h5 (Kd.C_below g6 hW) h6 hku)
 have HAN := Aside0.mk (fun (W : World) (hW : Below w.heap.size w W) => exequaturlaw05_answers.calls true W rfl (HG.out.below hW))
 have HC3 := Aside0.mk g3
 have HC4 := Aside0.mk g4
 have K3 := Aside0.mk h3
 have K4 := Aside0.mk h4
 have HE3 := Aside0.mk g5
 have HE4 := Aside0.mk g6
 have KE3 := Aside0.mk h5
 have KE4 := Aside0.mk h6
 have HD2 := Aside0.mk hb2
 have HW2 := Aside0.mk hW2
 clear hb2 hW2 hks hku g3 g4 g5 g6 h3 h4 h5 h6 hG
 have m0 := (blk_cell BV2.out 0).trans (rfl : _ = some (Value.int .i64 v.f0))
 have m1 := (blk_cell BV2.out 1).trans (rfl : _ = some (Value.int .i64 v.f1))
 have m2 := (blk_cell BV2.out 2).trans (rfl : _ = some (Value.string v.f2))
 have m3 := (blk_cell BV2.out 3).trans (rfl : _ = some (Value.slice A3 v.f3.length q3))
 have m4 := (blk_cell BV2.out 4).trans (rfl : _ = some (Value.slice A4 v.f4.length q4))
 go_enter Tryz.func8, Tryz.ntmps8
 go_wp2_with (rw [HW2.out])
 refine HSM.out.mono ?_
 rintro e w3 ⟨rfl, hb3⟩
 have BV3 := Aside0.mk (blk_below BV2.out hb3)
 have BU3 := Aside0.mk (blk_below BU2.out hb3)
 have HD3 := Aside0.mk (below_then HD2.out HD2.out.size hb3)
 clear hb3 m0 m1 m2 m3 m4 HSM HW2
 cases hs : smallB 12 v with
 | false =>
  clear hs
  go_wp2_with fail
  refine (HAN.out w3 HD3.out).mono ?_
  rintro e w4 ⟨rfl, hb4⟩
  have HD4 := Aside0.mk (below_then HD3.out HD3.out.size hb4)
  clear hb4
  go_wp2
  go_ret
  exact ⟨rfl, HD4.out⟩
 | true =>
 have HL := Aside0.mk (lim_small 12 v hs)
 clear hs
 have n0 := (blk_cell BU3.out 0).trans (rfl : _ = some (Value.int .i64 u.f0))
 have n1 := (blk_cell BU3.out 1).trans (rfl : _ = some (Value.int .i64 u.f1))
 have n2 := (blk_cell BU3.out 2).trans (rfl : _ = some (Value.string u.f2))
 have n3 := (blk_cell BU3.out 3).trans (rfl : _ = some (Value.slice E3 u.f3.length r3))
 have n4 := (blk_cell BU3.out 4).trans (rfl : _ = some (Value.slice E4 u.f4.length r4))
 go_wp2_with fail
 refine (HSU.out w3 HD3.out).mono ?_
 rintro e w4 ⟨rfl, hb4⟩
 have BV4 := Aside0.mk (blk_below BV3.out hb4)
 have BU4 := Aside0.mk (blk_below BU3.out hb4)
 have HD4 := Aside0.mk (below_then HD3.out HD3.out.size hb4)
 clear hb4 n0 n1 n2 n3 n4 HSU
 cases hs : smallB 12 u with
 | false =>
  clear hs
  go_wp2_with fail
  refine (HAN.out w4 HD4.out).mono ?_
  rintro e w5 ⟨rfl, hb5⟩
  have HD5 := Aside0.mk (below_then HD4.out HD4.out.size hb5)
  clear hb5
  go_wp2
  go_ret
  exact ⟨rfl, HD5.out⟩
 | true =>
 clear hs
 obtain ⟨R, hR⟩ : ∃ R, fieldL v key = R := ⟨_, rfl⟩
 obtain ⟨X, hX⟩ : ∃ X, R.getD z_V = X := ⟨_, rfl⟩
 obtain ⟨b, hb⟩ : ∃ b, R.isSome = b := ⟨_, rfl⟩
 obtain ⟨g, hg⟩ : ∃ g, eqB v u = g := ⟨_, rfl⟩
 have HLX := Aside0.mk (show limB 12 X = true by rw [← hX, ← hR]; exact field_lim 11 v key HL.out)
 have HGE := Aside0.mk hg
 have HFD := Aside0.mk (fun (W : World) (hW : Below w.heap.size w W) => (show Calls Tryz.prog 15 #[.agg #[.int .i64 v.f0, .int .i64 v.f1, .string v.f2, .slice A3 v.f3.length q3, .slice A4 v.f4.length q4], .string key] W fun e w' => ∃ B3 p3 B4 p4, e = .returned (.tuple #[.agg #[.int .i64 X.f0, .int .i64 X.f1, .string X.f2, .slice B3 X.f3.length p3, .slice B4 X.f4.length p4], .bool b]) ∧ X.f3.length ≤ p3 ∧ Kd.C k25 w' B3 X.f3.length X.f3 ∧ X.f4.length ≤ p4 ∧ Kd.C Kd.string w' B4 X.f4.length X.f4 ∧ Below W.heap.size W w' from by
  have hf := field_any v key 12 HL.out A3 A4 q3 q4 W K3.out (Kd.C_below HC3.out hW) K4.out (Kd.C_below HC4.out hW)
  rw [hR] at hf
  subst hX; subst hb
  refine hf.mono ?_
  rintro e w' ⟨c, rfl, hfr, hbl⟩
  obtain ⟨B3, p3, B4, p4, rfl, k3, j3, k4, j4⟩ := hfr.at
  exact ⟨B3, p3, B4, p4, rfl, k3, j3, k4, j4, hbl⟩))
 have HRF := Aside0.mk (fun (hq : v.f0 = 6 → v.f4.length = v.f3.length) (W : World) (hW : Below w.heap.size w W) => (show Calls Tryz.prog 22 #[.agg #[.int .i64 v.f0, .int .i64 v.f1, .string v.f2, .slice A3 v.f3.length q3, .slice A4 v.f4.length q4], .string key] W fun e w' => ∃ D3 s3 D4 s4, e = .returned (.tuple #[.agg #[.int .i64 X.f0, .int .i64 X.f1, .string X.f2, .slice D3 X.f3.length s3, .slice D4 X.f4.length s4], .bool b]) ∧ X.f3.length ≤ s3 ∧ Kd.C k25 w' D3 X.f3.length X.f3 ∧ X.f4.length ≤ s4 ∧ Kd.C Kd.string w' D4 X.f4.length X.f4 ∧ Below W.heap.size W w' from by
  have hf := rfield_calls v key A3 A4 q3 q4 W (lim_succ (d := 11) HL.out).2.1 K3.out (Kd.C_below HC3.out hW) K4.out (Kd.C_below HC4.out hW)
  rw [rfldV_eq v key hq, hR] at hf
  subst hX; subst hb
  refine hf.mono ?_
  rintro e w' ⟨c, rfl, hfr, hbl⟩
  obtain ⟨B3, p3, B4, p4, rfl, k3, j3, k4, j4⟩ := hfr
  exact ⟨B3, p3, B4, p4, rfl, k3, j3, k4, j4, hbl⟩))
 clear hX hb hg hR
 have m0 := (blk_cell BV4.out 0).trans (rfl : _ = some (Value.int .i64 v.f0))
 have m1 := (blk_cell BV4.out 1).trans (rfl : _ = some (Value.int .i64 v.f1))
 have m2 := (blk_cell BV4.out 2).trans (rfl : _ = some (Value.string v.f2))
 have m3 := (blk_cell BV4.out 3).trans (rfl : _ = some (Value.slice A3 v.f3.length q3))
 have m4 := (blk_cell BV4.out 4).trans (rfl : _ = some (Value.slice A4 v.f4.length q4))
 go_wp2_with fail
 refine (HFD.out w4 HD4.out).mono ?_
 rintro e w5 ⟨B3, p3, B4, p4, rfl, kb3, jb3, kb4, jb4, hb5⟩
 obtain ⟨W6, hW6⟩ : ∃ W, w5.alloc (.cells #[.int .i64 X.f0, .int .i64 X.f1, .string X.f2, .slice B3 X.f3.length p3, .slice B4 X.f4.length p4] 25) = W := ⟨_, rfl⟩
 have hb6 : Below w5.heap.size w5 W6 := by rw [← hW6]; exact below_alloc (Below.refl _ _) _
 have hb46 := below_then hb5 hb5.size hb6
 have BX6 := Aside0.mk (show W6.heap[w5.heap.size]? = some (.cells #[.int .i64 X.f0, .int .i64 X.f1, .string X.f2, .slice B3 X.f3.length p3, .slice B4 X.f4.length p4] 25 (0, 0)) by rw [← hW6]; exact blk_new _ _)
 have BV6 := Aside0.mk (blk_below BV4.out hb46)
 have BU6 := Aside0.mk (blk_below BU4.out hb46)
 have HD6 := Aside0.mk (below_then HD4.out HD4.out.size hb46)
 have HB36 := Aside0.mk (Kd.C_below jb3 hb6)
 have HB46 := Aside0.mk (Kd.C_below jb4 hb6)
 have KB3 := Aside0.mk kb3
 have KB4 := Aside0.mk kb4
 have HW6 := Aside0.mk hW6
 clear hb5 hb6 hb46 hW6 kb3 jb3 kb4 jb4 m0 m1 m2 m3 m4 HFD
 have m0 := (blk_cell BV6.out 0).trans (rfl : _ = some (Value.int .i64 v.f0))
 have m1 := (blk_cell BV6.out 1).trans (rfl : _ = some (Value.int .i64 v.f1))
 have m2 := (blk_cell BV6.out 2).trans (rfl : _ = some (Value.string v.f2))
 have m3 := (blk_cell BV6.out 3).trans (rfl : _ = some (Value.slice A3 v.f3.length q3))
 have m4 := (blk_cell BV6.out 4).trans (rfl : _ = some (Value.slice A4 v.f4.length q4))
 by_cases h6 : v.f0 = 6
 rotate_left
 ·have dk : (v.f0 == 6) = false := beq_eq_false_iff_ne.2 h6
  have HRF := Aside0.mk (HRF.out (fun h => absurd h h6))
  clear h6
  go_wp2_with (rw [HW6.out])
  clear m0 m1 m2 m3 m4
  have m0 := (blk_cell BV6.out 0).trans (rfl : _ = some (Value.int .i64 v.f0))
  have m1 := (blk_cell BV6.out 1).trans (rfl : _ = some (Value.int .i64 v.f1))
  have m2 := (blk_cell BV6.out 2).trans (rfl : _ = some (Value.string v.f2))
  have m3 := (blk_cell BV6.out 3).trans (rfl : _ = some (Value.slice A3 v.f3.length q3))
  have m4 := (blk_cell BV6.out 4).trans (rfl : _ = some (Value.slice A4 v.f4.length q4))
  go_wp2_with fail
  refine (HRF.out W6 HD6.out).mono ?_
  rintro e w7 ⟨D3, s3, D4, s4, rfl, kd3, jd3, kd4, jd4, hb7⟩
  clear m0 m1 m2 m3 m4
  obtain ⟨W8, hW8⟩ : ∃ W, w7.alloc (.cells #[.int .i64 X.f0, .int .i64 X.f1, .string X.f2, .slice D3 X.f3.length s3, .slice D4 X.f4.length s4] 25) = W := ⟨_, rfl⟩
  have hb8 : Below w7.heap.size w7 W8 := by rw [← hW8]; exact below_alloc (Below.refl _ _) _
  have hb68 := below_then hb7 hb7.size hb8
  have BY8 := Aside0.mk (show W8.heap[w7.heap.size]? = some (.cells #[.int .i64 X.f0, .int .i64 X.f1, .string X.f2, .slice D3 X.f3.length s3, .slice D4 X.f4.length s4] 25 (0, 0)) by rw [← hW8]; exact blk_new _ _)
  have BV8 := Aside0.mk (blk_below BV6.out hb68)
  have BU8 := Aside0.mk (blk_below BU6.out hb68)
  have BX8 := Aside0.mk (blk_below BX6.out hb68)
  have HD8 := Aside0.mk (below_drew (below_then HD6.out HD6.out.size hb68))
  have HB3 := Aside0.mk (Kd.C_below HB36.out (below_drew hb68))
  have HB4 := Aside0.mk (Kd.C_below HB46.out (below_drew hb68))
  have HF3 := Aside0.mk (Kd.C_below jd3 (below_drew hb8))
  have HF4 := Aside0.mk (Kd.C_below jd4 (below_drew hb8))
  have KD3 := Aside0.mk kd3
  have KD4 := Aside0.mk kd4
  have HW8 := Aside0.mk hW8
  clear hW8 hb8 hb68 hb7 kd3 jd3 kd4 jd4
  have BV9 := Aside0.mk (blk_drew BV8.out)
  have BU9 := Aside0.mk (blk_drew BU8.out)
  have BX9 := Aside0.mk (blk_drew BX8.out)
  have BY9 := Aside0.mk (blk_drew BY8.out)
  have HE9 := Aside0.mk (Below.refl W8.drew.heap.size W8.drew)
  have HAN9 := Aside0.mk (fun (W : World) (hW : Below W8.drew.heap.size W8.drew W) => HAN.out W (below_then HD8.out HD8.out.size hW))
  have HXY := Aside0.mk (fun (W : World) (hW : Below W8.drew.heap.size W8.drew W) => (show Calls Tryz.prog 11 #[.agg #[.int .i64 X.f0, .int .i64 X.f1, .string X.f2, .slice B3 X.f3.length p3, .slice B4 X.f4.length p4], .agg #[.int .i64 X.f0, .int .i64 X.f1, .string X.f2, .slice D3 X.f3.length s3, .slice D4 X.f4.length s4]] W fun e w' => e = .returned (.bool true) ∧ Below W.heap.size W w' from by
   have hw := below_then HD8.out HD8.out.size hW
   have := rsame_calls 12 X X HLX.out B3 B4 D3 D4 p3 p4 s3 s4 W KB3.out (Kd.C_below HB3.out hW) KB4.out (Kd.C_below HB4.out hW) KD3.out (Kd.C_below HF3.out hW) KD4.out (Kd.C_below HF4.out hW)
   rw [eqB_true rfl] at this
   exact this))
  have HJU := Aside0.mk (fun (W : World) (hW : Below W8.drew.heap.size W8.drew W) => (show Calls Tryz.prog 21 #[.agg #[.int .i64 v.f0, .int .i64 v.f1, .string v.f2, .slice A3 v.f3.length q3, .slice A4 v.f4.length q4], .agg #[.int .i64 u.f0, .int .i64 u.f1, .string u.f2, .slice E3 u.f3.length r3, .slice E4 u.f4.length r4]] W fun e w' => e = .returned (.bool g) ∧ Below W.heap.size W w' from by
   have hw := below_then HD8.out HD8.out.size hW
   have := jsame_calls 12 v u HL.out A3 A4 E3 E4 q3 q4 r3 r4 W K3.out (Kd.C_below HC3.out hw) K4.out (Kd.C_below HC4.out hw) KE3.out (Kd.C_below HE3.out hw) KE4.out (Kd.C_below HE4.out hw)
   rw [HGE.out] at this
   exact this))
  have HRU := Aside0.mk (fun (W : World) (hW : Below W8.drew.heap.size W8.drew W) => (show Calls Tryz.prog 11 #[.agg #[.int .i64 v.f0, .int .i64 v.f1, .string v.f2, .slice A3 v.f3.length q3, .slice A4 v.f4.length q4], .agg #[.int .i64 u.f0, .int .i64 u.f1, .string u.f2, .slice E3 u.f3.length r3, .slice E4 u.f4.length r4]] W fun e w' => e = .returned (.bool g) ∧ Below W.heap.size W w' from by
   have hw := below_then HD8.out HD8.out.size hW
   have := rsame_calls 12 v u HL.out A3 A4 E3 E4 q3 q4 r3 r4 W K3.out (Kd.C_below HC3.out hw) K4.out (Kd.C_below HC4.out hw) KE3.out (Kd.C_below HE3.out hw) KE4.out (Kd.C_below HE4.out hw)
   rw [HGE.out] at this
   exact this))
  have HJV := Aside0.mk (fun (W : World) (hW : Below W8.drew.heap.size W8.drew W) => (show Calls Tryz.prog 21 #[.agg #[.int .i64 v.f0, .int .i64 v.f1, .string v.f2, .slice A3 v.f3.length q3, .slice A4 v.f4.length q4], .agg #[.int .i64 v.f0, .int .i64 v.f1, .string v.f2, .slice A3 v.f3.length q3, .slice A4 v.f4.length q4]] W fun e w' => e = .returned (.bool true) ∧ Below W.heap.size W w' from by
   have hw := below_then HD8.out HD8.out.size hW
   have := jsame_calls 12 v v HL.out A3 A4 A3 A4 q3 q4 q3 q4 W K3.out (Kd.C_below HC3.out hw) K4.out (Kd.C_below HC4.out hw) K3.out (Kd.C_below HC3.out hw) K4.out (Kd.C_below HC4.out hw)
   rw [eqB_true rfl] at this
   exact this))
  go_wp2_with (rw [HW8.out])
  refine start_ (n := 26) (S := fun w' => w'.cell? ⟨w.heap.size, 0, none⟩ = some (Value.int .i64 v.f0) ∧ w'.cell? ⟨w.heap.size, 1, none⟩ = some (Value.int .i64 v.f1) ∧ w'.cell? ⟨w.heap.size, 2, none⟩ = some (Value.string v.f2) ∧ w'.cell? ⟨w.heap.size, 3, none⟩ = some (Value.slice A3 v.f3.length q3) ∧ w'.cell? ⟨w.heap.size, 4, none⟩ = some (Value.slice A4 v.f4.length q4) ∧ w'.cell? ⟨w.heap.size + 1, 0, none⟩ = some (Value.int .i64 u.f0) ∧ w'.cell? ⟨w.heap.size + 1, 1, none⟩ = some (Value.int .i64 u.f1) ∧ w'.cell? ⟨w.heap.size + 1, 2, none⟩ = some (Value.string u.f2) ∧ w'.cell? ⟨w.heap.size + 1, 3, none⟩ = some (Value.slice E3 u.f3.length r3) ∧ w'.cell? ⟨w.heap.size + 1, 4, none⟩ = some (Value.slice E4 u.f4.length r4) ∧ w'.cell? ⟨w5.heap.size, 0, none⟩ = some (Value.int .i64 X.f0) ∧ w'.cell? ⟨w5.heap.size, 1, none⟩ = some (Value.int .i64 X.f1) ∧ w'.cell? ⟨w5.heap.size, 2, none⟩ = some (Value.string X.f2) ∧ w'.cell? ⟨w5.heap.size, 3, none⟩ = some (Value.slice B3 X.f3.length p3) ∧ w'.cell? ⟨w5.heap.size, 4, none⟩ = some (Value.slice B4 X.f4.length p4) ∧ w'.cell? ⟨w7.heap.size, 0, none⟩ = some (Value.int .i64 X.f0) ∧ w'.cell? ⟨w7.heap.size, 1, none⟩ = some (Value.int .i64 X.f1) ∧ w'.cell? ⟨w7.heap.size, 2, none⟩ = some (Value.string X.f2) ∧ w'.cell? ⟨w7.heap.size, 3, none⟩ = some (Value.slice D3 X.f3.length s3) ∧ w'.cell? ⟨w7.heap.size, 4, none⟩ = some (Value.slice D4 X.f4.length s4)) (ds := []) #[false, false, false, false, false, false, false, false, false, false, false, false, false, false, false, false, false, false, false, false, false, false, false, false, false, false] (by kernel_rfl) rfl rfl ⟨((blk_cell BV9.out 0).trans rfl), ((blk_cell BV9.out 1).trans rfl), ((blk_cell BV9.out 2).trans rfl), ((blk_cell BV9.out 3).trans rfl), ((blk_cell BV9.out 4).trans rfl), ((blk_cell BU9.out 0).trans rfl), ((blk_cell BU9.out 1).trans rfl), ((blk_cell BU9.out 2).trans rfl), ((blk_cell BU9.out 3).trans rfl), ((blk_cell BU9.out 4).trans rfl), ((blk_cell BX9.out 0).trans rfl), ((blk_cell BX9.out 1).trans rfl), ((blk_cell BX9.out 2).trans rfl), ((blk_cell BX9.out 3).trans rfl), ((blk_cell BX9.out 4).trans rfl), ((blk_cell BY9.out 0).trans rfl), ((blk_cell BY9.out 1).trans rfl), ((blk_cell BY9.out 2).trans rfl), ((blk_cell BY9.out 3).trans rfl), ((blk_cell BY9.out 4).trans rfl)⟩ (fun hHeld => ?_)
  refine one_ (i := 0) (N := some 45) #[true, false, false, false, false, false, false, false, false, false, false, false, false, false, false, false, false, false, false, false, false, false, false, false, false, false] rfl rfl (by kernel_rfl) (by decide) (fun K hK => ?_)
  refine goes_ Tryz.func12 (by kernel_rfl) rfl #[] (by rfl) rfl rfl (by first | (simp only [List.map_toArray, List.map_cons, List.map_nil]; done) | (simp only [List.map_toArray, List.map_cons, List.map_nil]; rfl)) ?_
  with_reducible refine ((HAN9.out _ HE9.out)).mono ?_
  rintro e w10 ⟨rfl, hb10⟩
  refine ⟨_, rfl, ?_⟩
  have BV10 := Aside0.mk (blk_below BV9.out hb10)
  have BU10 := Aside0.mk (blk_below BU9.out hb10)
  have BX10 := Aside0.mk (blk_below BX9.out hb10)
  have BY10 := Aside0.mk (blk_below BY9.out hb10)
  have HE10 := Aside0.mk (below_then HE9.out HE9.out.size hb10)
  clear hb10
  refine hK.out _ _ ⟨((blk_cell BV10.out 0).trans rfl), ((blk_cell BV10.out 1).trans rfl), ((blk_cell BV10.out 2).trans rfl), ((blk_cell BV10.out 3).trans rfl), ((blk_cell BV10.out 4).trans rfl), ((blk_cell BU10.out 0).trans rfl), ((blk_cell BU10.out 1).trans rfl), ((blk_cell BU10.out 2).trans rfl), ((blk_cell BU10.out 3).trans rfl), ((blk_cell BU10.out 4).trans rfl), ((blk_cell BX10.out 0).trans rfl), ((blk_cell BX10.out 1).trans rfl), ((blk_cell BX10.out 2).trans rfl), ((blk_cell BX10.out 3).trans rfl), ((blk_cell BX10.out 4).trans rfl), ((blk_cell BY10.out 0).trans rfl), ((blk_cell BY10.out 1).trans rfl), ((blk_cell BY10.out 2).trans rfl), ((blk_cell BY10.out 3).trans rfl), ((blk_cell BY10.out 4).trans rfl)⟩ (fun hHeld => ?_)
  clear hK K
  refine norm_ (a' := ?_) ?_ ?_
  rotate_left
  ·show Act.put _ (some 45) _ = _
   simp only [Act.put, List.setIfInBounds_toArray, List.set_cons_zero, List.set_cons_succ, i64_w, i32_w]
   rfl
  refine pure_ (i := 1) (N := some 46) (v := ?_) (a' := ?_) #[true, true, false, false, false, false, false, false, false, false, false, false, false, false, false, false, false, false, false, false, false, false, false, false, false, false] rfl rfl (by kernel_rfl) (fun _ _ _ h => h) (Or.inl ⟨by rfl, ?_⟩) ?_ ?_
  rotate_left
  ·intro w'
   go_simp
   with_reducible rfl
  rotate_left
  ·simp only [Act.put, List.setIfInBounds_toArray, List.set_cons_zero, List.set_cons_succ, i64_w, i32_w]
   rfl
  refine pure_ (i := 2) (N := some 47) (v := ?_) (a' := ?_) #[true, true, true, false, false, false, false, false, false, false, false, false, false, false, false, false, false, false, false, false, false, false, false, false, false, false] rfl rfl (by kernel_rfl) (fun _ _ _ h => h) (Or.inl ⟨by rfl, ?_⟩) ?_ ?_
  rotate_left
  ·intro w'
   go_simp
   with_reducible rfl
  rotate_left
  ·simp only [Act.put, List.setIfInBounds_toArray, List.set_cons_zero, List.set_cons_succ, i64_w, i32_w]
   rfl
  refine pure_ (i := 3) (N := some 48) (v := ?_) (a' := ?_) #[true, true, true, true, false, false, false, false, false, false, false, false, false, false, false, false, false, false, false, false, false, false, false, false, false, false] rfl rfl (by kernel_rfl) (fun _ _ _ h => h) (Or.inl ⟨by rfl, ?_⟩) ?_ ?_
  rotate_left
  ·intro w'
   go_simp
   with_reducible rfl
  rotate_left
  ·simp only [Act.put, List.setIfInBounds_toArray, List.set_cons_zero, List.set_cons_succ, i64_w, i32_w]
   rfl
  refine pure_ (i := 4) (N := some 49) (v := ?_) (a' := ?_) #[true, true, true, true, true, false, false, false, false, false, false, false, false, false, false, false, false, false, false, false, false, false, false, false, false, false] rfl rfl (by kernel_rfl) (fun _ _ _ h => h) (Or.inl ⟨by rfl, ?_⟩) ?_ ?_
  rotate_left
  ·intro w'
   go_simp
   with_reducible rfl
  rotate_left
  ·simp only [Act.put, List.setIfInBounds_toArray, List.set_cons_zero, List.set_cons_succ, i64_w, i32_w]
   rfl
  refine pure_ (i := 5) (N := some 50) (v := ?_) (a' := ?_) #[true, true, true, true, true, true, false, false, false, false, false, false, false, false, false, false, false, false, false, false, false, false, false, false, false, false] rfl rfl (by kernel_rfl) (fun _ _ _ h => h) (Or.inl ⟨by rfl, ?_⟩) ?_ ?_
  rotate_left
  ·intro w'
   go_simp
   with_reducible rfl
  rotate_left
  ·simp only [Act.put, List.setIfInBounds_toArray, List.set_cons_zero, List.set_cons_succ, i64_w, i32_w]
   rfl
  refine pure_ (i := 6) (N := some 51) (v := ?_) (a' := ?_) #[true, true, true, true, true, true, true, false, false, false, false, false, false, false, false, false, false, false, false, false, false, false, false, false, false, false] rfl rfl (by kernel_rfl) (fun _ _ _ h => h) (Or.inl ⟨by rfl, ?_⟩) ?_ ?_
  rotate_left
  ·intro w'
   go_simp
   with_reducible rfl
  rotate_left
  ·simp only [Act.put, List.setIfInBounds_toArray, List.set_cons_zero, List.set_cons_succ, i64_w, i32_w]
   rfl
  refine take_ (i := 7) (N := some 52) (v := ?_) (a' := ?_) #[true, true, true, true, true, true, true, true, false, false, false, false, false, false, false, false, false, false, false, false, false, false, false, false, false, false] rfl rfl (by kernel_rfl) (fun _ _ _ h => h) (Or.inl ⟨by rfl, ?_⟩) hHeld ?_ ?_
  rotate_left
  ·rintro w' ⟨s0, s1, s2, s3, s4, s5, s6, s7, s8, s9, s10, s11, s12, s13, s14, s15, s16, s17, s18, s19⟩
   go_simp
   with_reducible rfl
  rotate_left
  ·simp only [Act.put, List.setIfInBounds_toArray, List.set_cons_zero, List.set_cons_succ, i64_w, i32_w]
   rfl
  refine take_ (i := 8) (N := some 53) (v := ?_) (a' := ?_) #[true, true, true, true, true, true, true, true, true, false, false, false, false, false, false, false, false, false, false, false, false, false, false, false, false, false] rfl rfl (by kernel_rfl) (fun _ _ _ h => h) (Or.inl ⟨by rfl, ?_⟩) hHeld ?_ ?_
  rotate_left
  ·rintro w' ⟨s0, s1, s2, s3, s4, s5, s6, s7, s8, s9, s10, s11, s12, s13, s14, s15, s16, s17, s18, s19⟩
   go_simp
   with_reducible rfl
  rotate_left
  ·simp only [Act.put, List.setIfInBounds_toArray, List.set_cons_zero, List.set_cons_succ, i64_w, i32_w]
   rfl
  refine one_ (i := 9) (N := some 54) #[true, true, true, true, true, true, true, true, true, true, false, false, false, false, false, false, false, false, false, false, false, false, false, false, false, false] rfl rfl (by kernel_rfl) (by decide) (fun K hK => ?_)
  refine goes_ Tryz.func11 (by kernel_rfl) rfl #[.agg #[.int .i64 X.f0, .int .i64 X.f1, .string X.f2, .slice B3 X.f3.length p3, .slice B4 X.f4.length p4], .agg #[.int .i64 X.f0, .int .i64 X.f1, .string X.f2, .slice D3 X.f3.length s3, .slice D4 X.f4.length s4]] (by rfl) rfl rfl (by first | (simp only [List.map_toArray, List.map_cons, List.map_nil]; done) | (simp only [List.map_toArray, List.map_cons, List.map_nil]; rfl)) ?_
  with_reducible refine ((HXY.out _ HE10.out)).mono ?_
  rintro e w11 ⟨rfl, hb11⟩
  refine ⟨_, rfl, ?_⟩
  have BV11 := Aside0.mk (blk_below BV10.out hb11)
  have BU11 := Aside0.mk (blk_below BU10.out hb11)
  have BX11 := Aside0.mk (blk_below BX10.out hb11)
  have BY11 := Aside0.mk (blk_below BY10.out hb11)
  have HE11 := Aside0.mk (below_then HE10.out HE10.out.size hb11)
  clear hb11
  refine hK.out _ _ ⟨((blk_cell BV11.out 0).trans rfl), ((blk_cell BV11.out 1).trans rfl), ((blk_cell BV11.out 2).trans rfl), ((blk_cell BV11.out 3).trans rfl), ((blk_cell BV11.out 4).trans rfl), ((blk_cell BU11.out 0).trans rfl), ((blk_cell BU11.out 1).trans rfl), ((blk_cell BU11.out 2).trans rfl), ((blk_cell BU11.out 3).trans rfl), ((blk_cell BU11.out 4).trans rfl), ((blk_cell BX11.out 0).trans rfl), ((blk_cell BX11.out 1).trans rfl), ((blk_cell BX11.out 2).trans rfl), ((blk_cell BX11.out 3).trans rfl), ((blk_cell BX11.out 4).trans rfl), ((blk_cell BY11.out 0).trans rfl), ((blk_cell BY11.out 1).trans rfl), ((blk_cell BY11.out 2).trans rfl), ((blk_cell BY11.out 3).trans rfl), ((blk_cell BY11.out 4).trans rfl)⟩ (fun hHeld => ?_)
  clear hK K
  refine norm_ (a' := ?_) ?_ ?_
  rotate_left
  ·show Act.put _ (some 54) _ = _
   simp only [Act.put, List.setIfInBounds_toArray, List.set_cons_zero, List.set_cons_succ, i64_w, i32_w]
   rfl
  refine pure_ (i := 10) (N := some 55) (v := ?_) (a' := ?_) #[true, true, true, true, true, true, true, true, true, true, true, false, false, false, false, false, false, false, false, false, false, false, false, false, false, false] rfl rfl (by kernel_rfl) (fun _ _ _ h => h) (Or.inl ⟨by rfl, ?_⟩) ?_ ?_
  rotate_left
  ·intro w'
   go_simp
   with_reducible rfl
  rotate_left
  ·simp only [Act.put, List.setIfInBounds_toArray, List.set_cons_zero, List.set_cons_succ, i64_w, i32_w]
   rfl
  refine pure_ (i := 11) (N := some 56) (v := ?_) (a' := ?_) #[true, true, true, true, true, true, true, true, true, true, true, true, false, false, false, false, false, false, false, false, false, false, false, false, false, false] rfl rfl (by kernel_rfl) (fun _ _ _ h => h) (Or.inl ⟨by rfl, ?_⟩) ?_ ?_
  rotate_left
  ·intro w'
   go_simp
   with_reducible rfl
  rotate_left
  ·simp only [Act.put, List.setIfInBounds_toArray, List.set_cons_zero, List.set_cons_succ, i64_w, i32_w]
   rfl
  refine take_ (i := 12) (N := some 57) (v := ?_) (a' := ?_) #[true, true, true, true, true, true, true, true, true, true, true, true, true, false, false, false, false, false, false, false, false, false, false, false, false, false] rfl rfl (by kernel_rfl) (fun _ _ _ h => h) (Or.inl ⟨by rfl, ?_⟩) hHeld ?_ ?_
  rotate_left
  ·rintro w' ⟨s0, s1, s2, s3, s4, s5, s6, s7, s8, s9, s10, s11, s12, s13, s14, s15, s16, s17, s18, s19⟩
   go_simp
   with_reducible rfl
  rotate_left
  ·simp only [Act.put, List.setIfInBounds_toArray, List.set_cons_zero, List.set_cons_succ, i64_w, i32_w]
   rfl
  refine take_ (i := 13) (N := some 58) (v := ?_) (a' := ?_) #[true, true, true, true, true, true, true, true, true, true, true, true, true, true, false, false, false, false, false, false, false, false, false, false, false, false] rfl rfl (by kernel_rfl) (fun _ _ _ h => h) (Or.inl ⟨by rfl, ?_⟩) hHeld ?_ ?_
  rotate_left
  ·rintro w' ⟨s0, s1, s2, s3, s4, s5, s6, s7, s8, s9, s10, s11, s12, s13, s14, s15, s16, s17, s18, s19⟩
   go_simp
   with_reducible rfl
  rotate_left
  ·simp only [Act.put, List.setIfInBounds_toArray, List.set_cons_zero, List.set_cons_succ, i64_w, i32_w]
   rfl
  refine take_ (i := 15) (N := some 60) (v := ?_) (a' := ?_) #[true, true, true, true, true, true, true, true, true, true, true, true, true, true, false, true, false, false, false, false, false, false, false, false, false, false] rfl rfl (by kernel_rfl) (fun _ _ _ h => h) (Or.inl ⟨by rfl, ?_⟩) hHeld ?_ ?_
  rotate_left
  ·rintro w' ⟨s0, s1, s2, s3, s4, s5, s6, s7, s8, s9, s10, s11, s12, s13, s14, s15, s16, s17, s18, s19⟩
   go_simp
   with_reducible rfl
  rotate_left
  ·simp only [Act.put, List.setIfInBounds_toArray, List.set_cons_zero, List.set_cons_succ, i64_w, i32_w]
   rfl
  refine take_ (i := 16) (N := some 61) (v := ?_) (a' := ?_) #[true, true, true, true, true, true, true, true, true, true, true, true, true, true, false, true, true, false, false, false, false, false, false, false, false, false] rfl rfl (by kernel_rfl) (fun _ _ _ h => h) (Or.inl ⟨by rfl, ?_⟩) hHeld ?_ ?_
  rotate_left
  ·rintro w' ⟨s0, s1, s2, s3, s4, s5, s6, s7, s8, s9, s10, s11, s12, s13, s14, s15, s16, s17, s18, s19⟩
   go_simp
   with_reducible rfl
  rotate_left
  ·simp only [Act.put, List.setIfInBounds_toArray, List.set_cons_zero, List.set_cons_succ, i64_w, i32_w]
   rfl
  refine one_ (i := 14) (N := some 59) #[true, true, true, true, true, true, true, true, true, true, true, true, true, true, true, true, true, false, false, false, false, false, false, false, false, false] rfl rfl (by kernel_rfl) (by decide) (fun K hK => ?_)
  refine goes_ Tryz.func21 (by kernel_rfl) rfl #[.agg #[.int .i64 v.f0, .int .i64 v.f1, .string v.f2, .slice A3 v.f3.length q3, .slice A4 v.f4.length q4], .agg #[.int .i64 u.f0, .int .i64 u.f1, .string u.f2, .slice E3 u.f3.length r3, .slice E4 u.f4.length r4]] (by rfl) rfl rfl (by first | (simp only [List.map_toArray, List.map_cons, List.map_nil]; done) | (simp only [List.map_toArray, List.map_cons, List.map_nil]; rfl)) ?_
  with_reducible refine ((HJU.out _ HE11.out)).mono ?_
  rintro e w12 ⟨rfl, hb12⟩
  refine ⟨_, rfl, ?_⟩
  have BV12 := Aside0.mk (blk_below BV11.out hb12)
  have BU12 := Aside0.mk (blk_below BU11.out hb12)
  have BX12 := Aside0.mk (blk_below BX11.out hb12)
  have BY12 := Aside0.mk (blk_below BY11.out hb12)
  have HE12 := Aside0.mk (below_then HE11.out HE11.out.size hb12)
  clear hb12
  refine hK.out _ _ ⟨((blk_cell BV12.out 0).trans rfl), ((blk_cell BV12.out 1).trans rfl), ((blk_cell BV12.out 2).trans rfl), ((blk_cell BV12.out 3).trans rfl), ((blk_cell BV12.out 4).trans rfl), ((blk_cell BU12.out 0).trans rfl), ((blk_cell BU12.out 1).trans rfl), ((blk_cell BU12.out 2).trans rfl), ((blk_cell BU12.out 3).trans rfl), ((blk_cell BU12.out 4).trans rfl), ((blk_cell BX12.out 0).trans rfl), ((blk_cell BX12.out 1).trans rfl), ((blk_cell BX12.out 2).trans rfl), ((blk_cell BX12.out 3).trans rfl), ((blk_cell BX12.out 4).trans rfl), ((blk_cell BY12.out 0).trans rfl), ((blk_cell BY12.out 1).trans rfl), ((blk_cell BY12.out 2).trans rfl), ((blk_cell BY12.out 3).trans rfl), ((blk_cell BY12.out 4).trans rfl)⟩ (fun hHeld => ?_)
  clear hK K
  refine norm_ (a' := ?_) ?_ ?_
  rotate_left
  ·show Act.put _ (some 59) _ = _
   simp only [Act.put, List.setIfInBounds_toArray, List.set_cons_zero, List.set_cons_succ, i64_w, i32_w]
   rfl
  refine one_ (i := 17) (N := some 62) #[true, true, true, true, true, true, true, true, true, true, true, true, true, true, true, true, true, true, false, false, false, false, false, false, false, false] rfl rfl (by kernel_rfl) (by decide) (fun K hK => ?_)
  refine goes_ Tryz.func11 (by kernel_rfl) rfl #[.agg #[.int .i64 v.f0, .int .i64 v.f1, .string v.f2, .slice A3 v.f3.length q3, .slice A4 v.f4.length q4], .agg #[.int .i64 u.f0, .int .i64 u.f1, .string u.f2, .slice E3 u.f3.length r3, .slice E4 u.f4.length r4]] (by rfl) rfl rfl (by first | (simp only [List.map_toArray, List.map_cons, List.map_nil]; done) | (simp only [List.map_toArray, List.map_cons, List.map_nil]; rfl)) ?_
  with_reducible refine ((HRU.out _ HE12.out)).mono ?_
  rintro e w13 ⟨rfl, hb13⟩
  refine ⟨_, rfl, ?_⟩
  have BV13 := Aside0.mk (blk_below BV12.out hb13)
  have BU13 := Aside0.mk (blk_below BU12.out hb13)
  have BX13 := Aside0.mk (blk_below BX12.out hb13)
  have BY13 := Aside0.mk (blk_below BY12.out hb13)
  have HE13 := Aside0.mk (below_then HE12.out HE12.out.size hb13)
  clear hb13
  refine hK.out _ _ ⟨((blk_cell BV13.out 0).trans rfl), ((blk_cell BV13.out 1).trans rfl), ((blk_cell BV13.out 2).trans rfl), ((blk_cell BV13.out 3).trans rfl), ((blk_cell BV13.out 4).trans rfl), ((blk_cell BU13.out 0).trans rfl), ((blk_cell BU13.out 1).trans rfl), ((blk_cell BU13.out 2).trans rfl), ((blk_cell BU13.out 3).trans rfl), ((blk_cell BU13.out 4).trans rfl), ((blk_cell BX13.out 0).trans rfl), ((blk_cell BX13.out 1).trans rfl), ((blk_cell BX13.out 2).trans rfl), ((blk_cell BX13.out 3).trans rfl), ((blk_cell BX13.out 4).trans rfl), ((blk_cell BY13.out 0).trans rfl), ((blk_cell BY13.out 1).trans rfl), ((blk_cell BY13.out 2).trans rfl), ((blk_cell BY13.out 3).trans rfl), ((blk_cell BY13.out 4).trans rfl)⟩ (fun hHeld => ?_)
  clear hK K
  refine norm_ (a' := ?_) ?_ ?_
  rotate_left
  ·show Act.put _ (some 62) _ = _
   simp only [Act.put, List.setIfInBounds_toArray, List.set_cons_zero, List.set_cons_succ, i64_w, i32_w]
   rfl
  refine pure_ (i := 18) (N := some 63) (v := ?_) (a' := ?_) #[true, true, true, true, true, true, true, true, true, true, true, true, true, true, true, true, true, true, true, false, false, false, false, false, false, false] rfl rfl (by kernel_rfl) (fun _ _ _ h => h) (Or.inl ⟨by rfl, ?_⟩) ?_ ?_
  rotate_left
  ·intro w'
   go_simp
   with_reducible rfl
  rotate_left
  ·simp only [Act.put, List.setIfInBounds_toArray, List.set_cons_zero, List.set_cons_succ, i64_w, i32_w]
   rfl
  refine pure_ (i := 19) (N := some 64) (v := ?_) (a' := ?_) #[true, true, true, true, true, true, true, true, true, true, true, true, true, true, true, true, true, true, true, true, false, false, false, false, false, false] rfl rfl (by kernel_rfl) (fun _ _ _ h => h) (Or.inl ⟨by rfl, ?_⟩) ?_ ?_
  rotate_left
  ·intro w'
   go_simp
   with_reducible rfl
  rotate_left
  ·simp only [Act.put, List.setIfInBounds_toArray, List.set_cons_zero, List.set_cons_succ, i64_w, i32_w]
   rfl
  refine pure_ (i := 20) (N := some 65) (v := ?_) (a' := ?_) #[true, true, true, true, true, true, true, true, true, true, true, true, true, true, true, true, true, true, true, true, true, false, false, false, false, false] rfl rfl (by kernel_rfl) (fun _ _ _ h => h) (Or.inl ⟨by rfl, ?_⟩) ?_ ?_
  rotate_left
  ·intro w'
   go_simp
   with_reducible rfl
  rotate_left
  ·simp only [Act.put, List.setIfInBounds_toArray, List.set_cons_zero, List.set_cons_succ, i64_w, i32_w]
   rfl
  refine take_ (i := 21) (N := some 66) (v := ?_) (a' := ?_) #[true, true, true, true, true, true, true, true, true, true, true, true, true, true, true, true, true, true, true, true, true, true, false, false, false, false] rfl rfl (by kernel_rfl) (fun _ _ _ h => h) (Or.inl ⟨by rfl, ?_⟩) hHeld ?_ ?_
  rotate_left
  ·rintro w' ⟨s0, s1, s2, s3, s4, s5, s6, s7, s8, s9, s10, s11, s12, s13, s14, s15, s16, s17, s18, s19⟩
   go_simp
   with_reducible rfl
  rotate_left
  ·simp only [Act.put, List.setIfInBounds_toArray, List.set_cons_zero, List.set_cons_succ, i64_w, i32_w]
   rfl
  refine take_ (i := 22) (N := some 67) (v := ?_) (a' := ?_) #[true, true, true, true, true, true, true, true, true, true, true, true, true, true, true, true, true, true, true, true, true, true, true, false, false, false] rfl rfl (by kernel_rfl) (fun _ _ _ h => h) (Or.inl ⟨by rfl, ?_⟩) hHeld ?_ ?_
  rotate_left
  ·rintro w' ⟨s0, s1, s2, s3, s4, s5, s6, s7, s8, s9, s10, s11, s12, s13, s14, s15, s16, s17, s18, s19⟩
   go_simp
   with_reducible rfl
  rotate_left
  ·simp only [Act.put, List.setIfInBounds_toArray, List.set_cons_zero, List.set_cons_succ, i64_w, i32_w]
   rfl
  refine one_ (i := 23) (N := some 68) #[true, true, true, true, true, true, true, true, true, true, true, true, true, true, true, true, true, true, true, true, true, true, true, true, false, false] rfl rfl (by kernel_rfl) (by decide) (fun K hK => ?_)
  refine goes_ Tryz.func21 (by kernel_rfl) rfl #[.agg #[.int .i64 v.f0, .int .i64 v.f1, .string v.f2, .slice A3 v.f3.length q3, .slice A4 v.f4.length q4], .agg #[.int .i64 v.f0, .int .i64 v.f1, .string v.f2, .slice A3 v.f3.length q3, .slice A4 v.f4.length q4]] (by rfl) rfl rfl (by first | (simp only [List.map_toArray, List.map_cons, List.map_nil]; done) | (simp only [List.map_toArray, List.map_cons, List.map_nil]; rfl)) ?_
  with_reducible refine ((HJV.out _ HE13.out)).mono ?_
  rintro e w14 ⟨rfl, hb14⟩
  refine ⟨_, rfl, ?_⟩
  have BV14 := Aside0.mk (blk_below BV13.out hb14)
  have BU14 := Aside0.mk (blk_below BU13.out hb14)
  have BX14 := Aside0.mk (blk_below BX13.out hb14)
  have BY14 := Aside0.mk (blk_below BY13.out hb14)
  have HE14 := Aside0.mk (below_then HE13.out HE13.out.size hb14)
  clear hb14
  refine hK.out _ _ ⟨((blk_cell BV14.out 0).trans rfl), ((blk_cell BV14.out 1).trans rfl), ((blk_cell BV14.out 2).trans rfl), ((blk_cell BV14.out 3).trans rfl), ((blk_cell BV14.out 4).trans rfl), ((blk_cell BU14.out 0).trans rfl), ((blk_cell BU14.out 1).trans rfl), ((blk_cell BU14.out 2).trans rfl), ((blk_cell BU14.out 3).trans rfl), ((blk_cell BU14.out 4).trans rfl), ((blk_cell BX14.out 0).trans rfl), ((blk_cell BX14.out 1).trans rfl), ((blk_cell BX14.out 2).trans rfl), ((blk_cell BX14.out 3).trans rfl), ((blk_cell BX14.out 4).trans rfl), ((blk_cell BY14.out 0).trans rfl), ((blk_cell BY14.out 1).trans rfl), ((blk_cell BY14.out 2).trans rfl), ((blk_cell BY14.out 3).trans rfl), ((blk_cell BY14.out 4).trans rfl)⟩ (fun hHeld => ?_)
  clear hK K
  refine norm_ (a' := ?_) ?_ ?_
  rotate_left
  ·show Act.put _ (some 68) _ = _
   simp only [Act.put, List.setIfInBounds_toArray, List.set_cons_zero, List.set_cons_succ, i64_w, i32_w]
   rfl
  refine pure_ (i := 24) (N := some 69) (v := ?_) (a' := ?_) #[true, true, true, true, true, true, true, true, true, true, true, true, true, true, true, true, true, true, true, true, true, true, true, true, true, false] rfl rfl (by kernel_rfl) (fun _ _ _ h => h) (Or.inl ⟨by rfl, ?_⟩) ?_ ?_
  rotate_left
  ·intro w'
   go_simp
   with_reducible rfl
  rotate_left
  ·simp only [Act.put, List.setIfInBounds_toArray, List.set_cons_zero, List.set_cons_succ, i64_w, i32_w]
   rfl
  refine pure_ (i := 25) (N := some 6) (v := ?_) (a' := ?_) #[true, true, true, true, true, true, true, true, true, true, true, true, true, true, true, true, true, true, true, true, true, true, true, true, true, true] rfl rfl (by kernel_rfl) (fun _ _ _ h => h) (Or.inl ⟨by rfl, ?_⟩) ?_ ?_
  rotate_left
  ·intro w'
   go_simp
   with_reducible rfl
  rotate_left
  ·simp only [Act.put, List.setIfInBounds_toArray, List.set_cons_zero, List.set_cons_succ, i64_w, i32_w]
   rfl
  refine done_ (by kernel_rfl) ?_
  go_wp2
  go_ret
  exact ⟨rfl, below_then HD8.out HD8.out.size HE14.out⟩
 have dk : (v.f0 == 6) = true := beq_iff_eq.2 h6
 clear h6
 by_cases hln : v.f4.length = v.f3.length
 rotate_left
 ·have dl : ((v.f4.length : Int) != (v.f3.length : Int)) = true := bne_iff_ne.2 (by omega)
  clear hln
  go_wp2_with (rw [HW6.out])
  refine (HAN.out W6 HD6.out).mono ?_
  rintro e w7 ⟨rfl, hb7⟩
  have HD7 := Aside0.mk (below_then HD6.out HD6.out.size hb7)
  clear hb7
  go_wp2
  go_ret
  exact ⟨rfl, HD7.out⟩
 have HRF := Aside0.mk (HRF.out (fun _ => hln))
 have dl : ((v.f4.length : Int) != (v.f3.length : Int)) = false := bne_eq_false_iff_eq.2 (by omega)
 clear hln
 go_wp2_with (rw [HW6.out])
 clear m0 m1 m2 m3 m4
 have m0 := (blk_cell BV6.out 0).trans (rfl : _ = some (Value.int .i64 v.f0))
 have m1 := (blk_cell BV6.out 1).trans (rfl : _ = some (Value.int .i64 v.f1))
 have m2 := (blk_cell BV6.out 2).trans (rfl : _ = some (Value.string v.f2))
 have m3 := (blk_cell BV6.out 3).trans (rfl : _ = some (Value.slice A3 v.f3.length q3))
 have m4 := (blk_cell BV6.out 4).trans (rfl : _ = some (Value.slice A4 v.f4.length q4))
 go_wp2_with fail
 refine (HRF.out W6 HD6.out).mono ?_
 rintro e w7 ⟨D3, s3, D4, s4, rfl, kd3, jd3, kd4, jd4, hb7⟩
 clear m0 m1 m2 m3 m4
 obtain ⟨W8, hW8⟩ : ∃ W, w7.alloc (.cells #[.int .i64 X.f0, .int .i64 X.f1, .string X.f2, .slice D3 X.f3.length s3, .slice D4 X.f4.length s4] 25) = W := ⟨_, rfl⟩
 have hb8 : Below w7.heap.size w7 W8 := by rw [← hW8]; exact below_alloc (Below.refl _ _) _
 have hb68 := below_then hb7 hb7.size hb8
 have BY8 := Aside0.mk (show W8.heap[w7.heap.size]? = some (.cells #[.int .i64 X.f0, .int .i64 X.f1, .string X.f2, .slice D3 X.f3.length s3, .slice D4 X.f4.length s4] 25 (0, 0)) by rw [← hW8]; exact blk_new _ _)
 have BV8 := Aside0.mk (blk_below BV6.out hb68)
 have BU8 := Aside0.mk (blk_below BU6.out hb68)
 have BX8 := Aside0.mk (blk_below BX6.out hb68)
 have HD8 := Aside0.mk (below_drew (below_then HD6.out HD6.out.size hb68))
 have HB3 := Aside0.mk (Kd.C_below HB36.out (below_drew hb68))
 have HB4 := Aside0.mk (Kd.C_below HB46.out (below_drew hb68))
 have HF3 := Aside0.mk (Kd.C_below jd3 (below_drew hb8))
 have HF4 := Aside0.mk (Kd.C_below jd4 (below_drew hb8))
 have KD3 := Aside0.mk kd3
 have KD4 := Aside0.mk kd4
 have HW8 := Aside0.mk hW8
 clear hW8 hb8 hb68 hb7 kd3 jd3 kd4 jd4
 have BV9 := Aside0.mk (blk_drew BV8.out)
 have BU9 := Aside0.mk (blk_drew BU8.out)
 have BX9 := Aside0.mk (blk_drew BX8.out)
 have BY9 := Aside0.mk (blk_drew BY8.out)
 have HE9 := Aside0.mk (Below.refl W8.drew.heap.size W8.drew)
 have HAN9 := Aside0.mk (fun (W : World) (hW : Below W8.drew.heap.size W8.drew W) => HAN.out W (below_then HD8.out HD8.out.size hW))
 have HXY := Aside0.mk (fun (W : World) (hW : Below W8.drew.heap.size W8.drew W) => (show Calls Tryz.prog 11 #[.agg #[.int .i64 X.f0, .int .i64 X.f1, .string X.f2, .slice B3 X.f3.length p3, .slice B4 X.f4.length p4], .agg #[.int .i64 X.f0, .int .i64 X.f1, .string X.f2, .slice D3 X.f3.length s3, .slice D4 X.f4.length s4]] W fun e w' => e = .returned (.bool true) ∧ Below W.heap.size W w' from by
  have hw := below_then HD8.out HD8.out.size hW
  have := rsame_calls 12 X X HLX.out B3 B4 D3 D4 p3 p4 s3 s4 W KB3.out (Kd.C_below HB3.out hW) KB4.out (Kd.C_below HB4.out hW) KD3.out (Kd.C_below HF3.out hW) KD4.out (Kd.C_below HF4.out hW)
  rw [eqB_true rfl] at this
  exact this))
 have HJU := Aside0.mk (fun (W : World) (hW : Below W8.drew.heap.size W8.drew W) => (show Calls Tryz.prog 21 #[.agg #[.int .i64 v.f0, .int .i64 v.f1, .string v.f2, .slice A3 v.f3.length q3, .slice A4 v.f4.length q4], .agg #[.int .i64 u.f0, .int .i64 u.f1, .string u.f2, .slice E3 u.f3.length r3, .slice E4 u.f4.length r4]] W fun e w' => e = .returned (.bool g) ∧ Below W.heap.size W w' from by
  have hw := below_then HD8.out HD8.out.size hW
  have := jsame_calls 12 v u HL.out A3 A4 E3 E4 q3 q4 r3 r4 W K3.out (Kd.C_below HC3.out hw) K4.out (Kd.C_below HC4.out hw) KE3.out (Kd.C_below HE3.out hw) KE4.out (Kd.C_below HE4.out hw)
  rw [HGE.out] at this
  exact this))
 have HRU := Aside0.mk (fun (W : World) (hW : Below W8.drew.heap.size W8.drew W) => (show Calls Tryz.prog 11 #[.agg #[.int .i64 v.f0, .int .i64 v.f1, .string v.f2, .slice A3 v.f3.length q3, .slice A4 v.f4.length q4], .agg #[.int .i64 u.f0, .int .i64 u.f1, .string u.f2, .slice E3 u.f3.length r3, .slice E4 u.f4.length r4]] W fun e w' => e = .returned (.bool g) ∧ Below W.heap.size W w' from by
  have hw := below_then HD8.out HD8.out.size hW
  have := rsame_calls 12 v u HL.out A3 A4 E3 E4 q3 q4 r3 r4 W K3.out (Kd.C_below HC3.out hw) K4.out (Kd.C_below HC4.out hw) KE3.out (Kd.C_below HE3.out hw) KE4.out (Kd.C_below HE4.out hw)
  rw [HGE.out] at this
  exact this))
 have HJV := Aside0.mk (fun (W : World) (hW : Below W8.drew.heap.size W8.drew W) => (show Calls Tryz.prog 21 #[.agg #[.int .i64 v.f0, .int .i64 v.f1, .string v.f2, .slice A3 v.f3.length q3, .slice A4 v.f4.length q4], .agg #[.int .i64 v.f0, .int .i64 v.f1, .string v.f2, .slice A3 v.f3.length q3, .slice A4 v.f4.length q4]] W fun e w' => e = .returned (.bool true) ∧ Below W.heap.size W w' from by
  have hw := below_then HD8.out HD8.out.size hW
  have := jsame_calls 12 v v HL.out A3 A4 A3 A4 q3 q4 q3 q4 W K3.out (Kd.C_below HC3.out hw) K4.out (Kd.C_below HC4.out hw) K3.out (Kd.C_below HC3.out hw) K4.out (Kd.C_below HC4.out hw)
  rw [eqB_true rfl] at this
  exact this))
 go_wp2_with (rw [HW8.out])
 refine start_ (n := 26) (S := fun w' => w'.cell? ⟨w.heap.size, 0, none⟩ = some (Value.int .i64 v.f0) ∧ w'.cell? ⟨w.heap.size, 1, none⟩ = some (Value.int .i64 v.f1) ∧ w'.cell? ⟨w.heap.size, 2, none⟩ = some (Value.string v.f2) ∧ w'.cell? ⟨w.heap.size, 3, none⟩ = some (Value.slice A3 v.f3.length q3) ∧ w'.cell? ⟨w.heap.size, 4, none⟩ = some (Value.slice A4 v.f4.length q4) ∧ w'.cell? ⟨w.heap.size + 1, 0, none⟩ = some (Value.int .i64 u.f0) ∧ w'.cell? ⟨w.heap.size + 1, 1, none⟩ = some (Value.int .i64 u.f1) ∧ w'.cell? ⟨w.heap.size + 1, 2, none⟩ = some (Value.string u.f2) ∧ w'.cell? ⟨w.heap.size + 1, 3, none⟩ = some (Value.slice E3 u.f3.length r3) ∧ w'.cell? ⟨w.heap.size + 1, 4, none⟩ = some (Value.slice E4 u.f4.length r4) ∧ w'.cell? ⟨w5.heap.size, 0, none⟩ = some (Value.int .i64 X.f0) ∧ w'.cell? ⟨w5.heap.size, 1, none⟩ = some (Value.int .i64 X.f1) ∧ w'.cell? ⟨w5.heap.size, 2, none⟩ = some (Value.string X.f2) ∧ w'.cell? ⟨w5.heap.size, 3, none⟩ = some (Value.slice B3 X.f3.length p3) ∧ w'.cell? ⟨w5.heap.size, 4, none⟩ = some (Value.slice B4 X.f4.length p4) ∧ w'.cell? ⟨w7.heap.size, 0, none⟩ = some (Value.int .i64 X.f0) ∧ w'.cell? ⟨w7.heap.size, 1, none⟩ = some (Value.int .i64 X.f1) ∧ w'.cell? ⟨w7.heap.size, 2, none⟩ = some (Value.string X.f2) ∧ w'.cell? ⟨w7.heap.size, 3, none⟩ = some (Value.slice D3 X.f3.length s3) ∧ w'.cell? ⟨w7.heap.size, 4, none⟩ = some (Value.slice D4 X.f4.length s4)) (ds := []) #[false, false, false, false, false, false, false, false, false, false, false, false, false, false, false, false, false, false, false, false, false, false, false, false, false, false] (by kernel_rfl) rfl rfl ⟨((blk_cell BV9.out 0).trans rfl), ((blk_cell BV9.out 1).trans rfl), ((blk_cell BV9.out 2).trans rfl), ((blk_cell BV9.out 3).trans rfl), ((blk_cell BV9.out 4).trans rfl), ((blk_cell BU9.out 0).trans rfl), ((blk_cell BU9.out 1).trans rfl), ((blk_cell BU9.out 2).trans rfl), ((blk_cell BU9.out 3).trans rfl), ((blk_cell BU9.out 4).trans rfl), ((blk_cell BX9.out 0).trans rfl), ((blk_cell BX9.out 1).trans rfl), ((blk_cell BX9.out 2).trans rfl), ((blk_cell BX9.out 3).trans rfl), ((blk_cell BX9.out 4).trans rfl), ((blk_cell BY9.out 0).trans rfl), ((blk_cell BY9.out 1).trans rfl), ((blk_cell BY9.out 2).trans rfl), ((blk_cell BY9.out 3).trans rfl), ((blk_cell BY9.out 4).trans rfl)⟩ (fun hHeld => ?_)
 refine one_ (i := 0) (N := some 45) #[true, false, false, false, false, false, false, false, false, false, false, false, false, false, false, false, false, false, false, false, false, false, false, false, false, false] rfl rfl (by kernel_rfl) (by decide) (fun K hK => ?_)
 refine goes_ Tryz.func12 (by kernel_rfl) rfl #[] (by rfl) rfl rfl (by first | (simp only [List.map_toArray, List.map_cons, List.map_nil]; done) | (simp only [List.map_toArray, List.map_cons, List.map_nil]; rfl)) ?_
 with_reducible refine ((HAN9.out _ HE9.out)).mono ?_
 rintro e w10 ⟨rfl, hb10⟩
 refine ⟨_, rfl, ?_⟩
 have BV10 := Aside0.mk (blk_below BV9.out hb10)
 have BU10 := Aside0.mk (blk_below BU9.out hb10)
 have BX10 := Aside0.mk (blk_below BX9.out hb10)
 have BY10 := Aside0.mk (blk_below BY9.out hb10)
 have HE10 := Aside0.mk (below_then HE9.out HE9.out.size hb10)
 clear hb10
 refine hK.out _ _ ⟨((blk_cell BV10.out 0).trans rfl), ((blk_cell BV10.out 1).trans rfl), ((blk_cell BV10.out 2).trans rfl), ((blk_cell BV10.out 3).trans rfl), ((blk_cell BV10.out 4).trans rfl), ((blk_cell BU10.out 0).trans rfl), ((blk_cell BU10.out 1).trans rfl), ((blk_cell BU10.out 2).trans rfl), ((blk_cell BU10.out 3).trans rfl), ((blk_cell BU10.out 4).trans rfl), ((blk_cell BX10.out 0).trans rfl), ((blk_cell BX10.out 1).trans rfl), ((blk_cell BX10.out 2).trans rfl), ((blk_cell BX10.out 3).trans rfl), ((blk_cell BX10.out 4).trans rfl), ((blk_cell BY10.out 0).trans rfl), ((blk_cell BY10.out 1).trans rfl), ((blk_cell BY10.out 2).trans rfl), ((blk_cell BY10.out 3).trans rfl), ((blk_cell BY10.out 4).trans rfl)⟩ (fun hHeld => ?_)
 clear hK K
 refine norm_ (a' := ?_) ?_ ?_
 rotate_left
 ·show Act.put _ (some 45) _ = _
  simp only [Act.put, List.setIfInBounds_toArray, List.set_cons_zero, List.set_cons_succ, i64_w, i32_w]
  rfl
 refine pure_ (i := 1) (N := some 46) (v := ?_) (a' := ?_) #[true, true, false, false, false, false, false, false, false, false, false, false, false, false, false, false, false, false, false, false, false, false, false, false, false, false] rfl rfl (by kernel_rfl) (fun _ _ _ h => h) (Or.inl ⟨by rfl, ?_⟩) ?_ ?_
 rotate_left
 ·intro w'
  go_simp
  with_reducible rfl
 rotate_left
 ·simp only [Act.put, List.setIfInBounds_toArray, List.set_cons_zero, List.set_cons_succ, i64_w, i32_w]
  rfl
 refine pure_ (i := 2) (N := some 47) (v := ?_) (a' := ?_) #[true, true, true, false, false, false, false, false, false, false, false, false, false, false, false, false, false, false, false, false, false, false, false, false, false, false] rfl rfl (by kernel_rfl) (fun _ _ _ h => h) (Or.inl ⟨by rfl, ?_⟩) ?_ ?_
 rotate_left
 ·intro w'
  go_simp
  with_reducible rfl
 rotate_left
 ·simp only [Act.put, List.setIfInBounds_toArray, List.set_cons_zero, List.set_cons_succ, i64_w, i32_w]
  rfl
 refine pure_ (i := 3) (N := some 48) (v := ?_) (a' := ?_) #[true, true, true, true, false, false, false, false, false, false, false, false, false, false, false, false, false, false, false, false, false, false, false, false, false, false] rfl rfl (by kernel_rfl) (fun _ _ _ h => h) (Or.inl ⟨by rfl, ?_⟩) ?_ ?_
 rotate_left
 ·intro w'
  go_simp
  with_reducible rfl
 rotate_left
 ·simp only [Act.put, List.setIfInBounds_toArray, List.set_cons_zero, List.set_cons_succ, i64_w, i32_w]
  rfl
 refine pure_ (i := 4) (N := some 49) (v := ?_) (a' := ?_) #[true, true, true, true, true, false, false, false, false, false, false, false, false, false, false, false, false, false, false, false, false, false, false, false, false, false] rfl rfl (by kernel_rfl) (fun _ _ _ h => h) (Or.inl ⟨by rfl, ?_⟩) ?_ ?_
 rotate_left
 ·intro w'
  go_simp
  with_reducible rfl
 rotate_left
 ·simp only [Act.put, List.setIfInBounds_toArray, List.set_cons_zero, List.set_cons_succ, i64_w, i32_w]
  rfl
 refine pure_ (i := 5) (N := some 50) (v := ?_) (a' := ?_) #[true, true, true, true, true, true, false, false, false, false, false, false, false, false, false, false, false, false, false, false, false, false, false, false, false, false] rfl rfl (by kernel_rfl) (fun _ _ _ h => h) (Or.inl ⟨by rfl, ?_⟩) ?_ ?_
 rotate_left
 ·intro w'
  go_simp
  with_reducible rfl
 rotate_left
 ·simp only [Act.put, List.setIfInBounds_toArray, List.set_cons_zero, List.set_cons_succ, i64_w, i32_w]
  rfl
 refine pure_ (i := 6) (N := some 51) (v := ?_) (a' := ?_) #[true, true, true, true, true, true, true, false, false, false, false, false, false, false, false, false, false, false, false, false, false, false, false, false, false, false] rfl rfl (by kernel_rfl) (fun _ _ _ h => h) (Or.inl ⟨by rfl, ?_⟩) ?_ ?_
 rotate_left
 ·intro w'
  go_simp
  with_reducible rfl
 rotate_left
 ·simp only [Act.put, List.setIfInBounds_toArray, List.set_cons_zero, List.set_cons_succ, i64_w, i32_w]
  rfl
 refine take_ (i := 7) (N := some 52) (v := ?_) (a' := ?_) #[true, true, true, true, true, true, true, true, false, false, false, false, false, false, false, false, false, false, false, false, false, false, false, false, false, false] rfl rfl (by kernel_rfl) (fun _ _ _ h => h) (Or.inl ⟨by rfl, ?_⟩) hHeld ?_ ?_
 rotate_left
 ·rintro w' ⟨s0, s1, s2, s3, s4, s5, s6, s7, s8, s9, s10, s11, s12, s13, s14, s15, s16, s17, s18, s19⟩
  go_simp
  with_reducible rfl
 rotate_left
 ·simp only [Act.put, List.setIfInBounds_toArray, List.set_cons_zero, List.set_cons_succ, i64_w, i32_w]
  rfl
 refine take_ (i := 8) (N := some 53) (v := ?_) (a' := ?_) #[true, true, true, true, true, true, true, true, true, false, false, false, false, false, false, false, false, false, false, false, false, false, false, false, false, false] rfl rfl (by kernel_rfl) (fun _ _ _ h => h) (Or.inl ⟨by rfl, ?_⟩) hHeld ?_ ?_
 rotate_left
 ·rintro w' ⟨s0, s1, s2, s3, s4, s5, s6, s7, s8, s9, s10, s11, s12, s13, s14, s15, s16, s17, s18, s19⟩
  go_simp
  with_reducible rfl
 rotate_left
 ·simp only [Act.put, List.setIfInBounds_toArray, List.set_cons_zero, List.set_cons_succ, i64_w, i32_w]
  rfl
 refine one_ (i := 9) (N := some 54) #[true, true, true, true, true, true, true, true, true, true, false, false, false, false, false, false, false, false, false, false, false, false, false, false, false, false] rfl rfl (by kernel_rfl) (by decide) (fun K hK => ?_)
 refine goes_ Tryz.func11 (by kernel_rfl) rfl #[.agg #[.int .i64 X.f0, .int .i64 X.f1, .string X.f2, .slice B3 X.f3.length p3, .slice B4 X.f4.length p4], .agg #[.int .i64 X.f0, .int .i64 X.f1, .string X.f2, .slice D3 X.f3.length s3, .slice D4 X.f4.length s4]] (by rfl) rfl rfl (by first | (simp only [List.map_toArray, List.map_cons, List.map_nil]; done) | (simp only [List.map_toArray, List.map_cons, List.map_nil]; rfl)) ?_
 with_reducible refine ((HXY.out _ HE10.out)).mono ?_
 rintro e w11 ⟨rfl, hb11⟩
 refine ⟨_, rfl, ?_⟩
 have BV11 := Aside0.mk (blk_below BV10.out hb11)
 have BU11 := Aside0.mk (blk_below BU10.out hb11)
 have BX11 := Aside0.mk (blk_below BX10.out hb11)
 have BY11 := Aside0.mk (blk_below BY10.out hb11)
 have HE11 := Aside0.mk (below_then HE10.out HE10.out.size hb11)
 clear hb11
 refine hK.out _ _ ⟨((blk_cell BV11.out 0).trans rfl), ((blk_cell BV11.out 1).trans rfl), ((blk_cell BV11.out 2).trans rfl), ((blk_cell BV11.out 3).trans rfl), ((blk_cell BV11.out 4).trans rfl), ((blk_cell BU11.out 0).trans rfl), ((blk_cell BU11.out 1).trans rfl), ((blk_cell BU11.out 2).trans rfl), ((blk_cell BU11.out 3).trans rfl), ((blk_cell BU11.out 4).trans rfl), ((blk_cell BX11.out 0).trans rfl), ((blk_cell BX11.out 1).trans rfl), ((blk_cell BX11.out 2).trans rfl), ((blk_cell BX11.out 3).trans rfl), ((blk_cell BX11.out 4).trans rfl), ((blk_cell BY11.out 0).trans rfl), ((blk_cell BY11.out 1).trans rfl), ((blk_cell BY11.out 2).trans rfl), ((blk_cell BY11.out 3).trans rfl), ((blk_cell BY11.out 4).trans rfl)⟩ (fun hHeld => ?_)
 clear hK K
 refine norm_ (a' := ?_) ?_ ?_
 rotate_left
 ·show Act.put _ (some 54) _ = _
  simp only [Act.put, List.setIfInBounds_toArray, List.set_cons_zero, List.set_cons_succ, i64_w, i32_w]
  rfl
 refine pure_ (i := 10) (N := some 55) (v := ?_) (a' := ?_) #[true, true, true, true, true, true, true, true, true, true, true, false, false, false, false, false, false, false, false, false, false, false, false, false, false, false] rfl rfl (by kernel_rfl) (fun _ _ _ h => h) (Or.inl ⟨by rfl, ?_⟩) ?_ ?_
 rotate_left
 ·intro w'
  go_simp
  with_reducible rfl
 rotate_left
 ·simp only [Act.put, List.setIfInBounds_toArray, List.set_cons_zero, List.set_cons_succ, i64_w, i32_w]
  rfl
 refine pure_ (i := 11) (N := some 56) (v := ?_) (a' := ?_) #[true, true, true, true, true, true, true, true, true, true, true, true, false, false, false, false, false, false, false, false, false, false, false, false, false, false] rfl rfl (by kernel_rfl) (fun _ _ _ h => h) (Or.inl ⟨by rfl, ?_⟩) ?_ ?_
 rotate_left
 ·intro w'
  go_simp
  with_reducible rfl
 rotate_left
 ·simp only [Act.put, List.setIfInBounds_toArray, List.set_cons_zero, List.set_cons_succ, i64_w, i32_w]
  rfl
 refine take_ (i := 12) (N := some 57) (v := ?_) (a' := ?_) #[true, true, true, true, true, true, true, true, true, true, true, true, true, false, false, false, false, false, false, false, false, false, false, false, false, false] rfl rfl (by kernel_rfl) (fun _ _ _ h => h) (Or.inl ⟨by rfl, ?_⟩) hHeld ?_ ?_
 rotate_left
 ·rintro w' ⟨s0, s1, s2, s3, s4, s5, s6, s7, s8, s9, s10, s11, s12, s13, s14, s15, s16, s17, s18, s19⟩
  go_simp
  with_reducible rfl
 rotate_left
 ·simp only [Act.put, List.setIfInBounds_toArray, List.set_cons_zero, List.set_cons_succ, i64_w, i32_w]
  rfl
 refine take_ (i := 13) (N := some 58) (v := ?_) (a' := ?_) #[true, true, true, true, true, true, true, true, true, true, true, true, true, true, false, false, false, false, false, false, false, false, false, false, false, false] rfl rfl (by kernel_rfl) (fun _ _ _ h => h) (Or.inl ⟨by rfl, ?_⟩) hHeld ?_ ?_
 rotate_left
 ·rintro w' ⟨s0, s1, s2, s3, s4, s5, s6, s7, s8, s9, s10, s11, s12, s13, s14, s15, s16, s17, s18, s19⟩
  go_simp
  with_reducible rfl
 rotate_left
 ·simp only [Act.put, List.setIfInBounds_toArray, List.set_cons_zero, List.set_cons_succ, i64_w, i32_w]
  rfl
 refine take_ (i := 15) (N := some 60) (v := ?_) (a' := ?_) #[true, true, true, true, true, true, true, true, true, true, true, true, true, true, false, true, false, false, false, false, false, false, false, false, false, false] rfl rfl (by kernel_rfl) (fun _ _ _ h => h) (Or.inl ⟨by rfl, ?_⟩) hHeld ?_ ?_
 rotate_left
 ·rintro w' ⟨s0, s1, s2, s3, s4, s5, s6, s7, s8, s9, s10, s11, s12, s13, s14, s15, s16, s17, s18, s19⟩
  go_simp
  with_reducible rfl
 rotate_left
 ·simp only [Act.put, List.setIfInBounds_toArray, List.set_cons_zero, List.set_cons_succ, i64_w, i32_w]
  rfl
 refine take_ (i := 16) (N := some 61) (v := ?_) (a' := ?_) #[true, true, true, true, true, true, true, true, true, true, true, true, true, true, false, true, true, false, false, false, false, false, false, false, false, false] rfl rfl (by kernel_rfl) (fun _ _ _ h => h) (Or.inl ⟨by rfl, ?_⟩) hHeld ?_ ?_
 rotate_left
 ·rintro w' ⟨s0, s1, s2, s3, s4, s5, s6, s7, s8, s9, s10, s11, s12, s13, s14, s15, s16, s17, s18, s19⟩
  go_simp
  with_reducible rfl
 rotate_left
 ·simp only [Act.put, List.setIfInBounds_toArray, List.set_cons_zero, List.set_cons_succ, i64_w, i32_w]
  rfl
 refine one_ (i := 14) (N := some 59) #[true, true, true, true, true, true, true, true, true, true, true, true, true, true, true, true, true, false, false, false, false, false, false, false, false, false] rfl rfl (by kernel_rfl) (by decide) (fun K hK => ?_)
 refine goes_ Tryz.func21 (by kernel_rfl) rfl #[.agg #[.int .i64 v.f0, .int .i64 v.f1, .string v.f2, .slice A3 v.f3.length q3, .slice A4 v.f4.length q4], .agg #[.int .i64 u.f0, .int .i64 u.f1, .string u.f2, .slice E3 u.f3.length r3, .slice E4 u.f4.length r4]] (by rfl) rfl rfl (by first | (simp only [List.map_toArray, List.map_cons, List.map_nil]; done) | (simp only [List.map_toArray, List.map_cons, List.map_nil]; rfl)) ?_
 with_reducible refine ((HJU.out _ HE11.out)).mono ?_
 rintro e w12 ⟨rfl, hb12⟩
 refine ⟨_, rfl, ?_⟩
 have BV12 := Aside0.mk (blk_below BV11.out hb12)
 have BU12 := Aside0.mk (blk_below BU11.out hb12)
 have BX12 := Aside0.mk (blk_below BX11.out hb12)
 have BY12 := Aside0.mk (blk_below BY11.out hb12)
 have HE12 := Aside0.mk (below_then HE11.out HE11.out.size hb12)
 clear hb12
 refine hK.out _ _ ⟨((blk_cell BV12.out 0).trans rfl), ((blk_cell BV12.out 1).trans rfl), ((blk_cell BV12.out 2).trans rfl), ((blk_cell BV12.out 3).trans rfl), ((blk_cell BV12.out 4).trans rfl), ((blk_cell BU12.out 0).trans rfl), ((blk_cell BU12.out 1).trans rfl), ((blk_cell BU12.out 2).trans rfl), ((blk_cell BU12.out 3).trans rfl), ((blk_cell BU12.out 4).trans rfl), ((blk_cell BX12.out 0).trans rfl), ((blk_cell BX12.out 1).trans rfl), ((blk_cell BX12.out 2).trans rfl), ((blk_cell BX12.out 3).trans rfl), ((blk_cell BX12.out 4).trans rfl), ((blk_cell BY12.out 0).trans rfl), ((blk_cell BY12.out 1).trans rfl), ((blk_cell BY12.out 2).trans rfl), ((blk_cell BY12.out 3).trans rfl), ((blk_cell BY12.out 4).trans rfl)⟩ (fun hHeld => ?_)
 clear hK K
 refine norm_ (a' := ?_) ?_ ?_
 rotate_left
 ·show Act.put _ (some 59) _ = _
  simp only [Act.put, List.setIfInBounds_toArray, List.set_cons_zero, List.set_cons_succ, i64_w, i32_w]
  rfl
 refine one_ (i := 17) (N := some 62) #[true, true, true, true, true, true, true, true, true, true, true, true, true, true, true, true, true, true, false, false, false, false, false, false, false, false] rfl rfl (by kernel_rfl) (by decide) (fun K hK => ?_)
 refine goes_ Tryz.func11 (by kernel_rfl) rfl #[.agg #[.int .i64 v.f0, .int .i64 v.f1, .string v.f2, .slice A3 v.f3.length q3, .slice A4 v.f4.length q4], .agg #[.int .i64 u.f0, .int .i64 u.f1, .string u.f2, .slice E3 u.f3.length r3, .slice E4 u.f4.length r4]] (by rfl) rfl rfl (by first | (simp only [List.map_toArray, List.map_cons, List.map_nil]; done) | (simp only [List.map_toArray, List.map_cons, List.map_nil]; rfl)) ?_
 with_reducible refine ((HRU.out _ HE12.out)).mono ?_
 rintro e w13 ⟨rfl, hb13⟩
 refine ⟨_, rfl, ?_⟩
 have BV13 := Aside0.mk (blk_below BV12.out hb13)
 have BU13 := Aside0.mk (blk_below BU12.out hb13)
 have BX13 := Aside0.mk (blk_below BX12.out hb13)
 have BY13 := Aside0.mk (blk_below BY12.out hb13)
 have HE13 := Aside0.mk (below_then HE12.out HE12.out.size hb13)
 clear hb13
 refine hK.out _ _ ⟨((blk_cell BV13.out 0).trans rfl), ((blk_cell BV13.out 1).trans rfl), ((blk_cell BV13.out 2).trans rfl), ((blk_cell BV13.out 3).trans rfl), ((blk_cell BV13.out 4).trans rfl), ((blk_cell BU13.out 0).trans rfl), ((blk_cell BU13.out 1).trans rfl), ((blk_cell BU13.out 2).trans rfl), ((blk_cell BU13.out 3).trans rfl), ((blk_cell BU13.out 4).trans rfl), ((blk_cell BX13.out 0).trans rfl), ((blk_cell BX13.out 1).trans rfl), ((blk_cell BX13.out 2).trans rfl), ((blk_cell BX13.out 3).trans rfl), ((blk_cell BX13.out 4).trans rfl), ((blk_cell BY13.out 0).trans rfl), ((blk_cell BY13.out 1).trans rfl), ((blk_cell BY13.out 2).trans rfl), ((blk_cell BY13.out 3).trans rfl), ((blk_cell BY13.out 4).trans rfl)⟩ (fun hHeld => ?_)
 clear hK K
 refine norm_ (a' := ?_) ?_ ?_
 rotate_left
 ·show Act.put _ (some 62) _ = _
  simp only [Act.put, List.setIfInBounds_toArray, List.set_cons_zero, List.set_cons_succ, i64_w, i32_w]
  rfl
 refine pure_ (i := 18) (N := some 63) (v := ?_) (a' := ?_) #[true, true, true, true, true, true, true, true, true, true, true, true, true, true, true, true, true, true, true, false, false, false, false, false, false, false] rfl rfl (by kernel_rfl) (fun _ _ _ h => h) (Or.inl ⟨by rfl, ?_⟩) ?_ ?_
 rotate_left
 ·intro w'
  go_simp
  with_reducible rfl
 rotate_left
 ·simp only [Act.put, List.setIfInBounds_toArray, List.set_cons_zero, List.set_cons_succ, i64_w, i32_w]
  rfl
 refine pure_ (i := 19) (N := some 64) (v := ?_) (a' := ?_) #[true, true, true, true, true, true, true, true, true, true, true, true, true, true, true, true, true, true, true, true, false, false, false, false, false, false] rfl rfl (by kernel_rfl) (fun _ _ _ h => h) (Or.inl ⟨by rfl, ?_⟩) ?_ ?_
 rotate_left
 ·intro w'
  go_simp
  with_reducible rfl
 rotate_left
 ·simp only [Act.put, List.setIfInBounds_toArray, List.set_cons_zero, List.set_cons_succ, i64_w, i32_w]
  rfl
 refine pure_ (i := 20) (N := some 65) (v := ?_) (a' := ?_) #[true, true, true, true, true, true, true, true, true, true, true, true, true, true, true, true, true, true, true, true, true, false, false, false, false, false] rfl rfl (by kernel_rfl) (fun _ _ _ h => h) (Or.inl ⟨by rfl, ?_⟩) ?_ ?_
 rotate_left
 ·intro w'
  go_simp
  with_reducible rfl
 rotate_left
 ·simp only [Act.put, List.setIfInBounds_toArray, List.set_cons_zero, List.set_cons_succ, i64_w, i32_w]
  rfl
 refine take_ (i := 21) (N := some 66) (v := ?_) (a' := ?_) #[true, true, true, true, true, true, true, true, true, true, true, true, true, true, true, true, true, true, true, true, true, true, false, false, false, false] rfl rfl (by kernel_rfl) (fun _ _ _ h => h) (Or.inl ⟨by rfl, ?_⟩) hHeld ?_ ?_
 rotate_left
 ·rintro w' ⟨s0, s1, s2, s3, s4, s5, s6, s7, s8, s9, s10, s11, s12, s13, s14, s15, s16, s17, s18, s19⟩
  go_simp
  with_reducible rfl
 rotate_left
 ·simp only [Act.put, List.setIfInBounds_toArray, List.set_cons_zero, List.set_cons_succ, i64_w, i32_w]
  rfl
 refine take_ (i := 22) (N := some 67) (v := ?_) (a' := ?_) #[true, true, true, true, true, true, true, true, true, true, true, true, true, true, true, true, true, true, true, true, true, true, true, false, false, false] rfl rfl (by kernel_rfl) (fun _ _ _ h => h) (Or.inl ⟨by rfl, ?_⟩) hHeld ?_ ?_
 rotate_left
 ·rintro w' ⟨s0, s1, s2, s3, s4, s5, s6, s7, s8, s9, s10, s11, s12, s13, s14, s15, s16, s17, s18, s19⟩
  go_simp
  with_reducible rfl
 rotate_left
 ·simp only [Act.put, List.setIfInBounds_toArray, List.set_cons_zero, List.set_cons_succ, i64_w, i32_w]
  rfl
 refine one_ (i := 23) (N := some 68) #[true, true, true, true, true, true, true, true, true, true, true, true, true, true, true, true, true, true, true, true, true, true, true, true, false, false] rfl rfl (by kernel_rfl) (by decide) (fun K hK => ?_)
 refine goes_ Tryz.func21 (by kernel_rfl) rfl #[.agg #[.int .i64 v.f0, .int .i64 v.f1, .string v.f2, .slice A3 v.f3.length q3, .slice A4 v.f4.length q4], .agg #[.int .i64 v.f0, .int .i64 v.f1, .string v.f2, .slice A3 v.f3.length q3, .slice A4 v.f4.length q4]] (by rfl) rfl rfl (by first | (simp only [List.map_toArray, List.map_cons, List.map_nil]; done) | (simp only [List.map_toArray, List.map_cons, List.map_nil]; rfl)) ?_
 with_reducible refine ((HJV.out _ HE13.out)).mono ?_
 rintro e w14 ⟨rfl, hb14⟩
 refine ⟨_, rfl, ?_⟩
 have BV14 := Aside0.mk (blk_below BV13.out hb14)
 have BU14 := Aside0.mk (blk_below BU13.out hb14)
 have BX14 := Aside0.mk (blk_below BX13.out hb14)
 have BY14 := Aside0.mk (blk_below BY13.out hb14)
 have HE14 := Aside0.mk (below_then HE13.out HE13.out.size hb14)
 clear hb14
 refine hK.out _ _ ⟨((blk_cell BV14.out 0).trans rfl), ((blk_cell BV14.out 1).trans rfl), ((blk_cell BV14.out 2).trans rfl), ((blk_cell BV14.out 3).trans rfl), ((blk_cell BV14.out 4).trans rfl), ((blk_cell BU14.out 0).trans rfl), ((blk_cell BU14.out 1).trans rfl), ((blk_cell BU14.out 2).trans rfl), ((blk_cell BU14.out 3).trans rfl), ((blk_cell BU14.out 4).trans rfl), ((blk_cell BX14.out 0).trans rfl), ((blk_cell BX14.out 1).trans rfl), ((blk_cell BX14.out 2).trans rfl), ((blk_cell BX14.out 3).trans rfl), ((blk_cell BX14.out 4).trans rfl), ((blk_cell BY14.out 0).trans rfl), ((blk_cell BY14.out 1).trans rfl), ((blk_cell BY14.out 2).trans rfl), ((blk_cell BY14.out 3).trans rfl), ((blk_cell BY14.out 4).trans rfl)⟩ (fun hHeld => ?_)
 clear hK K
 refine norm_ (a' := ?_) ?_ ?_
 rotate_left
 ·show Act.put _ (some 68) _ = _
  simp only [Act.put, List.setIfInBounds_toArray, List.set_cons_zero, List.set_cons_succ, i64_w, i32_w]
  rfl
 refine pure_ (i := 24) (N := some 69) (v := ?_) (a' := ?_) #[true, true, true, true, true, true, true, true, true, true, true, true, true, true, true, true, true, true, true, true, true, true, true, true, true, false] rfl rfl (by kernel_rfl) (fun _ _ _ h => h) (Or.inl ⟨by rfl, ?_⟩) ?_ ?_
 rotate_left
 ·intro w'
  go_simp
  with_reducible rfl
 rotate_left
 ·simp only [Act.put, List.setIfInBounds_toArray, List.set_cons_zero, List.set_cons_succ, i64_w, i32_w]
  rfl
 refine pure_ (i := 25) (N := some 6) (v := ?_) (a' := ?_) #[true, true, true, true, true, true, true, true, true, true, true, true, true, true, true, true, true, true, true, true, true, true, true, true, true, true] rfl rfl (by kernel_rfl) (fun _ _ _ h => h) (Or.inl ⟨by rfl, ?_⟩) ?_ ?_
 rotate_left
 ·intro w'
  go_simp
  with_reducible rfl
 rotate_left
 ·simp only [Act.put, List.setIfInBounds_toArray, List.set_cons_zero, List.set_cons_succ, i64_w, i32_w]
  rfl
 refine done_ (by kernel_rfl) ?_
 go_wp2
 go_ret
 exact ⟨rfl, below_then HD8.out HD8.out.size HE14.out⟩
def exequaturlaw05_JsonFields.f (a0_0 a0_1 : Int) (a0_2 : ByteArray) (l0_3 : List V) (l0_4 : List ByteArray) (a1_0 a1_1 : Int) (a1_2 : ByteArray) (l1_3 : List V) (l1_4 : List ByteArray) (a2 : ByteArray) : Option Bool := some true
theorem exequaturlaw05_JsonFields.calls (a0_0 a0_1 : Int) (a0_2 : ByteArray) (A0_3 : Option Addr) (c0_3 : Nat) (l0_3 : List V) (A0_4 : Option Addr) (c0_4 : Nat) (l0_4 : List ByteArray) (a1_0 a1_1 : Int) (a1_2 : ByteArray) (A1_3 : Option Addr) (c1_3 : Nat) (l1_3 : List V) (A1_4 : Option Addr) (c1_4 : Nat) (l1_4 : List ByteArray) (a2 : ByteArray) (r : Bool) (w : World) (hr0_3 : Kd.C k25 w A0_3 l0_3.length l0_3) (hc0_3 : l0_3.length ≤ c0_3) (hr0_4 : Kd.C Kd.string w A0_4 l0_4.length l0_4) (hc0_4 : l0_4.length ≤ c0_4) (hr1_3 : Kd.C k25 w A1_3 l1_3.length l1_3) (hc1_3 : l1_3.length ≤ c1_3) (hr1_4 : Kd.C Kd.string w A1_4 l1_4.length l1_4) (hc1_4 : l1_4.length ≤ c1_4) (h : exequaturlaw05_JsonFields.f a0_0 a0_1 a0_2 l0_3 l0_4 a1_0 a1_1 a1_2 l1_3 l1_4 a2 = some r) (hG : GOK w := by first | assumption | exact hG | exact GOK.drewN _ hG | exact GOK.below hG (by repeat (first | (with_reducible first | exact HB.out | apply below_alloc | apply pw_below_drewN | apply below_drew1 | refine below_set ?_ (Aside0.out (by assumption))) | exact HB.out))) :
  Calls Tryz.prog 8 #[.agg #[.int .i64 a0_0, .int .i64 a0_1, .string a0_2, .slice A0_3 l0_3.length c0_3, .slice A0_4 l0_4.length c0_4], .agg #[.int .i64 a1_0, .int .i64 a1_1, .string a1_2, .slice A1_3 l1_3.length c1_3, .slice A1_4 l1_4.length c1_4], .string a2] w fun e w' => e = .returned (.bool r) ∧ Below w.heap.size w w' := by
 obtain rfl := Option.some.inj h
 exact fields_calls ⟨a0_0, a0_1, a0_2, l0_3, l0_4⟩ ⟨a1_0, a1_1, a1_2, l1_3, l1_4⟩ a2 A0_3 A0_4 A1_3 A1_4 c0_3 c0_4 c1_3 c1_4 w hc0_3 hr0_3 hc0_4 hr0_4 hc1_3 hr1_3 hc1_4 hr1_4 hG
end Go.Proofs.YtifejhbochkifaaGreatDoor.X
