/- The reference's Parse, on any text. -/
import Derived.Test.YtifejhbochkifaaGreatDoorHRVal
import Derived.Test.YtifejhbochkifaaGreatDoorHJrP
namespace Go.Proofs.YtifejhbochkifaaGreatDoor.X
open Go.RowKit Go.Proofs.YtifejhbochkifaaGreatDoorW.PrintWords Go.Proofs.YtifejhbochkifaaGreatDoorW.PrintLast Go.Proofs.YtifejhbochkifaaGreatDoorW.PrintMore Go.Proofs.YtifejhbochkifaaGreatDoor.Spec
set_option linter.unusedVariables false
set_option linter.unusedSimpArgs false
theorem rfits_calls (d : Nat) (hd : d ≤ 1000000) (x : V) (D : Nat) (hl : limB D x = true) (A3 A4 : Option Addr) (q3 q4 : Nat) (w : World) (h3 : x.f3.length ≤ q3) (h4 : x.f4.length ≤ q4) (g3 : Kd.C k25 w A3 x.f3.length x.f3) (g4 : Kd.C Kd.string w A4 x.f4.length x.f4) :
  Calls Tryz.prog 19 #[.agg #[.int .i64 x.f0, .int .i64 x.f1, .string x.f2, .slice A3 x.f3.length q3, .slice A4 x.f4.length q4], .int .i64 (d : Int)] w fun e w' => e = .returned (.bool (fitsB d x)) ∧ Below w.heap.size w w' := by
 obtain ⟨k, hk⟩ := (fits_ev d hd x D hl).get
 exact exequaturref01_Fits.calls k x.f0 x.f1 x.f2 A3 q3 x.f3 A4 q4 x.f4 (d : Int) _ w g3 h3 g4 h4 hk
theorem rshow_calls (d : Nat) (x : V) (hf : fitsB d x = true) (hz : (rend d x).length ≤ 999999990) (A3 A4 : Option Addr) (q3 q4 : Nat) (w : World) (h3 : x.f3.length ≤ q3) (h4 : x.f4.length ≤ q4) (g3 : Kd.C k25 w A3 x.f3.length x.f3) (g4 : Kd.C Kd.string w A4 x.f4.length x.f4) :
  Calls Tryz.prog 27 #[.agg #[.int .i64 x.f0, .int .i64 x.f1, .string x.f2, .slice A3 x.f3.length q3, .slice A4 x.f4.length q4]] w fun e w' => e = .returned (.string (ba (rend d x))) ∧ Below w.heap.size w w' := by
 obtain ⟨k, hk⟩ := (show_ev d x hf hz).get
 exact exequaturref01_show.calls k x.f0 x.f1 x.f2 A3 q3 x.f3 A4 q4 x.f4 _ w g3 h3 g4 h4 hk
set_option maxHeartbeats 16000000 in
set_option maxRecDepth 100000 in
theorem rparse_calls (s : List UInt8) (w : World) :
  Calls Tryz.prog 10 #[.string (ba s)] w (POut (parseL s) w) := by
 rw [← refL_eq]
 obtain ⟨N, hN⟩ : ∃ N, s.length = N := ⟨_, rfl⟩
 obtain ⟨z, hz⟩ : ∃ z, ba s = z := ⟨_, rfl⟩
 have hzN : z.size = N := by rw [← hz, size_ba]; exact hN
 obtain ⟨P, hP⟩ : ∃ P, refL s = P := ⟨_, rfl⟩
 obtain ⟨W1, hW1⟩ : ∃ W, w.alloc (.cells #[.int .i64 0, .int .i64 0, .string ⟨#[]⟩, .slice none 0 0, .slice none 0 0] 25) = W := ⟨_, rfl⟩
 have BR1 := Aside0.mk (show W1.heap[w.heap.size]? = some (.cells #[.int .i64 0, .int .i64 0, .string ⟨#[]⟩, .slice none 0 0, .slice none 0 0] 25 (0, 0)) by rw [← hW1]; exact blk_new w _)
 have HB1 := Aside0.mk (show Below w.heap.size w W1 by rw [← hW1]; exact below_alloc (Below.refl _ w) _)
 have HW1 := Aside0.mk hW1
 clear hW1
 rw [hP]
 unfold refL at hP
 unfold POut
 by_cases hs : 4096 < s.length
 ·rw [if_pos hs] at hP
  subst hP
  have hl : 4096 < N := by omega
  rw [hz]
  clear hz hs hN
  go_enter Tryz.func10, Tryz.ntmps10
  have o0 := (blk_cell BR1.out 0).trans (rfl : _ = some (Value.int .i64 0))
  have o1 := (blk_cell BR1.out 1).trans (rfl : _ = some (Value.int .i64 0))
  have o2 := (blk_cell BR1.out 2).trans (rfl : _ = some (Value.string ⟨#[]⟩))
  have o3 := (blk_cell BR1.out 3).trans (rfl : _ = some (Value.slice none 0 0))
  have o4 := (blk_cell BR1.out 4).trans (rfl : _ = some (Value.slice none 0 0))
  have i0 := blk_frozen BR1.out 0
  have i1 := blk_frozen BR1.out 1
  have i2 := blk_frozen BR1.out 2
  have i3 := blk_frozen BR1.out 3
  have i4 := blk_frozen BR1.out 4
  go_wp2_with (rw [HW1.out])
  refine bodyPost_ret (results_ct rfl _ _ w.heap.size 25 #[.int .i64 0, .int .i64 0, .string ⟨#[]⟩, .slice none 0 0, .slice none 0 0] (0, 0) _ rfl (fill5 BR1.out) Tryz.underlying25 rfl (by kernel_rfl)) rfl ?_
  exact ⟨_, _, rfl, Kd.R_nil _ _ _ _ _, Kd.R_nil _ _ _ _ _, below_set5 HB1.out (Nat.le_refl _) _ _ _ _ _⟩
 rw [if_neg hs] at hP
 obtain ⟨R, hR⟩ : ∃ R, rfV (4 * s.length + 4) s = R := ⟨_, rfl⟩
 rw [hR] at hP
 have HV := Aside0.mk ((r_all (4 * s.length + 4)).1 s W1 (by omega) (Nat.le_refl _))
 rw [hR, hz, hN] at HV
 have HLM := Aside0.mk (fun v r (h : R = some (v, r)) => (rf_lim (4 * s.length + 4)).1 s v r (by omega) (hR.trans h))
 have HBD := Aside0.mk (fun v r (h : R = some (v, r)) (d : Nat) => ((rf_bound (4 * s.length + 4)).1 s v r (hR.trans h)).1 d)
 have HZ := Aside0.mk hz
 have HP := Aside0.mk hP
 have HSN := Aside0.mk hN
 have hl : ¬ 4096 < N := by omega
 rw [hz]
 clear hz hs hN hR hP
 go_enter Tryz.func10, Tryz.ntmps10
 go_wp2_with (rw [HW1.out])
 refine HV.out.mono ?_
 rintro e w3 ⟨x, n, x3, x4, rfl, hx3, hx4, hb3, hnN, hy, hn⟩
 obtain ⟨X3, p3, rfl⟩ := Kd.R_slice hx3
 obtain ⟨X4, p4, rfl⟩ := Kd.R_slice hx4
 obtain ⟨W4, hW4⟩ : ∃ W, w3.alloc (.cells #[.int .i64 x.f0, .int .i64 x.f1, .string x.f2, .slice X3 x.f3.length p3, .slice X4 x.f4.length p4] 25) = W := ⟨_, rfl⟩
 have hb4 : Below w3.heap.size w3 W4 := by rw [← hW4]; exact below_alloc (Below.refl _ _) _
 have BX4 := Aside0.mk (show W4.heap[w3.heap.size]? = some (.cells #[.int .i64 x.f0, .int .i64 x.f1, .string x.f2, .slice X3 x.f3.length p3, .slice X4 x.f4.length p4] 25 (0, 0)) by rw [← hW4]; exact blk_new _ _)
 have hr3 := Kd.R_reads' hx3
 have hr4 := Kd.R_reads' hx4
 have C3 := Aside0.mk (Kd.C_below hr3.2.2 hb4)
 have C4 := Aside0.mk (Kd.C_below hr4.2.2 hb4)
 have L3 := Aside0.mk hr3.2.1
 have L4 := Aside0.mk hr4.2.1
 have hsz1 := HB1.out.size
 have hwr := blk_lt BR1.out
 have HX3 := Aside0.mk (Kd.R_below hx3 hb4)
 have HX4 := Aside0.mk (Kd.R_below hx4 hb4)
 have BR4 := Aside0.mk (blk_below (blk_below BR1.out hb3) hb4)
 have HB4 := Aside0.mk (below_then (below_then HB1.out HB1.out.size hb3) (Nat.le_trans HB1.out.size hb3.size) hb4)
 have HHB4 := Aside0.mk (Nat.le_trans hb3.size hb4.size)
 have HW4 := Aside0.mk hW4
 have HY := Aside0.mk hy
 have HN := Aside0.mk hn
 clear hx3 hx4 hb3 hb4 hW4 hr3 hr4 hy hn BR1 HB1 HV HW1
 by_cases h0 : n = 0
 ·subst h0
  have hPP : (z_V, (2 : Int)) = P := by
   rw [← HP.out]
   cases hR : R with
   | none => rfl
   | some q => obtain ⟨v, r⟩ := q; have := (HY.out v r hR).2.1; omega
  subst hPP
  have o0 := (blk_cell BR4.out 0).trans (rfl : _ = some (Value.int .i64 0))
  have o1 := (blk_cell BR4.out 1).trans (rfl : _ = some (Value.int .i64 0))
  have o2 := (blk_cell BR4.out 2).trans (rfl : _ = some (Value.string ⟨#[]⟩))
  have o3 := (blk_cell BR4.out 3).trans (rfl : _ = some (Value.slice none 0 0))
  have o4 := (blk_cell BR4.out 4).trans (rfl : _ = some (Value.slice none 0 0))
  have i0 := blk_frozen BR4.out 0
  have i1 := blk_frozen BR4.out 1
  have i2 := blk_frozen BR4.out 2
  have i3 := blk_frozen BR4.out 3
  have i4 := blk_frozen BR4.out 4
  go_wp2_with (rw [HW4.out])
  refine bodyPost_ret (results_ct rfl _ _ w.heap.size 25 #[.int .i64 0, .int .i64 0, .string ⟨#[]⟩, .slice none 0 0, .slice none 0 0] (0, 0) _ rfl (fill5 BR4.out) Tryz.underlying25 rfl (by kernel_rfl)) rfl ?_
  exact ⟨_, _, rfl, Kd.R_nil _ _ _ _ _, Kd.R_nil _ _ _ _ _, below_set5 HB4.out (Nat.le_refl _) _ _ _ _ _⟩
 have hnz : ¬ (n : Int) = 0 := by omega
 have dn0 : ((n : Int) == 0) = false := beq_eq_false_iff_ne.2 hnz
 by_cases hnn : n = N
 rotate_left
 ·have hPP : (z_V, (2 : Int)) = P := by
   rw [← HP.out]
   cases hR : R with
   | none => exact absurd (HN.out hR) h0
   | some q =>
    obtain ⟨v, r⟩ := q
    have h1 := (HY.out v r hR).2.2
    cases r with
    | nil => simp at h1; omega
    | cons c t => rfl
  have hni : ¬ (n : Int) = (N : Int) := by omega
  have dnn : ((n : Int) != (N : Int)) = true := bne_iff_ne.2 hni
  subst hPP
  have o0 := (blk_cell BR4.out 0).trans (rfl : _ = some (Value.int .i64 0))
  have o1 := (blk_cell BR4.out 1).trans (rfl : _ = some (Value.int .i64 0))
  have o2 := (blk_cell BR4.out 2).trans (rfl : _ = some (Value.string ⟨#[]⟩))
  have o3 := (blk_cell BR4.out 3).trans (rfl : _ = some (Value.slice none 0 0))
  have o4 := (blk_cell BR4.out 4).trans (rfl : _ = some (Value.slice none 0 0))
  have i0 := blk_frozen BR4.out 0
  have i1 := blk_frozen BR4.out 1
  have i2 := blk_frozen BR4.out 2
  have i3 := blk_frozen BR4.out 3
  have i4 := blk_frozen BR4.out 4
  go_wp2_with (rw [HW4.out])
  refine bodyPost_ret (results_ct rfl _ _ w.heap.size 25 #[.int .i64 0, .int .i64 0, .string ⟨#[]⟩, .slice none 0 0, .slice none 0 0] (0, 0) _ rfl (fill5 BR4.out) Tryz.underlying25 rfl (by kernel_rfl)) rfl ?_
  exact ⟨_, _, rfl, Kd.R_nil _ _ _ _ _, Kd.R_nil _ _ _ _ _, below_set5 HB4.out (Nat.le_refl _) _ _ _ _ _⟩
 obtain ⟨r, hRx⟩ : ∃ r, R = some (x, r) := by
  cases hR : R with
  | none => exact absurd (HN.out hR) h0
  | some q => obtain ⟨v, r⟩ := q; obtain ⟨rfl, _, _⟩ := HY.out v r hR; exact ⟨r, rfl⟩
 obtain rfl : r = [] := by
  have h1 := (HY.out x r hRx).2.2
  exact List.length_eq_zero_iff.1 (by omega)
 have hPe : (if fitsB 5000 x = true ∧ rend 5000 x = s then (if fitsB 8 x = true then (x, (0 : Int)) else (z_V, 4)) else (z_V, 2)) = P := by
  have := HP.out
  rw [hRx] at this
  exact this
 have HPE := Aside0.mk hPe
 have hlm := HLM.out x [] hRx
 have hbd := fun d => HBD.out x [] hRx d
 have HF5 := Aside0.mk (rfits_calls 5000 (by decide) x _ hlm X3 X4 p3 p4 W4 L3.out L4.out C3.out C4.out)
 have HF8 := Aside0.mk (fun (W : World) (hW : Below W4.heap.size W4 W) => rfits_calls 8 (by decide) x _ hlm X3 X4 p3 p4 W L3.out L4.out (Kd.C_below C3.out hW) (Kd.C_below C4.out hW))
 have HSH := Aside0.mk (fun (hf : fitsB 5000 x = true) (W : World) (hW : Below W4.heap.size W4 W) => rshow_calls 5000 x hf (by have h1 := hbd 5000; have := HSN.out; simp only [List.length_nil] at h1; omega) X3 X4 p3 p4 W L3.out L4.out (Kd.C_below C3.out hW) (Kd.C_below C4.out hW))
 subst hnn
 have dnn : ((n : Int) != (n : Int)) = false := by simp
 clear hPe hlm hbd hRx HP HLM HBD HY HN
 have m0 := (blk_cell BX4.out 0).trans (rfl : _ = some (Value.int .i64 x.f0))
 have m1 := (blk_cell BX4.out 1).trans (rfl : _ = some (Value.int .i64 x.f1))
 have m2 := (blk_cell BX4.out 2).trans (rfl : _ = some (Value.string x.f2))
 have m3 := (blk_cell BX4.out 3).trans (rfl : _ = some (Value.slice X3 x.f3.length p3))
 have m4 := (blk_cell BX4.out 4).trans (rfl : _ = some (Value.slice X4 x.f4.length p4))
 go_wp2_with (rw [HW4.out])
 refine HF5.out.mono ?_
 rintro e w5 ⟨rfl, hb5⟩
 have HD5 := Aside0.mk hb5
 have BX5 := Aside0.mk (blk_below BX4.out hb5)
 have BR5 := Aside0.mk (blk_below BR4.out hb5)
 have HB5 := Aside0.mk (below_then HB4.out HB4.out.size hb5)
 clear hb5 m0 m1 m2 m3 m4
 cases hf5 : fitsB 5000 x with
 | false =>
  have hPP : (z_V, (2 : Int)) = P := by rw [← HPE.out, if_neg (by rw [hf5]; simp)]
  subst hPP
  clear hf5
  have o0 := (blk_cell BR5.out 0).trans (rfl : _ = some (Value.int .i64 0))
  have o1 := (blk_cell BR5.out 1).trans (rfl : _ = some (Value.int .i64 0))
  have o2 := (blk_cell BR5.out 2).trans (rfl : _ = some (Value.string ⟨#[]⟩))
  have o3 := (blk_cell BR5.out 3).trans (rfl : _ = some (Value.slice none 0 0))
  have o4 := (blk_cell BR5.out 4).trans (rfl : _ = some (Value.slice none 0 0))
  have i0 := blk_frozen BR5.out 0
  have i1 := blk_frozen BR5.out 1
  have i2 := blk_frozen BR5.out 2
  have i3 := blk_frozen BR5.out 3
  have i4 := blk_frozen BR5.out 4
  go_wp2
  refine bodyPost_ret (results_ct rfl _ _ w.heap.size 25 #[.int .i64 0, .int .i64 0, .string ⟨#[]⟩, .slice none 0 0, .slice none 0 0] (0, 0) _ rfl (fill5 BR5.out) Tryz.underlying25 rfl (by kernel_rfl)) rfl ?_
  exact ⟨_, _, rfl, Kd.R_nil _ _ _ _ _, Kd.R_nil _ _ _ _ _, below_set5 HB5.out (Nat.le_refl _) _ _ _ _ _⟩
 | true =>
 have HS5 := Aside0.mk (HSH.out hf5 w5 HD5.out)
 have HF5T := Aside0.mk hf5
 clear hf5
 have m0 := (blk_cell BX5.out 0).trans (rfl : _ = some (Value.int .i64 x.f0))
 have m1 := (blk_cell BX5.out 1).trans (rfl : _ = some (Value.int .i64 x.f1))
 have m2 := (blk_cell BX5.out 2).trans (rfl : _ = some (Value.string x.f2))
 have m3 := (blk_cell BX5.out 3).trans (rfl : _ = some (Value.slice X3 x.f3.length p3))
 have m4 := (blk_cell BX5.out 4).trans (rfl : _ = some (Value.slice X4 x.f4.length p4))
 go_wp2_with fail
 refine HS5.out.mono ?_
 rintro e w6 ⟨rfl, hb6⟩
 have HD6 := Aside0.mk (below_then HD5.out HD5.out.size hb6)
 have BX6 := Aside0.mk (blk_below BX5.out hb6)
 have BR6 := Aside0.mk (blk_below BR5.out hb6)
 have HB6 := Aside0.mk (below_then HB5.out HB5.out.size hb6)
 clear hb6 m0 m1 m2 m3 m4
 by_cases hre : rend 5000 x = s
 rotate_left
 ·have hPP : (z_V, (2 : Int)) = P := by rw [← HPE.out, if_neg (fun h => hre h.2)]
  subst hPP
  obtain ⟨y, hyy⟩ : ∃ y, ba (rend 5000 x) = y := ⟨_, rfl⟩
  rw [hyy]
  have hne : ¬ y.toList = z.toList := fun h => hre (by
   rw [← hyy, ← HZ.out, Lib.toList_data, Lib.toList_data] at h
   exact h)
  have hne2 : (y.toList == z.toList) = false := by simpa using hne
  clear hyy hre
  have o0 := (blk_cell BR6.out 0).trans (rfl : _ = some (Value.int .i64 0))
  have o1 := (blk_cell BR6.out 1).trans (rfl : _ = some (Value.int .i64 0))
  have o2 := (blk_cell BR6.out 2).trans (rfl : _ = some (Value.string ⟨#[]⟩))
  have o3 := (blk_cell BR6.out 3).trans (rfl : _ = some (Value.slice none 0 0))
  have o4 := (blk_cell BR6.out 4).trans (rfl : _ = some (Value.slice none 0 0))
  have i0 := blk_frozen BR6.out 0
  have i1 := blk_frozen BR6.out 1
  have i2 := blk_frozen BR6.out 2
  have i3 := blk_frozen BR6.out 3
  have i4 := blk_frozen BR6.out 4
  go_wp2
  refine bodyPost_ret (results_ct rfl _ _ w.heap.size 25 #[.int .i64 0, .int .i64 0, .string ⟨#[]⟩, .slice none 0 0, .slice none 0 0] (0, 0) _ rfl (fill5 BR6.out) Tryz.underlying25 rfl (by kernel_rfl)) rfl ?_
  exact ⟨_, _, rfl, Kd.R_nil _ _ _ _ _, Kd.R_nil _ _ _ _ _, below_set5 HB6.out (Nat.le_refl _) _ _ _ _ _⟩
 rw [hre, HZ.out]
 have hPe : (if fitsB 8 x = true then (x, (0 : Int)) else (z_V, 4)) = P := by rw [← HPE.out, if_pos (show fitsB 5000 x = true ∧ rend 5000 x = s from ⟨HF5T.out, hre⟩)]
 have HPF := Aside0.mk hPe
 have HF86 := Aside0.mk (HF8.out w6 HD6.out)
 clear hre hPe
 have m0 := (blk_cell BX6.out 0).trans (rfl : _ = some (Value.int .i64 x.f0))
 have m1 := (blk_cell BX6.out 1).trans (rfl : _ = some (Value.int .i64 x.f1))
 have m2 := (blk_cell BX6.out 2).trans (rfl : _ = some (Value.string x.f2))
 have m3 := (blk_cell BX6.out 3).trans (rfl : _ = some (Value.slice X3 x.f3.length p3))
 have m4 := (blk_cell BX6.out 4).trans (rfl : _ = some (Value.slice X4 x.f4.length p4))
 go_wp2_with fail
 refine HF86.out.mono ?_
 rintro e w7 ⟨rfl, hb7⟩
 have HX37 := Aside0.mk (Kd.R_below (Kd.R_below HX3.out HD6.out) hb7)
 have HX47 := Aside0.mk (Kd.R_below (Kd.R_below HX4.out HD6.out) hb7)
 have BX7 := Aside0.mk (blk_below BX6.out hb7)
 have BR7 := Aside0.mk (blk_below BR6.out hb7)
 have HB7 := Aside0.mk (below_then HB6.out HB6.out.size hb7)
 clear hb7 m0 m1 m2 m3 m4
 cases hf8 : fitsB 8 x with
 | false =>
  have hPP : (z_V, (4 : Int)) = P := by rw [← HPF.out, if_neg (by rw [hf8]; simp)]
  subst hPP
  clear hf8
  have o0 := (blk_cell BR7.out 0).trans (rfl : _ = some (Value.int .i64 0))
  have o1 := (blk_cell BR7.out 1).trans (rfl : _ = some (Value.int .i64 0))
  have o2 := (blk_cell BR7.out 2).trans (rfl : _ = some (Value.string ⟨#[]⟩))
  have o3 := (blk_cell BR7.out 3).trans (rfl : _ = some (Value.slice none 0 0))
  have o4 := (blk_cell BR7.out 4).trans (rfl : _ = some (Value.slice none 0 0))
  have i0 := blk_frozen BR7.out 0
  have i1 := blk_frozen BR7.out 1
  have i2 := blk_frozen BR7.out 2
  have i3 := blk_frozen BR7.out 3
  have i4 := blk_frozen BR7.out 4
  go_wp2
  refine bodyPost_ret (results_ct rfl _ _ w.heap.size 25 #[.int .i64 0, .int .i64 0, .string ⟨#[]⟩, .slice none 0 0, .slice none 0 0] (0, 0) _ rfl (fill5 BR7.out) Tryz.underlying25 rfl (by kernel_rfl)) rfl ?_
  exact ⟨_, _, rfl, Kd.R_nil _ _ _ _ _, Kd.R_nil _ _ _ _ _, below_set5 HB7.out (Nat.le_refl _) _ _ _ _ _⟩
 | true =>
 have hPP : (x, (0 : Int)) = P := by rw [← HPF.out, if_pos hf8]
 subst hPP
 clear hf8
 have m0 := (blk_cell BX7.out 0).trans (rfl : _ = some (Value.int .i64 x.f0))
 have m1 := (blk_cell BX7.out 1).trans (rfl : _ = some (Value.int .i64 x.f1))
 have m2 := (blk_cell BX7.out 2).trans (rfl : _ = some (Value.string x.f2))
 have m3 := (blk_cell BX7.out 3).trans (rfl : _ = some (Value.slice X3 x.f3.length p3))
 have m4 := (blk_cell BX7.out 4).trans (rfl : _ = some (Value.slice X4 x.f4.length p4))
 have o0 := (blk_cell BR7.out 0).trans (rfl : _ = some (Value.int .i64 0))
 have o1 := (blk_cell BR7.out 1).trans (rfl : _ = some (Value.int .i64 0))
 have o2 := (blk_cell BR7.out 2).trans (rfl : _ = some (Value.string ⟨#[]⟩))
 have o3 := (blk_cell BR7.out 3).trans (rfl : _ = some (Value.slice none 0 0))
 have o4 := (blk_cell BR7.out 4).trans (rfl : _ = some (Value.slice none 0 0))
 have i0 := blk_frozen BR7.out 0
 have i1 := blk_frozen BR7.out 1
 have i2 := blk_frozen BR7.out 2
 have i3 := blk_frozen BR7.out 3
 have i4 := blk_frozen BR7.out 4
 go_wp2
 refine bodyPost_ret (results_ct rfl _ _ w.heap.size 25 #[.int .i64 x.f0, .int .i64 x.f1, .string x.f2, .slice X3 x.f3.length p3, .slice X4 x.f4.length p4] (0, 0) _ rfl (fill5 BR7.out) Tryz.underlying25 rfl (by kernel_rfl)) rfl ?_
 exact ⟨_, _, rfl, Kd.R_mono (Kd.R_lower (Rr_set5 HX37.out (fun k_ hk_ => by omega) _ _ _ _ _) hsz1) (fun k_ hk_ => Nat.le_trans hsz1 hk_), Kd.R_mono (Kd.R_lower (Rr_set5 HX47.out (fun k_ hk_ => by omega) _ _ _ _ _) hsz1) (fun k_ hk_ => Nat.le_trans hsz1 hk_), below_set5 HB7.out (Nat.le_refl _) _ _ _ _ _⟩
end Go.Proofs.YtifejhbochkifaaGreatDoor.X
