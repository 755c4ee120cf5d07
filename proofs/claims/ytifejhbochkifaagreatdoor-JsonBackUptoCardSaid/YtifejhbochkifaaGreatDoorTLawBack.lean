/- JsonBack: its walk. -/
import Derived.Test.YtifejhbochkifaaGreatDoorBF
import Derived.Test.YtifejhbochkifaaGreatDoorHLaw
import Derived.Test.YtifejhbochkifaaGreatDoorHRefK
import Derived.Test.YtifejhbochkifaaGreatDoorHSame
import Derived.Test.YtifejhbochkifaaGreatDoorHSmV
namespace Go.Proofs.YtifejhbochkifaaGreatDoor.X
open Go.RowKit Go.Proofs.YtifejhbochkifaaGreatDoorW.PrintWords Go.Proofs.YtifejhbochkifaaGreatDoorW.PrintLast Go.Proofs.YtifejhbochkifaaGreatDoorW.PrintMore Go.Proofs.YtifejhbochkifaaGreatDoor.Spec
set_option linter.unusedVariables false
set_option linter.unusedSimpArgs false
def exequaturlaw05_JsonBack.f (a0_0 : Int) (a0_1 : Int) (a0_2 : ByteArray) (l0_3 : List V) (l0_4 : List ByteArray) : Option Bool := if bulkN 9 (⟨a0_0, a0_1, a0_2, l0_3, l0_4⟩ : V) ≤ 1048576 then some true else none
theorem parseL_good (v : V) (h8 : fitsB 8 v = true) : parseL (rend 8 v) = if 4096 < (rend 8 v).length then (z_V, 3) else (v, 0) := by
 unfold parseL
 split
 ·rfl
 ·have h1 := readV_rend 8 v h8 (4 * (rend 8 v).length + 4) [] (by rw [List.append_nil]; omega) (fun c t e => by cases e)
  rw [List.append_nil] at h1
  rw [h1]
  have hlen := fits_len 8 v h8
  have q1 := (fits_up 8 (max 8 ((rend 8 v).length + 1)) v (by omega) h8).2
  have q2 := (fits_up ((rend 8 v).length + 1) (max 8 ((rend 8 v).length + 1)) v (by omega) hlen).2
  have hc : fitsB ((rend 8 v).length + 1) v = true ∧ rend ((rend 8 v).length + 1) v = rend 8 v := ⟨hlen, by rw [← q2, q1]⟩
  simp only []
  rw [if_pos hc, if_pos h8]
set_option maxHeartbeats 4000000 in
set_option maxRecDepth 100000 in
theorem print_bad (x : V) (hn : fitsB 8 x = false) (A3 A4 : Option Addr) (q3 q4 : Nat) (w : World) (h3 : x.f3.length ≤ q3) (h4 : x.f4.length ≤ q4) (g3 : Kd.C k25 w A3 x.f3.length x.f3) (g4 : Kd.C Kd.string w A4 x.f4.length x.f4) :
  Calls Tryz.prog 13 #[.agg #[.int .i64 x.f0, .int .i64 x.f1, .string x.f2, .slice A3 x.f3.length q3, .slice A4 x.f4.length q4]] w fun e w' => e = .returned (.string ⟨#[]⟩) ∧ Below w.heap.size w w' := by
 obtain ⟨W1, hW1⟩ : ∃ W, w.alloc (.cells #[.int .i64 x.f0, .int .i64 x.f1, .string x.f2, .slice A3 x.f3.length q3, .slice A4 x.f4.length q4] 25) = W := ⟨_, rfl⟩
 have hb1 : Below w.heap.size w W1 := by rw [← hW1]; exact below_alloc (Below.refl _ w) _
 have bk1 : W1.heap[w.heap.size]? = some (.cells #[.int .i64 x.f0, .int .i64 x.f1, .string x.f2, .slice A3 x.f3.length q3, .slice A4 x.f4.length q4] 25 (0, 0)) := by rw [← hW1]; exact blk_new w _
 have hg := good_calls x A3 A4 q3 q4 W1 h3 h4 (Kd.C_below g3 hb1) (Kd.C_below g4 hb1)
 rw [hn] at hg
 have HGD := Aside0.mk hg
 have HB1 := Aside0.mk hb1
 have HW1 := Aside0.mk hW1
 have m0 := (blk_cell bk1 0).trans (rfl : _ = some (Value.int .i64 x.f0))
 have m1 := (blk_cell bk1 1).trans (rfl : _ = some (Value.int .i64 x.f1))
 have m2 := (blk_cell bk1 2).trans (rfl : _ = some (Value.string x.f2))
 have m3 := (blk_cell bk1 3).trans (rfl : _ = some (Value.slice A3 x.f3.length q3))
 have m4 := (blk_cell bk1 4).trans (rfl : _ = some (Value.slice A4 x.f4.length q4))
 clear hg hb1 hW1 bk1 g3 g4 h3 h4 hn
 go_enter Tryz.func13, Tryz.ntmps13
 go_wp2_with (rw [HW1.out])
 refine HGD.out.mono ?_
 rintro e w2 ⟨rfl, hb2⟩
 have HB2 := Aside0.mk (below_then HB1.out HB1.out.size hb2)
 clear hb2 m0 m1 m2 m3 m4
 go_wp2
 go_ret
 exact ⟨rfl, HB2.out⟩
set_option maxHeartbeats 16000000 in
set_option maxRecDepth 100000 in
theorem back_calls (v : V) (A3 A4 : Option Addr) (q3 q4 : Nat) (w : World) (hbk : bulkN 9 v ≤ 1048576) (h3 : v.f3.length ≤ q3) (g3 : Kd.C k25 w A3 v.f3.length v.f3) (h4 : v.f4.length ≤ q4) (g4 : Kd.C Kd.string w A4 v.f4.length v.f4) (hG : GOK w := by first | assumption | exact hG | exact GOK.drewN _ hG | exact GOK.below hG (by repeat (first | (with_reducible first | exact HB.out | apply below_alloc | apply pw_below_drewN | apply below_drew1 | refine below_set ?_ (Aside0.out (by assumption))) | exact HB.out))) :
  Calls Tryz.prog 7 #[.agg #[.int .i64 v.f0, .int .i64 v.f1, .string v.f2, .slice A3 v.f3.length q3, .slice A4 v.f4.length q4]] w fun e w' => e = .returned (.bool true) ∧ Below w.heap.size w w' := by
 have HG := Aside0.mk hG
 obtain ⟨W1, hW1⟩ : ∃ W, w.alloc (.cells #[.int .i64 v.f0, .int .i64 v.f1, .string v.f2, .slice A3 v.f3.length q3, .slice A4 v.f4.length q4] 25) = W := ⟨_, rfl⟩
 have hb1 : Below w.heap.size w W1 := by rw [← hW1]; exact below_alloc (Below.refl _ w) _
 have BV1 := Aside0.mk (show W1.heap[w.heap.size]? = some (.cells #[.int .i64 v.f0, .int .i64 v.f1, .string v.f2, .slice A3 v.f3.length q3, .slice A4 v.f4.length q4] 25 (0, 0)) by rw [← hW1]; exact blk_new w _)
 obtain ⟨ks, hks⟩ := (small_ev 12 (by decide) v).get
 have HSM := Aside0.mk (exequaturlaw05_small.calls ks v.f0 v.f1 v.f2 A3 q3 v.f3 A4 q4 v.f4 12 _ W1 (Kd.C_below g3 hb1) h3 (Kd.C_below g4 hb1) h4 hks)
 have HAN := Aside0.mk (fun (W : World) (hW : Below w.heap.size w W) => exequaturlaw05_answers.calls true W rfl (HG.out.below hW))
 have HC3 := Aside0.mk g3
 have HC4 := Aside0.mk g4
 have K3 := Aside0.mk h3
 have K4 := Aside0.mk h4
 have HD1 := Aside0.mk hb1
 have HW1 := Aside0.mk hW1
 have HBK := Aside0.mk hbk
 have m0 := (blk_cell BV1.out 0).trans (rfl : _ = some (Value.int .i64 v.f0))
 have m1 := (blk_cell BV1.out 1).trans (rfl : _ = some (Value.int .i64 v.f1))
 have m2 := (blk_cell BV1.out 2).trans (rfl : _ = some (Value.string v.f2))
 have m3 := (blk_cell BV1.out 3).trans (rfl : _ = some (Value.slice A3 v.f3.length q3))
 have m4 := (blk_cell BV1.out 4).trans (rfl : _ = some (Value.slice A4 v.f4.length q4))
 clear hG hb1 hks g3 g4 h3 h4 hW1 hbk
 go_enter Tryz.func7, Tryz.ntmps7
 go_wp2_with (rw [HW1.out])
 refine HSM.out.mono ?_
 rintro e w2 ⟨rfl, hb2⟩
 have BV2 := Aside0.mk (blk_below BV1.out hb2)
 have HD2 := Aside0.mk (below_then HD1.out HD1.out.size hb2)
 clear hb2 m0 m1 m2 m3 m4 HSM HW1
 cases hs : smallB 12 v with
 | false =>
  clear hs
  go_wp2_with fail
  refine (HAN.out w2 HD2.out).mono ?_
  rintro e w3 ⟨rfl, hb3⟩
  have HD3 := Aside0.mk (below_then HD2.out HD2.out.size hb3)
  clear hb3
  go_wp2
  go_ret
  exact ⟨rfl, HD3.out⟩
 | true =>
 have HL := Aside0.mk (lim_small 12 v hs)
 clear hs
 obtain ⟨Y, hY⟩ : ∃ Y, ba (printL v) = Y := ⟨_, rfl⟩
 have hlen8 : fitsB 8 v = true → (rend 8 v).length ≤ 100000000 := fun h => by
  have h1 := rend_bulk 8 v h
  have h2 : bulkN 8 v ≤ bulkN 9 v := bulk_up 8 v
  have := HBK.out
  omega
 have HLEN := Aside0.mk hlen8
 have HPR := Aside0.mk (fun (W : World) (hW : Below w.heap.size w W) => (show Calls Tryz.prog 13 #[.agg #[.int .i64 v.f0, .int .i64 v.f1, .string v.f2, .slice A3 v.f3.length q3, .slice A4 v.f4.length q4]] W fun e w' => e = .returned (.string Y) ∧ Below W.heap.size W w' from by
  cases hf : fitsB 8 v with
  | true =>
   have := print_calls v A3 A4 q3 q4 W (HG.out.below hW) (by have := HLEN.out hf; omega) K3.out K4.out (Kd.C_below HC3.out hW) (Kd.C_below HC4.out hW)
   rw [hY] at this
   exact this
  | false =>
   have := print_bad v hf A3 A4 q3 q4 W K3.out K4.out (Kd.C_below HC3.out hW) (Kd.C_below HC4.out hW)
   have e : Y = ⟨#[]⟩ := by rw [← hY]; unfold printL; rw [hf]; rfl
   rw [e]
   exact this))
 obtain ⟨g, hg⟩ : ∃ g, fitsB 8 v = g := ⟨_, rfl⟩
 have HGD := Aside0.mk (fun (W : World) (hW : Below w.heap.size w W) => (show Calls Tryz.prog 14 #[.agg #[.int .i64 v.f0, .int .i64 v.f1, .string v.f2, .slice A3 v.f3.length q3, .slice A4 v.f4.length q4]] W fun e w' => e = .returned (.bool g) ∧ Below W.heap.size W w' from by
  rw [← hg]; exact good_calls v A3 A4 q3 q4 W K3.out K4.out (Kd.C_below HC3.out hW) (Kd.C_below HC4.out hW)))
 have HFT := Aside0.mk (fun (W : World) (hW : Below w.heap.size w W) => (show Calls Tryz.prog 19 #[.agg #[.int .i64 v.f0, .int .i64 v.f1, .string v.f2, .slice A3 v.f3.length q3, .slice A4 v.f4.length q4], .int .i64 8] W fun e w' => e = .returned (.bool g) ∧ Below W.heap.size W w' from by
  rw [← hg]; exact rfits_calls 8 (by decide) v 12 HL.out A3 A4 q3 q4 W K3.out K4.out (Kd.C_below HC3.out hW) (Kd.C_below HC4.out hW)))
 have HJS := Aside0.mk (fun (W : World) (hW : Below w.heap.size w W) => (show Calls Tryz.prog 20 #[.agg #[.int .i64 v.f0, .int .i64 v.f1, .string v.f2, .slice A3 v.f3.length q3, .slice A4 v.f4.length q4]] W fun e w' => e = .returned (.string Y) ∧ Below W.heap.size W w' from by
  obtain ⟨k, hk⟩ := (json_ev v 12 HL.out (fun h => by have := HLEN.out h; omega)).get
  have hYe : Y = ba (if fitsB 8 v = true then rend 8 v else []) := by
   rw [← hY]; unfold printL
   split <;> rfl
  rw [hYe]
  exact exequaturref01_JSON.calls k v.f0 v.f1 v.f2 A3 q3 v.f3 A4 q4 v.f4 _ W (Kd.C_below HC3.out hW) K3.out (Kd.C_below HC4.out hW) K4.out hk))
 have HY := Aside0.mk hY
 have HGG := Aside0.mk hg
 clear hY hg hlen8
 have m0 := (blk_cell BV2.out 0).trans (rfl : _ = some (Value.int .i64 v.f0))
 have m1 := (blk_cell BV2.out 1).trans (rfl : _ = some (Value.int .i64 v.f1))
 have m2 := (blk_cell BV2.out 2).trans (rfl : _ = some (Value.string v.f2))
 have m3 := (blk_cell BV2.out 3).trans (rfl : _ = some (Value.slice A3 v.f3.length q3))
 have m4 := (blk_cell BV2.out 4).trans (rfl : _ = some (Value.slice A4 v.f4.length q4))
 go_wp2_with fail
 refine (HPR.out w2 HD2.out).mono ?_
 rintro e w3 ⟨rfl, hb3⟩
 have BV4 := Aside0.mk (blk_drew (blk_below BV2.out hb3))
 have HD4 := Aside0.mk (below_drew (below_then HD2.out HD2.out.size hb3))
 clear hb3 m0 m1 m2 m3 m4
 go_wp2
 refine start_ (n := 11) (S := fun w' => w'.cell? ⟨w.heap.size, 0, none⟩ = some (.int .i64 v.f0) ∧ w'.cell? ⟨w.heap.size, 1, none⟩ = some (.int .i64 v.f1) ∧ w'.cell? ⟨w.heap.size, 2, none⟩ = some (.string v.f2) ∧ w'.cell? ⟨w.heap.size, 3, none⟩ = some (.slice A3 v.f3.length q3) ∧ w'.cell? ⟨w.heap.size, 4, none⟩ = some (.slice A4 v.f4.length q4)) (ds := []) #[false, false, false, false, false, false, false, false, false, false, false] (by kernel_rfl) rfl rfl ⟨((blk_cell BV4.out 0).trans rfl), ((blk_cell BV4.out 1).trans rfl), ((blk_cell BV4.out 2).trans rfl), ((blk_cell BV4.out 3).trans rfl), ((blk_cell BV4.out 4).trans rfl)⟩ (fun hHeld => ?_)
 refine take_ (i := 0) (N := some 12) (v := ?_) (a' := ?_) #[true, false, false, false, false, false, false, false, false, false, false] rfl rfl (by kernel_rfl) (fun _ _ _ h => h) (Or.inl ⟨by rfl, ?_⟩) hHeld ?_ ?_
 rotate_left
 ·rintro w' ⟨s0, s1, s2, s3, s4⟩
  go_simp
  with_reducible rfl
 rotate_left
 ·simp only [Act.put, List.setIfInBounds_toArray, List.set_cons_zero, List.set_cons_succ, i64_w, i32_w]
  rfl
 refine take_ (i := 2) (N := some 14) (v := ?_) (a' := ?_) #[true, false, true, false, false, false, false, false, false, false, false] rfl rfl (by kernel_rfl) (fun _ _ _ h => h) (Or.inl ⟨by rfl, ?_⟩) hHeld ?_ ?_
 rotate_left
 ·rintro w' ⟨s0, s1, s2, s3, s4⟩
  go_simp
  with_reducible rfl
 rotate_left
 ·simp only [Act.put, List.setIfInBounds_toArray, List.set_cons_zero, List.set_cons_succ, i64_w, i32_w]
  rfl
 refine one_ (i := 1) (N := some 13) #[true, true, true, false, false, false, false, false, false, false, false] rfl rfl (by kernel_rfl) (by decide) (fun K hK => ?_)
 refine goes_ Tryz.func14 (by kernel_rfl) rfl #[.agg #[.int .i64 v.f0, .int .i64 v.f1, .string v.f2, .slice A3 v.f3.length q3, .slice A4 v.f4.length q4]] (by rfl) rfl rfl (by simp only [List.map_toArray, List.map_cons, List.map_nil]; rfl) ?_
 with_reducible refine ((HGD.out _ HD4.out)).mono ?_
 rintro e w5 ⟨rfl, hb5⟩
 refine ⟨_, rfl, ?_⟩
 have BV5 := Aside0.mk (blk_below BV4.out hb5)
 have HD5 := Aside0.mk (below_then HD4.out HD4.out.size hb5)
 clear hb5
 refine hK.out _ _ ⟨((blk_cell BV5.out 0).trans rfl), ((blk_cell BV5.out 1).trans rfl), ((blk_cell BV5.out 2).trans rfl), ((blk_cell BV5.out 3).trans rfl), ((blk_cell BV5.out 4).trans rfl)⟩ (fun hHeld => ?_)
 clear hK K
 refine norm_ (a' := ?_) ?_ ?_
 rotate_left
 ·show Act.put _ (some 13) _ = _
  simp only [Act.put, List.setIfInBounds_toArray, List.set_cons_zero, List.set_cons_succ, i64_w, i32_w]
  rfl
 refine one_ (i := 3) (N := some 15) #[true, true, true, true, false, false, false, false, false, false, false] rfl rfl (by kernel_rfl) (by decide) (fun K hK => ?_)
 refine goes_ Tryz.func19 (by kernel_rfl) rfl #[.agg #[.int .i64 v.f0, .int .i64 v.f1, .string v.f2, .slice A3 v.f3.length q3, .slice A4 v.f4.length q4], .int .i64 8] (by rfl) rfl rfl (by simp only [List.map_toArray, List.map_cons, List.map_nil]; rfl) ?_
 with_reducible refine ((HFT.out _ HD5.out)).mono ?_
 rintro e w6 ⟨rfl, hb6⟩
 refine ⟨_, rfl, ?_⟩
 have BV6 := Aside0.mk (blk_below BV5.out hb6)
 have HD6 := Aside0.mk (below_then HD5.out HD5.out.size hb6)
 clear hb6
 refine hK.out _ _ ⟨((blk_cell BV6.out 0).trans rfl), ((blk_cell BV6.out 1).trans rfl), ((blk_cell BV6.out 2).trans rfl), ((blk_cell BV6.out 3).trans rfl), ((blk_cell BV6.out 4).trans rfl)⟩ (fun hHeld => ?_)
 clear hK K
 refine norm_ (a' := ?_) ?_ ?_
 rotate_left
 ·show Act.put _ (some 15) _ = _
  simp only [Act.put, List.setIfInBounds_toArray, List.set_cons_zero, List.set_cons_succ, i64_w, i32_w]
  rfl
 refine pure_ (i := 4) (N := some 16) (v := ?_) (a' := ?_) #[true, true, true, true, true, false, false, false, false, false, false] rfl rfl (by kernel_rfl) (fun _ _ _ h => h) (Or.inl ⟨by rfl, ?_⟩) ?_ ?_
 rotate_left
 ·intro w'
  go_simp
  with_reducible rfl
 rotate_left
 ·simp only [Act.put, List.setIfInBounds_toArray, List.set_cons_zero, List.set_cons_succ, i64_w, i32_w]
  rfl
 refine pure_ (i := 5) (N := some 17) (v := ?_) (a' := ?_) #[true, true, true, true, true, true, false, false, false, false, false] rfl rfl (by kernel_rfl) (fun _ _ _ h => h) (Or.inl ⟨by rfl, ?_⟩) ?_ ?_
 rotate_left
 ·intro w'
  go_simp
  with_reducible rfl
 rotate_left
 ·simp only [Act.put, List.setIfInBounds_toArray, List.set_cons_zero, List.set_cons_succ, i64_w, i32_w]
  rfl
 refine pure_ (i := 6) (N := some 18) (v := ?_) (a' := ?_) #[true, true, true, true, true, true, true, false, false, false, false] rfl rfl (by kernel_rfl) (fun _ _ _ h => h) (Or.inl ⟨by rfl, ?_⟩) ?_ ?_
 rotate_left
 ·intro w'
  go_simp
  with_reducible rfl
 rotate_left
 ·simp only [Act.put, List.setIfInBounds_toArray, List.set_cons_zero, List.set_cons_succ, i64_w, i32_w]
  rfl
 refine take_ (i := 7) (N := some 19) (v := ?_) (a' := ?_) #[true, true, true, true, true, true, true, true, false, false, false] rfl rfl (by kernel_rfl) (fun _ _ _ h => h) (Or.inl ⟨by rfl, ?_⟩) hHeld ?_ ?_
 rotate_left
 ·rintro w' ⟨s0, s1, s2, s3, s4⟩
  go_simp
  with_reducible rfl
 rotate_left
 ·simp only [Act.put, List.setIfInBounds_toArray, List.set_cons_zero, List.set_cons_succ, i64_w, i32_w]
  rfl
 refine one_ (i := 8) (N := some 20) #[true, true, true, true, true, true, true, true, true, false, false] rfl rfl (by kernel_rfl) (by decide) (fun K hK => ?_)
 refine goes_ Tryz.func20 (by kernel_rfl) rfl #[.agg #[.int .i64 v.f0, .int .i64 v.f1, .string v.f2, .slice A3 v.f3.length q3, .slice A4 v.f4.length q4]] (by rfl) rfl rfl (by simp only [List.map_toArray, List.map_cons, List.map_nil]; rfl) ?_
 with_reducible refine ((HJS.out _ HD6.out)).mono ?_
 rintro e w7 ⟨rfl, hb7⟩
 refine ⟨_, rfl, ?_⟩
 have BV7 := Aside0.mk (blk_below BV6.out hb7)
 have HD7 := Aside0.mk (below_then HD6.out HD6.out.size hb7)
 clear hb7
 refine hK.out _ _ ⟨((blk_cell BV7.out 0).trans rfl), ((blk_cell BV7.out 1).trans rfl), ((blk_cell BV7.out 2).trans rfl), ((blk_cell BV7.out 3).trans rfl), ((blk_cell BV7.out 4).trans rfl)⟩ (fun hHeld => ?_)
 clear hK K
 refine norm_ (a' := ?_) ?_ ?_
 rotate_left
 ·show Act.put _ (some 20) _ = _
  simp only [Act.put, List.setIfInBounds_toArray, List.set_cons_zero, List.set_cons_succ, i64_w, i32_w]
  rfl
 refine pure_ (i := 9) (N := some 21) (v := ?_) (a' := ?_) #[true, true, true, true, true, true, true, true, true, true, false] rfl rfl (by kernel_rfl) (fun _ _ _ h => h) (Or.inl ⟨by rfl, ?_⟩) ?_ ?_
 rotate_left
 ·intro w'
  go_simp
  with_reducible rfl
 rotate_left
 ·simp only [Act.put, List.setIfInBounds_toArray, List.set_cons_zero, List.set_cons_succ, i64_w, i32_w]
  rfl
 refine pure_ (i := 10) (N := some 22) (v := ?_) (a' := ?_) #[true, true, true, true, true, true, true, true, true, true, true] rfl rfl (by kernel_rfl) (fun _ _ _ h => h) (Or.inl ⟨by rfl, ?_⟩) ?_ ?_
 rotate_left
 ·intro w'
  go_simp
  with_reducible rfl
 rotate_left
 ·simp only [Act.put, List.setIfInBounds_toArray, List.set_cons_zero, List.set_cons_succ, i64_w, i32_w]
  rfl
 refine done_ (by kernel_rfl) ?_
 cases g with
 | false =>
  have hYe : Y = ⟨#[]⟩ := by rw [← HY.out]; unfold printL; rw [HGG.out]; rfl
  subst hYe
  go_wp2_with fail
  refine (HAN.out w7 HD7.out).mono ?_
  rintro e w8 ⟨rfl, hb8⟩
  have HD8 := Aside0.mk (below_then HD7.out HD7.out.size hb8)
  clear hb8
  go_wp2
  go_ret
  exact ⟨rfl, HD8.out⟩
 | true =>
 have hYs : Y = ba (rend 8 v) := by rw [← HY.out]; unfold printL; rw [HGG.out]; rfl
 have hYne : Y.toList.isEmpty = false := by
  obtain ⟨c, t, hc, _⟩ := rend_head HGG.out
  rw [hYs, Lib.toList_data, hc]; rfl
 have hjp := jparse_calls (rend 8 v) w7 (HG.out.below HD7.out)
 rw [parseL_good v HGG.out, ← hYs] at hjp
 have hsz : Y.size = (rend 8 v).length := by rw [hYs, size_ba]
 rw [← hsz] at hjp
 have HJP := Aside0.mk hjp
 clear hjp hsz hYs
 by_cases hl : 4096 < Y.size
 ·have HJ := Aside0.mk (show Calls Tryz.prog 9 #[.string Y] w7 (POut (z_V, 3) w7) by have := HJP.out; rwa [if_pos hl] at this)
  clear HJP
  have hli : (4096 : Int) < (Y.size : Int) := by omega
  go_wp2_with fail
  refine HJ.out.mono ?_
  intro e w8 hpo
  obtain ⟨B3, p3, B4, p4, rfl, k3, j3, k4, j4, hb8⟩ := pout_at hpo
  obtain ⟨W9, hW9⟩ : ∃ W, w8.alloc (.cells #[.int .i64 z_V.f0, .int .i64 z_V.f1, .string z_V.f2, .slice B3 z_V.f3.length p3, .slice B4 z_V.f4.length p4] 25) = W := ⟨_, rfl⟩
  have HD9 := Aside0.mk (show Below w.heap.size w W9 by rw [← hW9]; exact below_alloc (below_then HD7.out HD7.out.size hb8) _)
  have HW9 := Aside0.mk hW9
  clear hpo k3 j3 k4 j4 hb8 hW9
  simp only []
  go_wp2_with (rw [HW9.out])
  refine (HAN.out W9 HD9.out).mono ?_
  rintro e w10 ⟨rfl, hb10⟩
  have HD10 := Aside0.mk (below_then HD9.out HD9.out.size hb10)
  clear hb10
  go_wp2
  go_ret
  exact ⟨rfl, HD10.out⟩
 ·have HJ := Aside0.mk (show Calls Tryz.prog 9 #[.string Y] w7 (POut (v, 0) w7) by have := HJP.out; rwa [if_neg hl] at this)
  clear HJP
  have hli : ¬ (4096 : Int) < (Y.size : Int) := by omega
  go_wp2_with fail
  refine HJ.out.mono ?_
  intro e w8 hpo
  obtain ⟨B3, p3, B4, p4, rfl, k3, j3, k4, j4, hb8⟩ := pout_at hpo
  simp only [] at k3 j3 k4 j4 ⊢
  obtain ⟨W9, hW9⟩ : ∃ W, w8.alloc (.cells #[.int .i64 v.f0, .int .i64 v.f1, .string v.f2, .slice B3 v.f3.length p3, .slice B4 v.f4.length p4] 25) = W := ⟨_, rfl⟩
  have hb9 : Below w8.heap.size w8 W9 := by rw [← hW9]; exact below_alloc (Below.refl _ _) _
  have BX9 := Aside0.mk (show W9.heap[w8.heap.size]? = some (.cells #[.int .i64 v.f0, .int .i64 v.f1, .string v.f2, .slice B3 v.f3.length p3, .slice B4 v.f4.length p4] 25 (0, 0)) by rw [← hW9]; exact blk_new _ _)
  have BV9 := Aside0.mk (blk_below (blk_below BV7.out hb8) hb9)
  have HD9 := Aside0.mk (below_then (below_then HD7.out HD7.out.size hb8) (Nat.le_trans HD7.out.size hb8.size) hb9)
  have D3 := Aside0.mk (Kd.C_below j3 hb9)
  have D4 := Aside0.mk (Kd.C_below j4 hb9)
  have J3 := Aside0.mk k3
  have J4 := Aside0.mk k4
  have HW9 := Aside0.mk hW9
  clear hpo k3 j3 k4 j4 hb8 hb9 hW9
  have HS1 := Aside0.mk (fun (W : World) (hW : Below W9.heap.size W9 W) => (show Calls Tryz.prog 21 #[.agg #[.int .i64 v.f0, .int .i64 v.f1, .string v.f2, .slice A3 v.f3.length q3, .slice A4 v.f4.length q4], .agg #[.int .i64 v.f0, .int .i64 v.f1, .string v.f2, .slice B3 v.f3.length p3, .slice B4 v.f4.length p4]] W fun e w' => e = .returned (.bool true) ∧ Below W.heap.size W w' from by
   have hw := below_then HD9.out HD9.out.size hW
   have := jsame_calls 12 v v HL.out A3 A4 B3 B4 q3 q4 p3 p4 W K3.out (Kd.C_below HC3.out hw) K4.out (Kd.C_below HC4.out hw) J3.out (Kd.C_below D3.out hW) J4.out (Kd.C_below D4.out hW)
   rw [eqB_true rfl] at this
   exact this))
  have HS2 := Aside0.mk (fun (W : World) (hW : Below W9.heap.size W9 W) => (show Calls Tryz.prog 11 #[.agg #[.int .i64 v.f0, .int .i64 v.f1, .string v.f2, .slice A3 v.f3.length q3, .slice A4 v.f4.length q4], .agg #[.int .i64 v.f0, .int .i64 v.f1, .string v.f2, .slice B3 v.f3.length p3, .slice B4 v.f4.length p4]] W fun e w' => e = .returned (.bool true) ∧ Below W.heap.size W w' from by
   have hw := below_then HD9.out HD9.out.size hW
   have := rsame_calls 12 v v HL.out A3 A4 B3 B4 q3 q4 p3 p4 W K3.out (Kd.C_below HC3.out hw) K4.out (Kd.C_below HC4.out hw) J3.out (Kd.C_below D3.out hW) J4.out (Kd.C_below D4.out hW)
   rw [eqB_true rfl] at this
   exact this))
  go_wp2_with (rw [HW9.out])
  refine (HAN.out W9 HD9.out).mono ?_
  rintro e w10 ⟨rfl, hb10⟩
  have HE10 := Aside0.mk hb10
  have m0 := (blk_cell (blk_below BV9.out HE10.out) 0).trans (rfl : _ = some (Value.int .i64 v.f0))
  have m1 := (blk_cell (blk_below BV9.out HE10.out) 1).trans (rfl : _ = some (Value.int .i64 v.f1))
  have m2 := (blk_cell (blk_below BV9.out HE10.out) 2).trans (rfl : _ = some (Value.string v.f2))
  have m3 := (blk_cell (blk_below BV9.out HE10.out) 3).trans (rfl : _ = some (Value.slice A3 v.f3.length q3))
  have m4 := (blk_cell (blk_below BV9.out HE10.out) 4).trans (rfl : _ = some (Value.slice A4 v.f4.length q4))
  have n0 := (blk_cell (blk_below BX9.out HE10.out) 0).trans (rfl : _ = some (Value.int .i64 v.f0))
  have n1 := (blk_cell (blk_below BX9.out HE10.out) 1).trans (rfl : _ = some (Value.int .i64 v.f1))
  have n2 := (blk_cell (blk_below BX9.out HE10.out) 2).trans (rfl : _ = some (Value.string v.f2))
  have n3 := (blk_cell (blk_below BX9.out HE10.out) 3).trans (rfl : _ = some (Value.slice B3 v.f3.length p3))
  have n4 := (blk_cell (blk_below BX9.out HE10.out) 4).trans (rfl : _ = some (Value.slice B4 v.f4.length p4))
  clear hb10
  go_wp2_with fail
  refine (HS1.out w10 HE10.out).mono ?_
  rintro e w11 ⟨rfl, hb11⟩
  have HE11 := Aside0.mk (below_then HE10.out HE10.out.size hb11)
  clear hb11 m0 m1 m2 m3 m4 n0 n1 n2 n3 n4
  have m0 := (blk_cell (blk_below BV9.out HE11.out) 0).trans (rfl : _ = some (Value.int .i64 v.f0))
  have m1 := (blk_cell (blk_below BV9.out HE11.out) 1).trans (rfl : _ = some (Value.int .i64 v.f1))
  have m2 := (blk_cell (blk_below BV9.out HE11.out) 2).trans (rfl : _ = some (Value.string v.f2))
  have m3 := (blk_cell (blk_below BV9.out HE11.out) 3).trans (rfl : _ = some (Value.slice A3 v.f3.length q3))
  have m4 := (blk_cell (blk_below BV9.out HE11.out) 4).trans (rfl : _ = some (Value.slice A4 v.f4.length q4))
  have n0 := (blk_cell (blk_below BX9.out HE11.out) 0).trans (rfl : _ = some (Value.int .i64 v.f0))
  have n1 := (blk_cell (blk_below BX9.out HE11.out) 1).trans (rfl : _ = some (Value.int .i64 v.f1))
  have n2 := (blk_cell (blk_below BX9.out HE11.out) 2).trans (rfl : _ = some (Value.string v.f2))
  have n3 := (blk_cell (blk_below BX9.out HE11.out) 3).trans (rfl : _ = some (Value.slice B3 v.f3.length p3))
  have n4 := (blk_cell (blk_below BX9.out HE11.out) 4).trans (rfl : _ = some (Value.slice B4 v.f4.length p4))
  go_wp2_with fail
  refine (HS2.out w11 HE11.out).mono ?_
  rintro e w12 ⟨rfl, hb12⟩
  have HE12 := Aside0.mk (below_then HE11.out HE11.out.size hb12)
  clear hb12 m0 m1 m2 m3 m4 n0 n1 n2 n3 n4
  go_wp2
  go_ret
  exact ⟨rfl, below_then HD9.out HD9.out.size HE12.out⟩
theorem exequaturlaw05_JsonBack.calls (a0_0 : Int) (a0_1 : Int) (a0_2 : ByteArray) (A0_3 : Option Addr) (c0_3 : Nat) (l0_3 : List V) (A0_4 : Option Addr) (c0_4 : Nat) (l0_4 : List ByteArray) (r : Bool) (w : World) (hr0_3 : Kd.C k25 w A0_3 l0_3.length l0_3) (hc0_3 : l0_3.length ≤ c0_3) (hr0_4 : Kd.C Kd.string w A0_4 l0_4.length l0_4) (hc0_4 : l0_4.length ≤ c0_4) (h : exequaturlaw05_JsonBack.f a0_0 a0_1 a0_2 l0_3 l0_4 = some r) (hG : GOK w := by first | assumption | exact hG | exact GOK.drewN _ hG | exact GOK.below hG (by repeat (first | (with_reducible first | exact HB.out | apply below_alloc | apply pw_below_drewN | apply below_drew1 | refine below_set ?_ (Aside0.out (by assumption))) | exact HB.out))) :
  Calls Tryz.prog 7 #[.agg #[.int .i64 a0_0, .int .i64 a0_1, .string a0_2, .slice A0_3 l0_3.length c0_3, .slice A0_4 l0_4.length c0_4]] w fun e w' => e = .returned (.bool r) ∧ Below w.heap.size w w' := by
 unfold exequaturlaw05_JsonBack.f at h
 split at h
 ·rename_i hb
  obtain rfl := Option.some.inj h
  exact back_calls ⟨a0_0, a0_1, a0_2, l0_3, l0_4⟩ A0_3 A0_4 c0_3 c0_4 w hb hc0_3 hr0_3 hc0_4 hr0_4 hG
 ·cases h
end Go.Proofs.YtifejhbochkifaaGreatDoor.X
