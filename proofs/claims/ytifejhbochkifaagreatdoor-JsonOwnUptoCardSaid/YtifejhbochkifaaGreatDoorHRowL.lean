/- json's reader.row (L): values with commas between. -/
import Derived.Test.YtifejhbochkifaaGreatDoorHRowO
namespace Go.Proofs.YtifejhbochkifaaGreatDoor.X
open Go.RowKit Go.Proofs.YtifejhbochkifaaGreatDoorW.PrintWords Go.Proofs.YtifejhbochkifaaGreatDoorW.PrintLast Go.Proofs.YtifejhbochkifaaGreatDoorW.PrintMore Go.Proofs.YtifejhbochkifaaGreatDoor.Spec
set_option linter.unusedVariables false
set_option linter.unusedSimpArgs false
set_option maxHeartbeats 16000000 in
set_option maxRecDepth 100000 in
theorem rowL_calls (k : Nat) (hval : ∀ j, j < k → VC j) : RC k false := by
 intro b s0 w w0 h hG hB hb0 hs hk
 obtain ⟨N, hN⟩ : ∃ N, s0.length = N := ⟨_, rfl⟩
 have hbw := h.lt
 show Calls _ _ #[.pointer (some ⟨b, 0, none⟩), .agg #[.int .i64 5, .int .i64 0, .string ⟨#[]⟩, .slice none 0 0, .slice none 0 0], .string (ba [93])] w _
 obtain ⟨k, rfl⟩ : ∃ k', k = k' + 1 := ⟨k - 1, by omega⟩
 obtain ⟨R0, hR0⟩ : ∃ R0, readRow (k + 1) false s0 = R0 := ⟨_, rfl⟩
 rw [hR0]
 have HVAL := Aside0.mk hval
 have HG := Aside0.mk hG
 have HB := Aside0.mk hB
 have H := Aside0.mk h
 have e1 : ((w.alloc (.cells #[.int .i64 5, .int .i64 0, .string ⟨#[]⟩, .slice none 0 0, .slice none 0 0] 25)).alloc (.cells #[.int .i64 0, .int .i64 0, .string ⟨#[]⟩, .slice none 0 0, .slice none 0 0] 25)).heap.size = w.heap.size + 2 := by simp
 have e2 := blk_alloc (blk_new w (.cells #[.int .i64 5, .int .i64 0, .string ⟨#[]⟩, .slice none 0 0, .slice none 0 0] 25)) (.cells #[.int .i64 0, .int .i64 0, .string ⟨#[]⟩, .slice none 0 0, .slice none 0 0] 25)
 have e3 := blk_new (w.alloc (.cells #[.int .i64 5, .int .i64 0, .string ⟨#[]⟩, .slice none 0 0, .slice none 0 0] 25)) (.cells #[.int .i64 0, .int .i64 0, .string ⟨#[]⟩, .slice none 0 0, .slice none 0 0] 25)
 rw [show (w.alloc (.cells #[.int .i64 5, .int .i64 0, .string ⟨#[]⟩, .slice none 0 0, .slice none 0 0] 25)).heap.size = w.heap.size + 1 by simp] at e3
 have e4 := (h.alloc (.cells #[.int .i64 5, .int .i64 0, .string ⟨#[]⟩, .slice none 0 0, .slice none 0 0] 25)).alloc (.cells #[.int .i64 0, .int .i64 0, .string ⟨#[]⟩, .slice none 0 0, .slice none 0 0] 25)
 have e5 := below_alloc (below_alloc (Below.refl _ w) (.cells #[.int .i64 5, .int .i64 0, .string ⟨#[]⟩, .slice none 0 0, .slice none 0 0] 25)) (.cells #[.int .i64 0, .int .i64 0, .string ⟨#[]⟩, .slice none 0 0, .slice none 0 0] 25)
 obtain ⟨W2, hW2⟩ : ∃ W, (w.alloc (.cells #[.int .i64 5, .int .i64 0, .string ⟨#[]⟩, .slice none 0 0, .slice none 0 0] 25)).alloc (.cells #[.int .i64 0, .int .i64 0, .string ⟨#[]⟩, .slice none 0 0, .slice none 0 0] 25) = W := ⟨_, rfl⟩
 rw [hW2] at e1 e2 e3 e4 e5
 have HW2 := Aside0.mk hW2
 have SZ2 := Aside0.mk e1
 have BK42 := Aside0.mk e2
 have BK62 := Aside0.mk e3
 have H2 := Aside0.mk e4
 have HB2 := Aside0.mk e5
 have ne4 : w.heap.size ≠ b := by omega
 have ne6 : w.heap.size + 1 ≠ b := by omega
 have HN := Aside0.mk hN
 have HR0 := Aside0.mk hR0
 have hs' : N ≤ 1000000 := by omega
 have hk' : 4 * N + 6 ≤ k := by omega
 clear h hG hB hval hs hk hN hR0 hW2 e1 e2 e3 e4 e5
 by_cases hend : [93] <+: s0
 ·have HE := Aside0.mk hend
  have HR := Aside0.mk (show R0 = some (⟨5, 0, ⟨#[]⟩, [], []⟩, s0.drop 1) by rw [← HR0.out, readRow]; show (if [93] <+: s0 then _ else _) = _; rw [if_pos hend]; rfl)
  clear hend
  go_enter Tryz.func41, Tryz.ntmps41
  go_wp2_with fail
  rw [HW2.out]
  refine (take_yes b s0 [93] false W2 H2.out HE.out).mono ?_
  rintro e w3 ⟨rfl, h3, g3⟩
  have H3 := Aside0.mk h3
  have BK43 := gb_blk BK42.out g3 ne4
  have BK63 := gb_blk BK62.out g3 ne6
  have GB3 := Aside0.mk ((grown_of_below HB2.out (some b)).trans g3)
  have BK63a := Aside0.mk BK63
  have k0 := (blk_cell BK43 0).trans (rfl : _ = some (Value.int .i64 5))
  have k1 := (blk_cell BK43 1).trans (rfl : _ = some (Value.int .i64 0))
  have k2 := (blk_cell BK43 2).trans (rfl : _ = some (Value.string ⟨#[]⟩))
  have k3 := (blk_cell BK43 3).trans (rfl : _ = some (Value.slice none 0 0))
  have k4 := (blk_cell BK43 4).trans (rfl : _ = some (Value.slice none 0 0))
  have m0 := (blk_cell BK63 0).trans (rfl : _ = some (Value.int .i64 0))
  have m1 := (blk_cell BK63 1).trans (rfl : _ = some (Value.int .i64 0))
  have m2 := (blk_cell BK63 2).trans (rfl : _ = some (Value.string ⟨#[]⟩))
  have m3 := (blk_cell BK63 3).trans (rfl : _ = some (Value.slice none 0 0))
  have m4 := (blk_cell BK63 4).trans (rfl : _ = some (Value.slice none 0 0))
  have i0 := blk_frozen BK63 0
  have i1 := blk_frozen BK63 1
  have i2 := blk_frozen BK63 2
  have i3 := blk_frozen BK63 3
  have i4 := blk_frozen BK63 4
  clear h3 g3 BK43 BK63
  go_wp2
  refine bodyPost_ret (results_cell_row rfl _ _ (w.heap.size + 1) 25 #[.int .i64 5, .int .i64 0, .string ⟨#[]⟩, .slice none 0 0, .slice none 0 0] (0, 0) _ rfl (fill5 BK63a.out) Tryz.underlying25 rfl (by kernel_rfl)) rfl ?_
  refine ⟨⟨5, 0, ⟨#[]⟩, [], []⟩, s0.drop 1, false, _, _, rfl, Kd.R_nil _ _ _ _ _, Kd.R_nil _ _ _ _ _, far5 H3.out (Ne.symm ne6), gb_new5 GB3.out (by omega), by simp, ?_, ?_⟩
  ·intro y r e
   rw [HR.out] at e
   simp only [Option.some.injEq, Prod.mk.injEq] at e
   obtain ⟨rfl, rfl⟩ := e
   exact ⟨rfl, rfl, rfl⟩
  ·intro e; rw [HR.out] at e; cases e
 ·have HE := Aside0.mk hend
  have HR := Aside0.mk (show R0 = items k false [] [] s0 by rw [← HR0.out, readRow]; show (if [93] <+: s0 then _ else _) = _; rw [if_neg hend])
  clear hend
  go_enter Tryz.func41, Tryz.ntmps41
  go_wp2_with fail
  rw [HW2.out]
  refine (take_no b s0 [93] false W2 H2.out HE.out).mono ?_
  rintro e w3 ⟨rfl, rfl⟩
  go_wp2
  go_loopw [] (fun wr => ∃ (ls : List V) (ks : List ByteArray) (s : List UInt8) (bad : Bool) (c3 c4 : Value) (kk : Nat), Aside0 (RowS w b N k false R0 wr ls ks s bad c3 c4 kk) ∧ Aside0 (Rs wr b s bad) ∧ Aside0 (w.grownBy wr (some b)) ∧ Aside0 (wr.heap[w.heap.size]? = some (.cells #[.int .i64 5, .int .i64 0, .string ⟨#[]⟩, c3, c4] 25 (0, 0))) ∧ Aside0 (wr.heap[w.heap.size + 1]? = some (.cells #[.int .i64 0, .int .i64 0, .string ⟨#[]⟩, .slice none 0 0, .slice none 0 0] 25 (0, 0))) ∧ Aside0 (Kd.R k25 25 wr (w.heap.size + 2) (fun k_ => w.heap.size + 2 ≤ k_ ∧ some k_ ≠ c4.ownBlock) c3 ls) ∧ Aside0 (Kd.R Kd.string 9 wr (w.heap.size + 2) (fun k_ => w.heap.size + 2 ≤ k_ ∧ some k_ ≠ c3.ownBlock) c4 ks) ∧ w.heap.size + 2 ≤ wr.heap.size) (fun wr => RM b wr)
  case atStart => exact ⟨[], [], s0, false, .slice none 0 0, .slice none 0 0, k, ⟨fun _ => ⟨HR.out, by have := HN.out; omega, by have := HN.out; simp only [List.length_nil]; omega, by have := HN.out; simp only [List.length_nil]; omega⟩, fun e => (by cases e), Nat.le_refl _, by have := HN.out; omega⟩, H2, ⟨grown_of_below HB2.out _⟩, BK42, BK62, ⟨Kd.R_nil _ _ _ _ _⟩, ⟨Kd.R_nil _ _ _ _ _⟩, by have := SZ2.out; omega⟩
  case round =>
   obtain ⟨ls, ks, s, bad, c3, c4, kk, HS, H3, GB, BK4, BK6, HL, HK, hwr⟩ := hrel
   clear HR H2 BK42 BK62 HB2 SZ2 HW2 HE
   have c1 := H3.out.c1
   cases bad with
   | true =>
    have HR := Aside0.mk (HS.out.2.1 rfl)
    have k0 := (blk_cell BK4.out 0).trans (rfl : _ = some (Value.int .i64 5))
    have k1 := (blk_cell BK4.out 1).trans (rfl : _ = some (Value.int .i64 0))
    have k2 := (blk_cell BK4.out 2).trans (rfl : _ = some (Value.string ⟨#[]⟩))
    have k3 := (blk_cell BK4.out 3).trans (rfl : _ = some c3)
    have k4 := (blk_cell BK4.out 4).trans (rfl : _ = some c4)
    have m0 := (blk_cell BK6.out 0).trans (rfl : _ = some (Value.int .i64 0))
    have m1 := (blk_cell BK6.out 1).trans (rfl : _ = some (Value.int .i64 0))
    have m2 := (blk_cell BK6.out 2).trans (rfl : _ = some (Value.string ⟨#[]⟩))
    have m3 := (blk_cell BK6.out 3).trans (rfl : _ = some (Value.slice none 0 0))
    have m4 := (blk_cell BK6.out 4).trans (rfl : _ = some (Value.slice none 0 0))
    have i0 := blk_frozen BK6.out 0
    have i1 := blk_frozen BK6.out 1
    have i2 := blk_frozen BK6.out 2
    have i3 := blk_frozen BK6.out 3
    have i4 := blk_frozen BK6.out 4
    obtain ⟨A3, q3, rfl⟩ := Kd.R_slice HL.out
    obtain ⟨A4, q4, rfl⟩ := Kd.R_slice HK.out
    go_wp2
    refine bodyPost_ret (results_cell_row rfl _ _ (w.heap.size + 1) 25 #[.int .i64 5, .int .i64 0, .string ⟨#[]⟩, .slice A3 ls.length q3, .slice A4 ks.length q4] (0, 0) _ rfl (fill5 BK6.out) Tryz.underlying25 rfl (by kernel_rfl)) rfl ?_
    refine ⟨⟨5, 0, ⟨#[]⟩, ls, ks⟩, s, true, _, _, rfl, R_set5 HL.out (fun _ hk_ => hk_.1) (by omega) (by omega) _ _ _ _ _, R_set5 HK.out (fun _ hk_ => hk_.1) (by omega) (by omega) _ _ _ _ _, far5 H3.out (Ne.symm ne6), gb_new5 GB.out (by omega), by have := HS.out.2.2.2; have := HN.out; omega, ?_, fun _ => rfl⟩
    intro y r e
    rw [HR.out] at e
    cases e
   | false =>
    obtain ⟨hp1, hp2, hpl, hpk⟩ := HS.out.1 rfl
    have HKK := Aside0.mk (show kk ≤ k from HS.out.2.2.1)
    obtain ⟨k2, rfl⟩ : ∃ k2, kk = k2 + 1 + 1 := ⟨kk - 2, by omega⟩
    have hkk := HKK.out
    have k0 := (blk_cell BK4.out 0).trans (rfl : _ = some (Value.int .i64 5))
    have HS2 := Aside0.mk (show (false = false → R0 = item (k2 + 1) false ls ks s ∧ ks.length + s.length ≤ N) ∧ (false = true → R0 = none) from ⟨fun _ => ⟨by rw [hp1, items], hpk⟩, fun e => (by cases e)⟩)
    have H11 := H3
    have BK411 := BK4
    have BK611 := BK6
    have HL11 := HL
    have HK11 := HK
    have GB11 := GB
    have hz11 := hwr
    clear hp1

    have HVL := Aside0.mk (HVAL.out k2 (by omega) b s false wr.drew w0 (H11.out.below (below_drew (Below.refl _ wr))) HG.out (below_drew (HB.out.grown GB11.out HB.out.size (fun k e => by injection e with e; omega))) hb0 (by omega) (by omega))
    go_wp2
    refine start_ (n := 8) (S := fun w' => w'.cell? ⟨w.heap.size, 3, none⟩ = some c3) (ds := [7]) #[false, false, false, false, false, false, false, false] (by kernel_rfl) rfl rfl (((blk_cell BK411.out 3).trans rfl)) (fun hHeld => ?_)
    refine pure_ (i := 0) (N := some 28) (v := ?_) (a' := ?_) #[true, false, false, false, false, false, false, false] rfl rfl (by kernel_rfl) (fun _ _ _ h => h) (Or.inl ⟨by rfl, ?_⟩) ?_ ?_
    rotate_left
    ·intro w'
     go_simp
     with_reducible rfl
    rotate_left
    ·simp only [Act.put, List.setIfInBounds_toArray, List.set_cons_zero, List.set_cons_succ, i64_w, i32_w]
     rfl
    refine pure_ (i := 2) (N := some 30) (v := ?_) (a' := ?_) #[true, false, true, false, false, false, false, false] rfl rfl (by kernel_rfl) (fun _ _ _ h => h) (Or.inl ⟨by rfl, ?_⟩) ?_ ?_
    rotate_left
    ·intro w'
     go_simp
     with_reducible rfl
    rotate_left
    ·simp only [Act.put, List.setIfInBounds_toArray, List.set_cons_zero, List.set_cons_succ, i64_w, i32_w]
     rfl
    refine take_ (i := 1) (N := some 29) (v := ?_) (a' := ?_) #[true, true, true, false, false, false, false, false] rfl rfl (by kernel_rfl) (fun _ _ _ h => h) (Or.inl ⟨by rfl, ?_⟩) hHeld ?_ ?_
    rotate_left
    ·intro w' s0
     go_simp
     with_reducible rfl
    rotate_left
    ·simp only [Act.put, List.setIfInBounds_toArray, List.set_cons_zero, List.set_cons_succ, i64_w, i32_w]
     rfl
    refine one_ (i := 3) (N := some 31) #[true, true, true, true, false, false, false, false] rfl rfl (by kernel_rfl) (by decide) (fun K hK => ?_)
    refine goes_ Tryz.func23 (by kernel_rfl) rfl #[.pointer (some ⟨b, 0, none⟩)] (by rfl) rfl rfl (by simp only [List.map_toArray, List.map_cons, List.map_nil]; rfl) ?_
    with_reducible refine (HVL.out).mono ?_
    rintro e w12 ⟨x, s3, bad3, x3, x4, rfl, hx3, hx4, h12, g12, hl12, hs12, hn12⟩
    refine ⟨_, rfl, ?_⟩
    have H12 := Aside0.mk h12
    have G12 := Aside0.mk ((grown_of_below (below_drew (Below.refl _ wr)) (some b)).trans g12)
    have HX12 := Aside0.mk (And.intro hs12 hn12)
    clear h12 g12 hs12 hn12
    have HX3 := Aside0.mk hx3
    have HX4 := Aside0.mk hx4
    clear hx3 hx4
    have BK412 := Aside0.mk (gb_blk BK411.out G12.out ne4)
    have BK612 := Aside0.mk (gb_blk BK611.out G12.out ne6)
    have HL12 := Aside0.mk (Kd.R_grown HL11.out G12.out (fun k_ hk_ => by intro e_; injection e_ with e_; have := hk_.1; omega))
    have HK12 := Aside0.mk (Kd.R_grown HK11.out G12.out (fun k_ hk_ => by intro e_; injection e_ with e_; have := hk_.1; omega))
    have hz12 : wr.heap.size ≤ w12.heap.size := G12.out.size
    have hz12' : w.heap.size + 2 ≤ w12.heap.size := Nat.le_trans hz11 hz12
    refine hK.out _ _ (((blk_cell BK412.out 3).trans rfl)) (fun hHeld => ?_)
    clear hK K
    refine norm_ (a' := ?_) ?_ ?_
    rotate_left
    ·show Act.put _ (some 31) _ = _
     simp only [Act.put, List.setIfInBounds_toArray, List.set_cons_zero, List.set_cons_succ, i64_w, i32_w]
     rfl
    refine one_ (i := 4) (N := some 32) #[true, true, true, true, true, false, false, false] rfl rfl (by kernel_rfl) (by decide) (fun K hK => ?_)
    refine value_ (w1 := ?_) (v := ?_) (by rfl) rfl ?_ ?_
    rotate_left 2
    ·go_simp
     constructor
     ·rfl
     ·rfl
    refine hK.out _ _ (((blk_cell (blk_alloc BK412.out _) 3).trans rfl)) (fun hHeld => ?_)
    clear hK K
    refine norm_ (a' := ?_) ?_ ?_
    rotate_left
    ·show Act.put _ (some 32) _ = _
     simp only [Act.put, List.setIfInBounds_toArray, List.set_cons_zero, List.set_cons_succ, i64_w, i32_w]
     rfl
    refine one_ (i := 5) (N := some 33) #[true, true, true, true, true, true, false, false] rfl rfl (by kernel_rfl) (by decide) (fun K hK => ?_)
    refine Kd.R_append_step k25 (w0 := w12) (w.heap.size + 2) (by rfl) (.tmp 29) (.tmp 32) 22 25 (.agg #[.int .i64 0, .int .i64 0, .string ⟨#[]⟩, .slice none 0 0, .slice none 0 0]) 80 rfl Tryz.underlying22 info25 rfl (by decide) (by omega) c3 ls x [.int .i64 x.f0, .int .i64 x.f1, .string x.f2, x3, x4] (fun k_ => w.heap.size + 2 ≤ k_ ∧ some k_ ≠ c4.ownBlock) (fun k_ => wr.heap.size ≤ k_) rfl rfl ?aP (fun k_ hk_ => ⟨⟨Nat.le_trans hz11 hk_, R_fresh HK11.out hk_⟩, R_fresh HL11.out hk_⟩) ?aF ?aO ?aB ?aS ?aL ?_
    (case aP => exact k25_mkM w12 _ _ x (Kd.R_lower HX3.out (show w.heap.size + 2 ≤ wr.drew.heap.size from hz11)) (Kd.R_lower HX4.out (show w.heap.size + 2 ≤ wr.drew.heap.size from hz11)))
    (case aB => exact Below.refl _ _)
    (case aF => exact (fun k_ hk_ => ⟨by omega, R_fresh HK12.out hk_⟩))
    (case aO => exact HL12.out)
    (case aS => omega)
    (case aL => omega)
    intro v2 w13 ho hb hg hat
    obtain ⟨A2, q2, e2_⟩ := Kd.R_slice ho
    generalize (ls ++ [x]).length = n2 at e2_
    subst e2_
    have HL13 := Aside0.mk ho
    have HK13 := Aside0.mk (Kd.R_after (ok := fun k_ => w.heap.size + 2 ≤ k_) HK12.out hg hat)
    have BK413 := Aside0.mk ((hb.block w.heap.size (by omega)).trans BK412.out)
    have BK613 := Aside0.mk ((hb.block (w.heap.size + 1) (by omega)).trans BK612.out)
    have H13 := Aside0.mk (H12.out.belowB hb (by omega))
    have GB13 := Aside0.mk (gb_below (GB11.out.trans G12.out) hb (by omega) hz12')
    have hz13 : w.heap.size + 2 ≤ w13.heap.size := Nat.le_trans hz12' hb.size
    have f3_ := blk_frozen BK413.out 3
    clear ho hb hg hat HL12 HK12 BK412 BK612 H12
    refine hK.out _ _ (((blk_cell BK413.out 3).trans rfl)) (fun hHeld => ?_)
    clear hK K
    refine norm_ (a' := ?_) ?_ ?_
    rotate_left
    ·show Act.put _ (some 33) _ = _
     simp only [Act.put, List.setIfInBounds_toArray, List.set_cons_zero, List.set_cons_succ, i64_w, i32_w]
     rfl
    refine pure_ (i := 6) (N := some 34) (v := ?_) (a' := ?_) #[true, true, true, true, true, true, true, false] rfl rfl (by kernel_rfl) (fun _ _ _ h => h) (Or.inl ⟨by rfl, ?_⟩) ?_ ?_
    rotate_left
    ·intro w'
     go_simp
     with_reducible rfl
    rotate_left
    ·simp only [Act.put, List.setIfInBounds_toArray, List.set_cons_zero, List.set_cons_succ, i64_w, i32_w]
     rfl
    refine last_ (i := 7) (N := none) #[true, true, true, true, true, true, true, true] rfl rfl (by kernel_rfl) (by decide) (fun K hK => ?_)
    refine skip_ (w1 := ?_) (by rfl) rfl ?_ ?_
    rotate_left
    ·go_simp
     rfl
    refine hK.out _ _ ?_
    clear hK K
    refine done_ (by kernel_rfl) ?_

    have bk414 : (w13.setCell ⟨w.heap.size, 3, none⟩ (.slice A2 n2 q2)).heap[w.heap.size]? = some (.cells #[.int .i64 5, .int .i64 0, .string ⟨#[]⟩, .slice A2 n2 q2, c4] 25 (0, 0)) := blk_set BK413.out 3 _
    have bk614 := blk_far (p := ⟨w.heap.size, 3, none⟩) BK613.out (show w.heap.size + 1 ≠ w.heap.size by omega) (.slice A2 n2 q2)
    have h14 := H13.out.far (j := 3) (Ne.symm ne4) (.slice A2 n2 q2)
    have hl14 := R_fars (g := w.heap.size) (j := 3) HL13.out (by omega) (.slice A2 n2 q2)
    have hk14 := R_fars (g := w.heap.size) (j := 3) HK13.out (by omega) (.slice A2 n2 q2)
    have gb14 := gb_new GB13.out (Nat.le_refl _) 3 (.slice A2 n2 q2)
    have hz14 : w.heap.size + 2 ≤ (w13.setCell ⟨w.heap.size, 3, none⟩ (.slice A2 n2 q2)).heap.size := by simpa using hz13
    generalize w13.setCell ⟨w.heap.size, 3, none⟩ (.slice A2 n2 q2) = W14 at bk414 bk614 h14 hl14 hk14 gb14 hz14 ⊢
    obtain ⟨d3, hd3⟩ : ∃ d3, Value.slice A2 n2 q2 = d3 := ⟨_, rfl⟩
    rw [hd3] at bk414 hl14 hk14
    have HS3 := Aside0.mk (show (bad3 = false → R0 = aft k2 false (ls ++ [x]) ks s3 ∧ ks.length + s.length ≤ N) ∧ (bad3 = true → R0 = none) by
     have hx := HX12.out
     rcases Bool.eq_false_or_eq_true false with hb | hb
     ·have hr : R0 = none := by first | exact HS2.out.2 hb | cases hb
      have h3 := hx.2 (if_pos hb)
      exact ⟨fun e => (by rw [h3] at e; cases e), fun _ => hr⟩
     ·obtain ⟨hr, hlen⟩ := HS2.out.1 (by first | exact hb | trivial)
      have hne : ¬ false = true := by rw [hb]; decide
      rw [if_neg hne] at hx
      cases hv : readV k2 s with
      | none => exact ⟨fun e => (by rw [hx.2 hv] at e; cases e), fun _ => (by rw [hr, item_none hv])⟩
      | some p =>
       obtain ⟨y, r⟩ := p
       obtain ⟨rfl, rfl, h3⟩ := hx.1 y r hv
       exact ⟨fun _ => ⟨by rw [hr, item_some hv], hlen⟩, fun e => (by rw [h3] at e; cases e)⟩)
    have HBK414 := Aside0.mk bk414
    have HBK614 := Aside0.mk bk614
    have H14 := Aside0.mk h14
    have HL14 := Aside0.mk hl14
    have HK14 := Aside0.mk hk14
    have GB14 := Aside0.mk gb14
    have hls3 : s3.length ≤ s.length := by omega
    clear bk414 bk614 h14 hl14 hk14 gb14 hd3 hHeld BK413 BK613 H13 HL13 HK13 GB13 f3_ HX12 HVL HS2 HX3 HX4 hz13 hz12 hz12' hz11 H11 BK411 BK611 HL11 HK11 GB11
    by_cases he : [93] <+: s3
    ·have HE3 := Aside0.mk he
     clear he
     go_wp2_with fail
     refine (take_yes b s3 [93] bad3 W14 H14.out HE3.out).mono ?_
     rintro e w15 ⟨rfl, h15, g15⟩
     have H15 := Aside0.mk h15
     have BK415 := Aside0.mk (gb_blk HBK414.out g15 ne4)
     have BK615 := Aside0.mk (gb_blk HBK614.out g15 ne6)
     have HL15 := Aside0.mk (R_gb HL14.out g15 (by omega))
     have HK15 := Aside0.mk (R_gb HK14.out g15 (by omega))
     have GB15 := Aside0.mk (GB14.out.trans g15)
     obtain ⟨A3, q3, rfl⟩ := Kd.R_slice HL15.out
     obtain ⟨A4, q4, rfl⟩ := Kd.R_slice HK15.out
     obtain ⟨m3, hm3⟩ : ∃ m3, (ls ++ [x]).length = m3 := ⟨_, rfl⟩
     rw [hm3] at HL15 HK15 BK415 HBK414 HL14 HK14
     have k0 := (blk_cell BK415.out 0).trans (rfl : _ = some (Value.int .i64 5))
     have k1 := (blk_cell BK415.out 1).trans (rfl : _ = some (Value.int .i64 0))
     have k2_ := (blk_cell BK415.out 2).trans (rfl : _ = some (Value.string ⟨#[]⟩))
     have k3 := (blk_cell BK415.out 3).trans (rfl : _ = some (Value.slice A3 m3 q3))
     have k4 := (blk_cell BK415.out 4).trans (rfl : _ = some (Value.slice A4 ks.length q4))
     have m0 := (blk_cell BK615.out 0).trans (rfl : _ = some (Value.int .i64 0))
     have m1 := (blk_cell BK615.out 1).trans (rfl : _ = some (Value.int .i64 0))
     have m2 := (blk_cell BK615.out 2).trans (rfl : _ = some (Value.string ⟨#[]⟩))
     have m3_ := (blk_cell BK615.out 3).trans (rfl : _ = some (Value.slice none 0 0))
     have m4 := (blk_cell BK615.out 4).trans (rfl : _ = some (Value.slice none 0 0))
     have i0 := blk_frozen BK615.out 0
     have i1 := blk_frozen BK615.out 1
     have i2 := blk_frozen BK615.out 2
     have i3 := blk_frozen BK615.out 3
     have i4 := blk_frozen BK615.out 4
     have HM3 := Aside0.mk hm3
     clear h15 g15 hm3
     go_wp2
     refine bodyPost_ret (results_cell_row rfl _ _ (w.heap.size + 1) 25 #[.int .i64 5, .int .i64 0, .string ⟨#[]⟩, .slice A3 m3 q3, .slice A4 ks.length q4] (0, 0) _ rfl (fill5 BK615.out) Tryz.underlying25 rfl (by kernel_rfl)) rfl ?_
     refine ⟨⟨5, 0, ⟨#[]⟩, ls ++ [x], ks⟩, s3.drop 1, bad3, _, _, rfl, R_set5 HL15.out (fun _ hk_ => hk_.1) (by omega) (by omega) _ _ _ _ _, R_set5 HK15.out (fun _ hk_ => hk_.1) (by omega) (by omega) _ _ _ _ _, far5 H15.out (Ne.symm ne6), gb_new5 GB15.out (by omega), by rw [List.length_drop]; have := HS.out.2.2.2; have := HN.out; omega, ?_, ?_⟩
     ·intro y r e
      rcases Bool.eq_false_or_eq_true bad3 with hb | hb
      ·rw [HS3.out.2 hb] at e; cases e
      ·rw [(HS3.out.1 hb).1] at e
       unfold aft at e
       rw [if_pos (show [endc false] <+: s3 from HE3.out)] at e
       simp only [Option.some.injEq, Prod.mk.injEq] at e
       obtain ⟨rfl, rfl⟩ := e
       exact ⟨rfl, rfl, hb⟩
     ·intro e
      rcases Bool.eq_false_or_eq_true bad3 with hb | hb
      ·exact hb
      ·rw [(HS3.out.1 hb).1] at e
       unfold aft at e
       rw [if_pos (show [endc false] <+: s3 from HE3.out)] at e
       cases e
    ·have HE3 := Aside0.mk he
     clear he
     go_wp2_with fail
     refine (take_no b s3 [93] bad3 W14 H14.out HE3.out).mono ?_
     rintro e w15 ⟨rfl, rfl⟩
     go_wp2_with fail
     refine (need_any b s3 [44] bad3 w15 H14.out).mono ?_
     rintro e w16 ⟨s4, bad4, rfl, h16, g16, hl4, hy4, hn4⟩
     have H16 := Aside0.mk h16
     have BK416 := Aside0.mk (gb_blk HBK414.out g16 ne4)
     have BK616 := Aside0.mk (gb_blk HBK614.out g16 ne6)
     have HL16 := Aside0.mk (R_gb HL14.out g16 (by omega))
     have HK16 := Aside0.mk (R_gb HK14.out g16 (by omega))
     have GB16 := Aside0.mk (GB14.out.trans g16)
     have hz16 : w.heap.size + 2 ≤ w16.heap.size := Nat.le_trans hz14 g16.size
     have hsh : bad4 = false → s4.length < s.length := fun e => by
      by_cases hc : [44] <+: s3
      ·have h1 := hc.length_le
       obtain ⟨rfl, _⟩ := hy4 hc
       rw [List.length_drop]
       simp only [List.length_cons, List.length_nil] at h1 ⊢
       omega
      ·rw [hn4 hc] at e; cases e
     have HS4 := Aside0.mk (show RowS w b N k false R0 w16 (ls ++ [x]) ks s4 bad4 d3 c4 k2 by
      refine ⟨?_, ?_, by omega, by have := HS.out.2.2.2; omega⟩
      ·intro e
       have hlt := hsh e
       by_cases hc : [44] <+: s3
       ·obtain ⟨rfl, rfl⟩ := hy4 hc
        obtain ⟨hr, hlen⟩ := HS3.out.1 e
        refine ⟨?_, by omega, by rw [List.length_append, List.length_cons, List.length_nil]; omega, by omega⟩
        rw [hr]; unfold aft
        rw [if_neg (show ¬ [endc false] <+: s3 from HE3.out), if_pos hc]; rfl
       ·rw [hn4 hc] at e; cases e
      ·intro e
       by_cases hc : [44] <+: s3
       ·obtain ⟨rfl, rfl⟩ := hy4 hc
        exact HS3.out.2 e
       ·rcases Bool.eq_false_or_eq_true bad3 with hb | hb
        ·exact HS3.out.2 hb
        ·rw [(HS3.out.1 hb).1]; unfold aft
         rw [if_neg (show ¬ [endc false] <+: s3 from HE3.out), if_neg hc])
     have HM := Aside0.mk (show RM b w16 < RM b wr by
      rw [RM_false H3.out]
      rcases Bool.eq_false_or_eq_true bad4 with hb | hb
      ·rw [RM_true (hb ▸ H16.out)]; omega
      ·rw [RM_false (hb ▸ H16.out)]; have := hsh hb; omega)
     clear h16 g16 hy4 hn4 hsh
     go_wp2
     go_roundw
     case rel => exact ⟨ls ++ [x], ks, s4, bad4, d3, c4, k2, HS4, H16, GB16, BK416, BK616, HL16, HK16, hz16⟩
     case measure => exact HM.out

end Go.Proofs.YtifejhbochkifaaGreatDoor.X
