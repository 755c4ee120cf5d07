/- The reference's value: the value at the front. -/
import Derived.Test.YtifejhbochkifaaGreatDoorHManO
namespace Go.Proofs.YtifejhbochkifaaGreatDoor.X
open Go.RowKit Go.Proofs.YtifejhbochkifaaGreatDoorW.PrintWords Go.Proofs.YtifejhbochkifaaGreatDoorW.PrintLast Go.Proofs.YtifejhbochkifaaGreatDoorW.PrintMore Go.Proofs.YtifejhbochkifaaGreatDoor.Spec
set_option linter.unusedVariables false
set_option linter.unusedSimpArgs false
theorem rf_end {s r : List UInt8} {n acc m : Nat} {c : UInt8} (h : s.drop n = c :: r) (hc : isdig c = false) : rfDig acc m (s.drop n) = (acc, s.drop n) := by
 rw [h]
 cases m with
 | zero => rfl
 | succ m => rw [rfDig, if_neg (by rw [hc]; decide)]
theorem num_step {s r : List UInt8} {n acc : Nat} {c : UInt8} (h : s.drop n = c :: r) (h48 : 48 ≤ c.toNat) (h57 : c.toNat ≤ 57) (h18 : n < 18) (ha : acc < 10 ^ n) :
  wrap64 (wrap64 ((acc : Int) * 10) + ((c.toNat : Int) - 48)) = ((acc * 10 + (c.toNat - 48) : Nat) : Int) ∧ rfDig acc (18 - n) (s.drop n) = rfDig (acc * 10 + (c.toNat - 48)) (18 - (n + 1)) (s.drop (n + 1)) ∧ acc * 10 + (c.toNat - 48) < 10 ^ (n + 1) := by
 have hb : acc < 10 ^ 17 := Nat.lt_of_lt_of_le ha (Nat.pow_le_pow_right (by decide) (by omega))
 refine ⟨?_, ?_, ?_⟩
 ·rw [w64 (n := (acc : Int) * 10) (by omega) (by omega), w64 (by omega) (by omega)]
  omega
 ·have hr : s.drop (n + 1) = r := by rw [← List.drop_drop, h]; rfl
  rw [h, hr, show 18 - n = (18 - (n + 1)) + 1 by omega, rfDig, if_pos (by unfold isdig; rw [decide_eq_true h48, decide_eq_true h57]; rfl)]
 ·rw [Nat.pow_succ]
  generalize 10 ^ n = p at ha
  omega
theorem num_end {s : List UInt8} {n acc : Nat} (hn : n ≤ s.length) (hp : ¬ [45] <+: s) (h : rfDig 0 18 (s.drop 0) = (acc, s.drop n)) (ha : acc < 10 ^ n) (h18 : n ≤ 18) :
  (∀ v r, rfNum s = some (v, r) → (⟨3, (acc : Int), ⟨#[]⟩, [], []⟩ : V) = v ∧ 0 < n ∧ n + r.length = s.length) ∧ (rfNum s = none → n = 0) := by
 rw [List.drop_zero] at h
 unfold rfNum
 rw [if_neg hp, h]
 simp only [List.length_drop]
 by_cases h0 : n = 0
 ·rw [if_pos (by omega)]
  exact ⟨fun v r e => (by cases e), fun _ => h0⟩
 ·rw [if_neg (by omega)]
  refine ⟨fun v r e => ?_, fun e => (by cases e)⟩
  simp only [Option.some.injEq, Prod.mk.injEq] at e
  obtain ⟨rfl, rfl⟩ := e
  exact ⟨rfl, by omega, by rw [List.length_drop]; omega⟩
theorem num_endN {s : List UInt8} {n acc : Nat} (hn : n ≤ s.length) (hp : [45] <+: s) (h : rfDig 0 17 (s.drop 1) = (acc, s.drop n)) (ha : acc < 10 ^ n) (h18 : n ≤ 18) (h1 : 1 ≤ n) :
  (∀ v r, rfNum s = some (v, r) → (⟨3, wrap64 (-(acc : Int)), ⟨#[]⟩, [], []⟩ : V) = v ∧ 0 < n ∧ n + r.length = s.length) ∧ (rfNum s = none → n = 0) := by
 have hb : acc < 10 ^ 18 := Nat.lt_of_lt_of_le ha (Nat.pow_le_pow_right (by decide) h18)
 have hw : wrap64 (-(acc : Int)) = -(acc : Int) := w64 (by omega) (by omega)
 unfold rfNum
 rw [if_pos hp, h, hw]
 refine ⟨fun v r e => ?_, fun e => (by cases e)⟩
 simp only [Option.some.injEq, Prod.mk.injEq] at e
 obtain ⟨rfl, rfl⟩ := e
 exact ⟨rfl, h1, by rw [List.length_drop]; omega⟩
set_option maxHeartbeats 16000000 in
set_option maxRecDepth 100000 in
theorem rvalue_calls (k : Nat) (hrow : ∀ obj j, j < k → RCR j obj) : VCR k := by
 intro s w hs hk
 obtain ⟨k, rfl⟩ : ∃ k', k = k' + 1 := ⟨k - 1, by omega⟩
 obtain ⟨z, hz⟩ : ∃ z, ba s = z := ⟨_, rfl⟩
 have hzN : z.size = s.length := by rw [← hz, size_ba]
 have HROW := Aside0.mk hrow
 have HSL := Aside0.mk hs
 have HKL := Aside0.mk (show 4 * s.length + 3 ≤ k by omega)
 have HBG := Aside0.mk (fun (p : List UInt8) (q : ByteArray) (hq : ba p = q) (W : World) => (show Calls Tryz.prog 51 #[.string z, .string q] W fun e w' => ∃ b : Bool, e = .returned (.bool b) ∧ (b = true → p <+: s) ∧ (b = false → ¬ p <+: s) ∧ Drawn0 W w' from by rw [← hz, ← hq]; exact begins_ba s p W))
 have HWD := Aside0.mk (fun (W : World) => (show Calls Tryz.prog 52 #[.string z] W fun e w' => e = .returned (.tuple #[.string (wordL (ba s) (rfQ s)).1, .int .i64 (wordL (ba s) (rfQ s)).2]) ∧ Below W.heap.size W w' from by rw [← hz]; exact word_ba s hs W))
 have HZ := Aside0.mk hz
 have HZN := Aside0.mk hzN
 rw [hz]
 clear hz hrow hs hk hzN
 obtain ⟨W1, hW1⟩ : ∃ W, w.alloc (.cells #[.int .i64 0, .int .i64 0, .string ⟨#[]⟩, .slice none 0 0, .slice none 0 0] 25) = W := ⟨_, rfl⟩
 have BR1 := Aside0.mk (show W1.heap[w.heap.size]? = some (.cells #[.int .i64 0, .int .i64 0, .string ⟨#[]⟩, .slice none 0 0, .slice none 0 0] 25 (0, 0)) by rw [← hW1]; exact blk_new w _)
 have HB1 := Aside0.mk (show Below w.heap.size w W1 by rw [← hW1]; exact below_alloc (Below.refl _ w) _)
 have HW1 := Aside0.mk hW1
 clear hW1
 go_enter Tryz.func26, Tryz.ntmps26
 go_wp2_with (rw [HW1.out])
 refine (HBG.out [110, 117, 108, 108] ⟨#[110, 117, 108, 108]⟩ rfl W1).mono ?_
 rintro e w2 ⟨b_, rfl, hbt, hbf, hd⟩
 have hb_ := hd.below
 have BR2 := Aside0.mk (blk_below BR1.out hb_)
 have HB2 := Aside0.mk (below_then HB1.out HB1.out.size hb_)
 clear hd hb_ BR1 HB1
 cases b_ with
 | true =>
  have hp := hbt rfl
  clear hbt hbf
  have HRV := Aside0.mk (show rfV (k + 1) s = some (⟨1, 0, ⟨#[]⟩, [], []⟩, s.drop 4) by rw [rfV, if_pos (show w_null <+: s from hp)])
  have HL := Aside0.mk (show 4 ≤ s.length from hp.length_le)
  clear hp
  have o0 := (blk_cell BR2.out 0).trans (rfl : _ = some (Value.int .i64 0))
  have o1 := (blk_cell BR2.out 1).trans (rfl : _ = some (Value.int .i64 0))
  have o2 := (blk_cell BR2.out 2).trans (rfl : _ = some (Value.string ⟨#[]⟩))
  have o3 := (blk_cell BR2.out 3).trans (rfl : _ = some (Value.slice none 0 0))
  have o4 := (blk_cell BR2.out 4).trans (rfl : _ = some (Value.slice none 0 0))
  have i0 := blk_frozen BR2.out 0
  have i1 := blk_frozen BR2.out 1
  have i2 := blk_frozen BR2.out 2
  have i3 := blk_frozen BR2.out 3
  have i4 := blk_frozen BR2.out 4
  go_wp2
  refine bodyPost_ret (results_ct rfl _ _ w.heap.size 25 #[.int .i64 1, .int .i64 0, .string ⟨#[]⟩, .slice none 0 0, .slice none 0 0] (0, 0) _ rfl (fill5 BR2.out) Tryz.underlying25 rfl (by kernel_rfl)) rfl ?_
  refine ⟨⟨1, 0, ⟨#[]⟩, [], []⟩, 4, _, _, rfl, Kd.R_nil _ _ _ _ _, Kd.R_nil _ _ _ _ _, below_set5 HB2.out (Nat.le_refl _) _ _ _ _ _, HL.out, ?_, fun e => (by rw [HRV.out] at e; cases e)⟩
  intro v r e
  rw [HRV.out] at e
  simp only [Option.some.injEq, Prod.mk.injEq] at e
  obtain ⟨rfl, rfl⟩ := e
  have := HL.out
  exact ⟨rfl, by decide, by rw [List.length_drop]; omega⟩
 | false =>
 have HN0 := Aside0.mk (show ¬ w_null <+: s from hbf rfl)
 clear hbt hbf
 go_wp2_with fail
 refine (HBG.out [116, 114, 117, 101] ⟨#[116, 114, 117, 101]⟩ rfl w2).mono ?_
 rintro e w3 ⟨b_, rfl, hbt, hbf, hd⟩
 have hb_ := hd.below
 have BR3 := Aside0.mk (blk_below BR2.out hb_)
 have HB3 := Aside0.mk (below_then HB2.out HB2.out.size hb_)
 clear hd hb_ BR2 HB2
 cases b_ with
 | true =>
  have hp := hbt rfl
  clear hbt hbf
  have HRV := Aside0.mk (show rfV (k + 1) s = some (⟨2, 1, ⟨#[]⟩, [], []⟩, s.drop 4) by rw [rfV, if_neg HN0.out, if_pos (show w_true <+: s from hp)])
  have HL := Aside0.mk (show 4 ≤ s.length from hp.length_le)
  clear hp
  have o0 := (blk_cell BR3.out 0).trans (rfl : _ = some (Value.int .i64 0))
  have o1 := (blk_cell BR3.out 1).trans (rfl : _ = some (Value.int .i64 0))
  have o2 := (blk_cell BR3.out 2).trans (rfl : _ = some (Value.string ⟨#[]⟩))
  have o3 := (blk_cell BR3.out 3).trans (rfl : _ = some (Value.slice none 0 0))
  have o4 := (blk_cell BR3.out 4).trans (rfl : _ = some (Value.slice none 0 0))
  have i0 := blk_frozen BR3.out 0
  have i1 := blk_frozen BR3.out 1
  have i2 := blk_frozen BR3.out 2
  have i3 := blk_frozen BR3.out 3
  have i4 := blk_frozen BR3.out 4
  go_wp2
  refine bodyPost_ret (results_ct rfl _ _ w.heap.size 25 #[.int .i64 2, .int .i64 1, .string ⟨#[]⟩, .slice none 0 0, .slice none 0 0] (0, 0) _ rfl (fill5 BR3.out) Tryz.underlying25 rfl (by kernel_rfl)) rfl ?_
  refine ⟨⟨2, 1, ⟨#[]⟩, [], []⟩, 4, _, _, rfl, Kd.R_nil _ _ _ _ _, Kd.R_nil _ _ _ _ _, below_set5 HB3.out (Nat.le_refl _) _ _ _ _ _, HL.out, ?_, fun e => (by rw [HRV.out] at e; cases e)⟩
  intro v r e
  rw [HRV.out] at e
  simp only [Option.some.injEq, Prod.mk.injEq] at e
  obtain ⟨rfl, rfl⟩ := e
  have := HL.out
  exact ⟨rfl, by decide, by rw [List.length_drop]; omega⟩
 | false =>
 have HN1 := Aside0.mk (show ¬ w_true <+: s from hbf rfl)
 clear hbt hbf
 go_wp2_with fail
 refine (HBG.out [102, 97, 108, 115, 101] ⟨#[102, 97, 108, 115, 101]⟩ rfl w3).mono ?_
 rintro e w4 ⟨b_, rfl, hbt, hbf, hd⟩
 have hb_ := hd.below
 have BR4 := Aside0.mk (blk_below BR3.out hb_)
 have HB4 := Aside0.mk (below_then HB3.out HB3.out.size hb_)
 clear hd hb_ BR3 HB3
 cases b_ with
 | true =>
  have hp := hbt rfl
  clear hbt hbf
  have HRV := Aside0.mk (show rfV (k + 1) s = some (⟨2, 0, ⟨#[]⟩, [], []⟩, s.drop 5) by rw [rfV, if_neg HN0.out, if_neg HN1.out, if_pos (show w_false <+: s from hp)])
  have HL := Aside0.mk (show 5 ≤ s.length from hp.length_le)
  clear hp
  have o0 := (blk_cell BR4.out 0).trans (rfl : _ = some (Value.int .i64 0))
  have o1 := (blk_cell BR4.out 1).trans (rfl : _ = some (Value.int .i64 0))
  have o2 := (blk_cell BR4.out 2).trans (rfl : _ = some (Value.string ⟨#[]⟩))
  have o3 := (blk_cell BR4.out 3).trans (rfl : _ = some (Value.slice none 0 0))
  have o4 := (blk_cell BR4.out 4).trans (rfl : _ = some (Value.slice none 0 0))
  have i0 := blk_frozen BR4.out 0
  have i1 := blk_frozen BR4.out 1
  have i2 := blk_frozen BR4.out 2
  have i3 := blk_frozen BR4.out 3
  have i4 := blk_frozen BR4.out 4
  go_wp2
  refine bodyPost_ret (results_ct rfl _ _ w.heap.size 25 #[.int .i64 2, .int .i64 0, .string ⟨#[]⟩, .slice none 0 0, .slice none 0 0] (0, 0) _ rfl (fill5 BR4.out) Tryz.underlying25 rfl (by kernel_rfl)) rfl ?_
  refine ⟨⟨2, 0, ⟨#[]⟩, [], []⟩, 5, _, _, rfl, Kd.R_nil _ _ _ _ _, Kd.R_nil _ _ _ _ _, below_set5 HB4.out (Nat.le_refl _) _ _ _ _ _, HL.out, ?_, fun e => (by rw [HRV.out] at e; cases e)⟩
  intro v r e
  rw [HRV.out] at e
  simp only [Option.some.injEq, Prod.mk.injEq] at e
  obtain ⟨rfl, rfl⟩ := e
  have := HL.out
  exact ⟨rfl, by decide, by rw [List.length_drop]; omega⟩
 | false =>
 have HN2 := Aside0.mk (show ¬ w_false <+: s from hbf rfl)
 clear hbt hbf
 go_wp2_with fail
 refine (HBG.out [34] ⟨#[34]⟩ rfl w4).mono ?_
 rintro e w5 ⟨b_, rfl, hbt, hbf, hd⟩
 have hb_ := hd.below
 have BR5 := Aside0.mk (blk_below BR4.out hb_)
 have HB5 := Aside0.mk (below_then HB4.out HB4.out.size hb_)
 clear hd hb_ BR4 HB4
 cases b_ with
 | true =>
  have hp := hbt rfl
  clear hbt hbf
  have HRV := Aside0.mk (show rfV (k + 1) s = (rfQ s).map (fun p => ((⟨4, 0, ba p.1, [], []⟩ : V), p.2)) by rw [rfV, if_neg HN0.out, if_neg HN1.out, if_neg HN2.out, if_pos hp])
  clear hp
  go_wp2_with fail
  refine (HWD.out w5).mono ?_
  rintro e wq ⟨rfl, hbq⟩
  obtain ⟨tx, m, h1, h2, hwl⟩ : ∃ (tx : ByteArray) (m : Nat), (wordL (ba s) (rfQ s)).1 = tx ∧ (wordL (ba s) (rfQ s)).2 = (m : Int) ∧ m ≤ s.length ∧ (∀ t r, rfQ s = some (t, r) → tx = ba t ∧ 0 < m ∧ m + r.length = s.length) ∧ (rfQ s = none → m = 0) := by
   cases h : rfQ s with
   | none => exact ⟨_, 0, rfl, rfl, Nat.zero_le _, fun t r e => (by cases e), fun _ => rfl⟩
   | some q =>
    obtain ⟨t, r⟩ := q
    have hl := (rfQ_len h).1
    refine ⟨_, (ba s).size - r.length, rfl, rfl, by rw [size_ba]; omega, fun t' r' e => ?_, fun e => (by cases e)⟩
    simp only [Option.some.injEq, Prod.mk.injEq] at e
    obtain ⟨rfl, rfl⟩ := e
    exact ⟨rfl, by rw [size_ba]; omega, by rw [size_ba]; omega⟩
  rw [h1, h2]
  have HWL := Aside0.mk hwl
  clear h1 h2 hwl
  have BRq := Aside0.mk (blk_below BR5.out hbq)
  have HBq := Aside0.mk (below_then HB5.out HB5.out.size hbq)
  clear hbq
  have o0 := (blk_cell BRq.out 0).trans (rfl : _ = some (Value.int .i64 0))
  have o1 := (blk_cell BRq.out 1).trans (rfl : _ = some (Value.int .i64 0))
  have o2 := (blk_cell BRq.out 2).trans (rfl : _ = some (Value.string ⟨#[]⟩))
  have o3 := (blk_cell BRq.out 3).trans (rfl : _ = some (Value.slice none 0 0))
  have o4 := (blk_cell BRq.out 4).trans (rfl : _ = some (Value.slice none 0 0))
  have i0 := blk_frozen BRq.out 0
  have i1 := blk_frozen BRq.out 1
  have i2 := blk_frozen BRq.out 2
  have i3 := blk_frozen BRq.out 3
  have i4 := blk_frozen BRq.out 4
  go_wp2
  refine bodyPost_ret (results_ct rfl _ _ w.heap.size 25 #[.int .i64 4, .int .i64 0, .string tx, .slice none 0 0, .slice none 0 0] (0, 0) _ rfl (fill5 BRq.out) Tryz.underlying25 rfl (by kernel_rfl)) rfl ?_
  refine ⟨⟨4, 0, tx, [], []⟩, m, _, _, rfl, Kd.R_nil _ _ _ _ _, Kd.R_nil _ _ _ _ _, below_set5 HBq.out (Nat.le_refl _) _ _ _ _ _, HWL.out.1, ?_, ?_⟩
  ·intro v r e
   rw [HRV.out, Option.map_eq_some_iff] at e
   obtain ⟨⟨t, r'⟩, hq, he⟩ := e
   simp only [Prod.mk.injEq] at he
   obtain ⟨rfl, rfl⟩ := he
   obtain ⟨q1, q2, q3⟩ := HWL.out.2.1 t r' hq
   exact ⟨by rw [q1], q2, q3⟩
  ·intro e
   rw [HRV.out, Option.map_eq_none_iff] at e
   exact HWL.out.2.2 e
 | false =>
 have HN3 := Aside0.mk (show ¬ [34] <+: s from hbf rfl)
 clear hbt hbf
 go_wp2_with fail
 refine (HBG.out [91] ⟨#[91]⟩ rfl w5).mono ?_
 rintro e w6 ⟨b_, rfl, hbt, hbf, hd⟩
 have hb_ := hd.below
 have BR6 := Aside0.mk (blk_below BR5.out hb_)
 have HB6 := Aside0.mk (below_then HB5.out HB5.out.size hb_)
 clear hd hb_ BR5 HB5
 cases b_ with
 | true =>
  have hp := hbt rfl
  clear hbt hbf
  obtain ⟨t0, ht0⟩ : ∃ t0, s = opn false :: t0 := by
   cases s with
   | nil => exact absurd hp (npre_nil _ _)
   | cons c t =>
    rw [List.cons_prefix_cons] at hp
    exact ⟨t, by rw [← hp.1]; rfl⟩
  have HRV := Aside0.mk (show rfV (k + 1) s = rfRow k false t0 by rw [rfV, if_neg HN0.out, if_neg HN1.out, if_neg HN2.out, if_neg HN3.out, if_pos hp, show s.drop 1 = t0 by rw [ht0]; rfl])
  have HMN := Aside0.mk (fun (W : World) => HROW.out false k (Nat.lt_succ_self _) s t0 W ht0 HSL.out HKL.out)
  clear hp ht0
  rw [HZ.out] at HMN
  go_wp2_with fail
  refine (HMN.out w6).mono ?_
  rintro e wq ⟨x, m, x3, x4, rfl, hx3, hx4, hbq, hm, hy, hn⟩
  obtain ⟨X3, p3, rfl⟩ := Kd.R_slice hx3
  obtain ⟨X4, p4, rfl⟩ := Kd.R_slice hx4
  have HX3 := Aside0.mk hx3
  have HX4 := Aside0.mk hx4
  have HYN := Aside0.mk (And.intro hm (And.intro hy hn))
  have hsz := HB6.out.size
  have hlt := blk_lt BR6.out
  have BRq := Aside0.mk (blk_below BR6.out hbq)
  have HBq := Aside0.mk (below_then HB6.out HB6.out.size hbq)
  clear hx3 hx4 hm hy hn hbq
  have o0 := (blk_cell BRq.out 0).trans (rfl : _ = some (Value.int .i64 0))
  have o1 := (blk_cell BRq.out 1).trans (rfl : _ = some (Value.int .i64 0))
  have o2 := (blk_cell BRq.out 2).trans (rfl : _ = some (Value.string ⟨#[]⟩))
  have o3 := (blk_cell BRq.out 3).trans (rfl : _ = some (Value.slice none 0 0))
  have o4 := (blk_cell BRq.out 4).trans (rfl : _ = some (Value.slice none 0 0))
  have i0 := blk_frozen BRq.out 0
  have i1 := blk_frozen BRq.out 1
  have i2 := blk_frozen BRq.out 2
  have i3 := blk_frozen BRq.out 3
  have i4 := blk_frozen BRq.out 4
  go_wp2
  refine bodyPost_ret (results_ct rfl _ _ w.heap.size 25 #[.int .i64 x.f0, .int .i64 x.f1, .string x.f2, .slice X3 x.f3.length p3, .slice X4 x.f4.length p4] (0, 0) _ rfl (fill5 BRq.out) Tryz.underlying25 rfl (by kernel_rfl)) rfl ?_
  refine ⟨x, m, _, _, rfl, Kd.R_mono (Kd.R_lower (Rr_set5 HX3.out (fun k_ hk_ => by omega) _ _ _ _ _) hsz) (fun k_ hk_ => Nat.le_trans hsz hk_), Kd.R_mono (Kd.R_lower (Rr_set5 HX4.out (fun k_ hk_ => by omega) _ _ _ _ _) hsz) (fun k_ hk_ => Nat.le_trans hsz hk_), below_set5 HBq.out (Nat.le_refl _) _ _ _ _ _, HYN.out.1, fun v r e => HYN.out.2.1 v r (by rw [← HRV.out]; exact e), fun e => HYN.out.2.2 (by rw [← HRV.out]; exact e)⟩
 | false =>
 have HN4 := Aside0.mk (show ¬ [91] <+: s from hbf rfl)
 clear hbt hbf
 go_wp2_with fail
 refine (HBG.out [123] ⟨#[123]⟩ rfl w6).mono ?_
 rintro e w7 ⟨b_, rfl, hbt, hbf, hd⟩
 have hb_ := hd.below
 have BR7 := Aside0.mk (blk_below BR6.out hb_)
 have HB7 := Aside0.mk (below_then HB6.out HB6.out.size hb_)
 clear hd hb_ BR6 HB6
 cases b_ with
 | true =>
  have hp := hbt rfl
  clear hbt hbf
  obtain ⟨t0, ht0⟩ : ∃ t0, s = opn true :: t0 := by
   cases s with
   | nil => exact absurd hp (npre_nil _ _)
   | cons c t =>
    rw [List.cons_prefix_cons] at hp
    exact ⟨t, by rw [← hp.1]; rfl⟩
  have HRV := Aside0.mk (show rfV (k + 1) s = rfRow k true t0 by rw [rfV, if_neg HN0.out, if_neg HN1.out, if_neg HN2.out, if_neg HN3.out, if_neg HN4.out, if_pos hp, show s.drop 1 = t0 by rw [ht0]; rfl])
  have HMN := Aside0.mk (fun (W : World) => HROW.out true k (Nat.lt_succ_self _) s t0 W ht0 HSL.out HKL.out)
  clear hp ht0
  rw [HZ.out] at HMN
  go_wp2_with fail
  refine (HMN.out w7).mono ?_
  rintro e wq ⟨x, m, x3, x4, rfl, hx3, hx4, hbq, hm, hy, hn⟩
  obtain ⟨X3, p3, rfl⟩ := Kd.R_slice hx3
  obtain ⟨X4, p4, rfl⟩ := Kd.R_slice hx4
  have HX3 := Aside0.mk hx3
  have HX4 := Aside0.mk hx4
  have HYN := Aside0.mk (And.intro hm (And.intro hy hn))
  have hsz := HB7.out.size
  have hlt := blk_lt BR7.out
  have BRq := Aside0.mk (blk_below BR7.out hbq)
  have HBq := Aside0.mk (below_then HB7.out HB7.out.size hbq)
  clear hx3 hx4 hm hy hn hbq
  have o0 := (blk_cell BRq.out 0).trans (rfl : _ = some (Value.int .i64 0))
  have o1 := (blk_cell BRq.out 1).trans (rfl : _ = some (Value.int .i64 0))
  have o2 := (blk_cell BRq.out 2).trans (rfl : _ = some (Value.string ⟨#[]⟩))
  have o3 := (blk_cell BRq.out 3).trans (rfl : _ = some (Value.slice none 0 0))
  have o4 := (blk_cell BRq.out 4).trans (rfl : _ = some (Value.slice none 0 0))
  have i0 := blk_frozen BRq.out 0
  have i1 := blk_frozen BRq.out 1
  have i2 := blk_frozen BRq.out 2
  have i3 := blk_frozen BRq.out 3
  have i4 := blk_frozen BRq.out 4
  go_wp2
  refine bodyPost_ret (results_ct rfl _ _ w.heap.size 25 #[.int .i64 x.f0, .int .i64 x.f1, .string x.f2, .slice X3 x.f3.length p3, .slice X4 x.f4.length p4] (0, 0) _ rfl (fill5 BRq.out) Tryz.underlying25 rfl (by kernel_rfl)) rfl ?_
  refine ⟨x, m, _, _, rfl, Kd.R_mono (Kd.R_lower (Rr_set5 HX3.out (fun k_ hk_ => by omega) _ _ _ _ _) hsz) (fun k_ hk_ => Nat.le_trans hsz hk_), Kd.R_mono (Kd.R_lower (Rr_set5 HX4.out (fun k_ hk_ => by omega) _ _ _ _ _) hsz) (fun k_ hk_ => Nat.le_trans hsz hk_), below_set5 HBq.out (Nat.le_refl _) _ _ _ _ _, HYN.out.1, fun v r e => HYN.out.2.1 v r (by rw [← HRV.out]; exact e), fun e => HYN.out.2.2 (by rw [← HRV.out]; exact e)⟩
 | false =>
 have HN5 := Aside0.mk (show ¬ [123] <+: s from hbf rfl)
 clear hbt hbf
 go_wp2_with fail
 refine (HBG.out [45] ⟨#[45]⟩ rfl w7).mono ?_
 rintro e w8 ⟨b_, rfl, hbt, hbf, hd⟩
 have hb_ := hd.below
 have BR8 := Aside0.mk (blk_below BR7.out hb_)
 have HB8 := Aside0.mk (below_then HB7.out HB7.out.size hb_)
 clear hd hb_ BR7 HB7
 have HRV := Aside0.mk (show rfV (k + 1) s = rfNum s by rw [rfV, if_neg HN0.out, if_neg HN1.out, if_neg HN2.out, if_neg HN3.out, if_neg HN4.out, if_neg HN5.out])
 cases b_ with
 | true =>
  have hp := hbt rfl
  clear hbt hbf
  have HP := Aside0.mk hp
  clear hp
  have hn0 : 1 ≤ s.length := HP.out.length_le
  have hzN := HZN.out
  go_wp2
  go_loopw [6, 7] (fun v6 v7 wr => ∃ n acc : Nat, v6 = .int .i64 (n : Int) ∧ v7 = .int .i64 (acc : Int) ∧ n ≤ s.length ∧ n ≤ 18 ∧ Aside0 (rfDig 0 17 (s.drop 1) = rfDig acc (18 - n) (s.drop n) ∧ acc < 10 ^ n ∧ 1 ≤ n) ∧ Aside0 (Below w.heap.size w wr) ∧ Aside0 (wr.heap[w.heap.size]? = some (.cells #[.int .i64 0, .int .i64 0, .string ⟨#[]⟩, .slice none 0 0, .slice none 0 0] 25 (0, 0)))) (fun v6 v7 wr => s.length - (intOf v6).toNat)
  case atStart => exact ⟨1, 0, rfl, rfl, hn0, by decide, ⟨rfl, Nat.pow_pos (by decide), Nat.le_refl _⟩, HB8, BR8⟩
  case round =>
   obtain ⟨n, acc, rfl, rfl, hnN, hn18, HD, HB, BR⟩ := hrel
   clear BR8 HB8 hn0
   by_cases hlt : n < s.length
   ·obtain ⟨c, r, hcr⟩ : ∃ c r, s.drop n = c :: r := ⟨_, _, List.drop_eq_getElem_cons hlt⟩
    have hzn : n < z.size := by omega
    have hzc : (((z[n]'hzn).toNat : Nat) : Int) = (c.toNat : Int) := by
     have h1 := bt_at z (n : Int) hzn
     have h2 := (bt_drop (s := ba s) (j := n) (x := c) (t := r) (by rw [bl_ba]; exact hcr)).1
     rw [HZ.out] at h2
     exact h1.trans h2
    have HCR := Aside0.mk hcr
    clear hcr
    by_cases h48 : 48 ≤ c.toNat
    ·have d48 : (48 : Int) ≤ (c.toNat : Int) := by omega
     by_cases h57 : c.toNat ≤ 57
     ·have d57 : (c.toNat : Int) ≤ 57 := by omega
      by_cases h18 : n < 18
      ·have d18 : (n : Int) < 18 := by omega
       go_wp2_with fail
       go_roundw
       case rel =>
        obtain ⟨q1, q2, q3⟩ := num_step HCR.out h48 h57 h18 HD.out.2.1
        exact ⟨n + 1, acc * 10 + (c.toNat - 48), rfl, congrArg (Value.int .i64) q1, hlt, h18, ⟨HD.out.1.trans q2, q3, Nat.le_succ_of_le HD.out.2.2⟩, HB, BR⟩
       case measure =>
        show s.length - ((n : Int) + 1).toNat < s.length - ((n : Nat) : Int).toNat
        rw [Int.toNat_natCast]
        omega
      ·have d18 : ¬ (n : Int) < 18 := by omega
       have HFN := Aside0.mk (show rfDig 0 17 (s.drop 1) = (acc, s.drop n) by rw [HD.out.1]; exact (by rw [show 18 - n = 0 by omega]; rfl))
       have HNM := Aside0.mk (num_endN hnN HP.out HFN.out HD.out.2.1 hn18 HD.out.2.2)
       go_wp2_with fail
       refine (HBG.out [45] ⟨#[45]⟩ rfl wr).mono ?_
       rintro e wx ⟨b_, rfl, hbt, hbf, hd⟩
       have hb_ := hd.below
       have BRx := Aside0.mk (blk_below BR.out hb_)
       have HBx := Aside0.mk (below_then HB.out HB.out.size hb_)
       clear hd hb_
       cases b_ with
       | false => exact absurd HP.out (hbf rfl)
       | true =>
        clear hbt hbf
        have o0 := (blk_cell BRx.out 0).trans (rfl : _ = some (Value.int .i64 0))
        have o1 := (blk_cell BRx.out 1).trans (rfl : _ = some (Value.int .i64 0))
        have o2 := (blk_cell BRx.out 2).trans (rfl : _ = some (Value.string ⟨#[]⟩))
        have o3 := (blk_cell BRx.out 3).trans (rfl : _ = some (Value.slice none 0 0))
        have o4 := (blk_cell BRx.out 4).trans (rfl : _ = some (Value.slice none 0 0))
        have i0 := blk_frozen BRx.out 0
        have i1 := blk_frozen BRx.out 1
        have i2 := blk_frozen BRx.out 2
        have i3 := blk_frozen BRx.out 3
        have i4 := blk_frozen BRx.out 4
        go_wp2
        refine bodyPost_ret (results_ct rfl _ _ w.heap.size 25 #[.int .i64 3, .int .i64 (wrap64 (-(acc : Int))), .string ⟨#[]⟩, .slice none 0 0, .slice none 0 0] (0, 0) _ rfl (fill5 BRx.out) Tryz.underlying25 rfl (by kernel_rfl)) rfl ?_
        refine ⟨⟨3, (wrap64 (-(acc : Int))), ⟨#[]⟩, [], []⟩, n, _, _, rfl, Kd.R_nil _ _ _ _ _, Kd.R_nil _ _ _ _ _, below_set5 HBx.out (Nat.le_refl _) _ _ _ _ _, hnN, fun v r e => HNM.out.1 v r (by rw [← HRV.out]; exact e), fun e => HNM.out.2 (by rw [← HRV.out]; exact e)⟩
     ·have d57 : ¬ (c.toNat : Int) ≤ 57 := by omega
      have HFN := Aside0.mk (show rfDig 0 17 (s.drop 1) = (acc, s.drop n) by rw [HD.out.1]; exact (rf_end HCR.out (by unfold isdig; rw [decide_eq_false h57, Bool.and_false])))
      have HNM := Aside0.mk (num_endN hnN HP.out HFN.out HD.out.2.1 hn18 HD.out.2.2)
      go_wp2_with fail
      refine (HBG.out [45] ⟨#[45]⟩ rfl wr).mono ?_
      rintro e wx ⟨b_, rfl, hbt, hbf, hd⟩
      have hb_ := hd.below
      have BRx := Aside0.mk (blk_below BR.out hb_)
      have HBx := Aside0.mk (below_then HB.out HB.out.size hb_)
      clear hd hb_
      cases b_ with
      | false => exact absurd HP.out (hbf rfl)
      | true =>
       clear hbt hbf
       have o0 := (blk_cell BRx.out 0).trans (rfl : _ = some (Value.int .i64 0))
       have o1 := (blk_cell BRx.out 1).trans (rfl : _ = some (Value.int .i64 0))
       have o2 := (blk_cell BRx.out 2).trans (rfl : _ = some (Value.string ⟨#[]⟩))
       have o3 := (blk_cell BRx.out 3).trans (rfl : _ = some (Value.slice none 0 0))
       have o4 := (blk_cell BRx.out 4).trans (rfl : _ = some (Value.slice none 0 0))
       have i0 := blk_frozen BRx.out 0
       have i1 := blk_frozen BRx.out 1
       have i2 := blk_frozen BRx.out 2
       have i3 := blk_frozen BRx.out 3
       have i4 := blk_frozen BRx.out 4
       go_wp2
       refine bodyPost_ret (results_ct rfl _ _ w.heap.size 25 #[.int .i64 3, .int .i64 (wrap64 (-(acc : Int))), .string ⟨#[]⟩, .slice none 0 0, .slice none 0 0] (0, 0) _ rfl (fill5 BRx.out) Tryz.underlying25 rfl (by kernel_rfl)) rfl ?_
       refine ⟨⟨3, (wrap64 (-(acc : Int))), ⟨#[]⟩, [], []⟩, n, _, _, rfl, Kd.R_nil _ _ _ _ _, Kd.R_nil _ _ _ _ _, below_set5 HBx.out (Nat.le_refl _) _ _ _ _ _, hnN, fun v r e => HNM.out.1 v r (by rw [← HRV.out]; exact e), fun e => HNM.out.2 (by rw [← HRV.out]; exact e)⟩
    ·have d48 : ¬ (48 : Int) ≤ (c.toNat : Int) := by omega
     have HFN := Aside0.mk (show rfDig 0 17 (s.drop 1) = (acc, s.drop n) by rw [HD.out.1]; exact (rf_end HCR.out (by unfold isdig; rw [decide_eq_false h48, Bool.false_and])))
     have HNM := Aside0.mk (num_endN hnN HP.out HFN.out HD.out.2.1 hn18 HD.out.2.2)
     go_wp2_with fail
     refine (HBG.out [45] ⟨#[45]⟩ rfl wr).mono ?_
     rintro e wx ⟨b_, rfl, hbt, hbf, hd⟩
     have hb_ := hd.below
     have BRx := Aside0.mk (blk_below BR.out hb_)
     have HBx := Aside0.mk (below_then HB.out HB.out.size hb_)
     clear hd hb_
     cases b_ with
     | false => exact absurd HP.out (hbf rfl)
     | true =>
      clear hbt hbf
      have o0 := (blk_cell BRx.out 0).trans (rfl : _ = some (Value.int .i64 0))
      have o1 := (blk_cell BRx.out 1).trans (rfl : _ = some (Value.int .i64 0))
      have o2 := (blk_cell BRx.out 2).trans (rfl : _ = some (Value.string ⟨#[]⟩))
      have o3 := (blk_cell BRx.out 3).trans (rfl : _ = some (Value.slice none 0 0))
      have o4 := (blk_cell BRx.out 4).trans (rfl : _ = some (Value.slice none 0 0))
      have i0 := blk_frozen BRx.out 0
      have i1 := blk_frozen BRx.out 1
      have i2 := blk_frozen BRx.out 2
      have i3 := blk_frozen BRx.out 3
      have i4 := blk_frozen BRx.out 4
      go_wp2
      refine bodyPost_ret (results_ct rfl _ _ w.heap.size 25 #[.int .i64 3, .int .i64 (wrap64 (-(acc : Int))), .string ⟨#[]⟩, .slice none 0 0, .slice none 0 0] (0, 0) _ rfl (fill5 BRx.out) Tryz.underlying25 rfl (by kernel_rfl)) rfl ?_
      refine ⟨⟨3, (wrap64 (-(acc : Int))), ⟨#[]⟩, [], []⟩, n, _, _, rfl, Kd.R_nil _ _ _ _ _, Kd.R_nil _ _ _ _ _, below_set5 HBx.out (Nat.le_refl _) _ _ _ _ _, hnN, fun v r e => HNM.out.1 v r (by rw [← HRV.out]; exact e), fun e => HNM.out.2 (by rw [← HRV.out]; exact e)⟩
   ·
    have HFN := Aside0.mk (show rfDig 0 17 (s.drop 1) = (acc, s.drop n) by rw [HD.out.1]; exact (by rw [List.drop_of_length_le (by omega)]; cases 18 - n <;> rfl))
    have HNM := Aside0.mk (num_endN hnN HP.out HFN.out HD.out.2.1 hn18 HD.out.2.2)
    go_wp2_with fail
    refine (HBG.out [45] ⟨#[45]⟩ rfl wr).mono ?_
    rintro e wx ⟨b_, rfl, hbt, hbf, hd⟩
    have hb_ := hd.below
    have BRx := Aside0.mk (blk_below BR.out hb_)
    have HBx := Aside0.mk (below_then HB.out HB.out.size hb_)
    clear hd hb_
    cases b_ with
    | false => exact absurd HP.out (hbf rfl)
    | true =>
     clear hbt hbf
     have o0 := (blk_cell BRx.out 0).trans (rfl : _ = some (Value.int .i64 0))
     have o1 := (blk_cell BRx.out 1).trans (rfl : _ = some (Value.int .i64 0))
     have o2 := (blk_cell BRx.out 2).trans (rfl : _ = some (Value.string ⟨#[]⟩))
     have o3 := (blk_cell BRx.out 3).trans (rfl : _ = some (Value.slice none 0 0))
     have o4 := (blk_cell BRx.out 4).trans (rfl : _ = some (Value.slice none 0 0))
     have i0 := blk_frozen BRx.out 0
     have i1 := blk_frozen BRx.out 1
     have i2 := blk_frozen BRx.out 2
     have i3 := blk_frozen BRx.out 3
     have i4 := blk_frozen BRx.out 4
     go_wp2
     refine bodyPost_ret (results_ct rfl _ _ w.heap.size 25 #[.int .i64 3, .int .i64 (wrap64 (-(acc : Int))), .string ⟨#[]⟩, .slice none 0 0, .slice none 0 0] (0, 0) _ rfl (fill5 BRx.out) Tryz.underlying25 rfl (by kernel_rfl)) rfl ?_
     refine ⟨⟨3, (wrap64 (-(acc : Int))), ⟨#[]⟩, [], []⟩, n, _, _, rfl, Kd.R_nil _ _ _ _ _, Kd.R_nil _ _ _ _ _, below_set5 HBx.out (Nat.le_refl _) _ _ _ _ _, hnN, fun v r e => HNM.out.1 v r (by rw [← HRV.out]; exact e), fun e => HNM.out.2 (by rw [← HRV.out]; exact e)⟩
 | false =>
  have hp := hbf rfl
  clear hbt hbf
  have HP := Aside0.mk hp
  clear hp
  have hn0 : 0 ≤ s.length := Nat.zero_le _
  have hzN := HZN.out
  go_wp2
  go_loopw [6, 7] (fun v6 v7 wr => ∃ n acc : Nat, v6 = .int .i64 (n : Int) ∧ v7 = .int .i64 (acc : Int) ∧ n ≤ s.length ∧ n ≤ 18 ∧ Aside0 (rfDig 0 18 (s.drop 0) = rfDig acc (18 - n) (s.drop n) ∧ acc < 10 ^ n ∧ 0 ≤ n) ∧ Aside0 (Below w.heap.size w wr) ∧ Aside0 (wr.heap[w.heap.size]? = some (.cells #[.int .i64 0, .int .i64 0, .string ⟨#[]⟩, .slice none 0 0, .slice none 0 0] 25 (0, 0)))) (fun v6 v7 wr => s.length - (intOf v6).toNat)
  case atStart => exact ⟨0, 0, rfl, rfl, hn0, by decide, ⟨rfl, Nat.pow_pos (by decide), Nat.le_refl _⟩, HB8, BR8⟩
  case round =>
   obtain ⟨n, acc, rfl, rfl, hnN, hn18, HD, HB, BR⟩ := hrel
   clear BR8 HB8 hn0
   by_cases hlt : n < s.length
   ·obtain ⟨c, r, hcr⟩ : ∃ c r, s.drop n = c :: r := ⟨_, _, List.drop_eq_getElem_cons hlt⟩
    have hzn : n < z.size := by omega
    have hzc : (((z[n]'hzn).toNat : Nat) : Int) = (c.toNat : Int) := by
     have h1 := bt_at z (n : Int) hzn
     have h2 := (bt_drop (s := ba s) (j := n) (x := c) (t := r) (by rw [bl_ba]; exact hcr)).1
     rw [HZ.out] at h2
     exact h1.trans h2
    have HCR := Aside0.mk hcr
    clear hcr
    by_cases h48 : 48 ≤ c.toNat
    ·have d48 : (48 : Int) ≤ (c.toNat : Int) := by omega
     by_cases h57 : c.toNat ≤ 57
     ·have d57 : (c.toNat : Int) ≤ 57 := by omega
      by_cases h18 : n < 18
      ·have d18 : (n : Int) < 18 := by omega
       go_wp2_with fail
       go_roundw
       case rel =>
        obtain ⟨q1, q2, q3⟩ := num_step HCR.out h48 h57 h18 HD.out.2.1
        exact ⟨n + 1, acc * 10 + (c.toNat - 48), rfl, congrArg (Value.int .i64) q1, hlt, h18, ⟨HD.out.1.trans q2, q3, Nat.le_succ_of_le HD.out.2.2⟩, HB, BR⟩
       case measure =>
        show s.length - ((n : Int) + 1).toNat < s.length - ((n : Nat) : Int).toNat
        rw [Int.toNat_natCast]
        omega
      ·have d18 : ¬ (n : Int) < 18 := by omega
       have HFN := Aside0.mk (show rfDig 0 18 (s.drop 0) = (acc, s.drop n) by rw [HD.out.1]; exact (by rw [show 18 - n = 0 by omega]; rfl))
       have HNM := Aside0.mk (num_end hnN HP.out HFN.out HD.out.2.1 hn18)
       go_wp2_with fail
       refine (HBG.out [45] ⟨#[45]⟩ rfl wr).mono ?_
       rintro e wx ⟨b_, rfl, hbt, hbf, hd⟩
       have hb_ := hd.below
       have BRx := Aside0.mk (blk_below BR.out hb_)
       have HBx := Aside0.mk (below_then HB.out HB.out.size hb_)
       clear hd hb_
       cases b_ with
       | true => exact absurd (hbt rfl) HP.out
       | false =>
        clear hbt hbf
        have o0 := (blk_cell BRx.out 0).trans (rfl : _ = some (Value.int .i64 0))
        have o1 := (blk_cell BRx.out 1).trans (rfl : _ = some (Value.int .i64 0))
        have o2 := (blk_cell BRx.out 2).trans (rfl : _ = some (Value.string ⟨#[]⟩))
        have o3 := (blk_cell BRx.out 3).trans (rfl : _ = some (Value.slice none 0 0))
        have o4 := (blk_cell BRx.out 4).trans (rfl : _ = some (Value.slice none 0 0))
        have i0 := blk_frozen BRx.out 0
        have i1 := blk_frozen BRx.out 1
        have i2 := blk_frozen BRx.out 2
        have i3 := blk_frozen BRx.out 3
        have i4 := blk_frozen BRx.out 4
        go_wp2
        refine bodyPost_ret (results_ct rfl _ _ w.heap.size 25 #[.int .i64 3, .int .i64 (acc : Int), .string ⟨#[]⟩, .slice none 0 0, .slice none 0 0] (0, 0) _ rfl (fill5 BRx.out) Tryz.underlying25 rfl (by kernel_rfl)) rfl ?_
        refine ⟨⟨3, (acc : Int), ⟨#[]⟩, [], []⟩, n, _, _, rfl, Kd.R_nil _ _ _ _ _, Kd.R_nil _ _ _ _ _, below_set5 HBx.out (Nat.le_refl _) _ _ _ _ _, hnN, fun v r e => HNM.out.1 v r (by rw [← HRV.out]; exact e), fun e => HNM.out.2 (by rw [← HRV.out]; exact e)⟩
     ·have d57 : ¬ (c.toNat : Int) ≤ 57 := by omega
      have HFN := Aside0.mk (show rfDig 0 18 (s.drop 0) = (acc, s.drop n) by rw [HD.out.1]; exact (rf_end HCR.out (by unfold isdig; rw [decide_eq_false h57, Bool.and_false])))
      have HNM := Aside0.mk (num_end hnN HP.out HFN.out HD.out.2.1 hn18)
      go_wp2_with fail
      refine (HBG.out [45] ⟨#[45]⟩ rfl wr).mono ?_
      rintro e wx ⟨b_, rfl, hbt, hbf, hd⟩
      have hb_ := hd.below
      have BRx := Aside0.mk (blk_below BR.out hb_)
      have HBx := Aside0.mk (below_then HB.out HB.out.size hb_)
      clear hd hb_
      cases b_ with
      | true => exact absurd (hbt rfl) HP.out
      | false =>
       clear hbt hbf
       have o0 := (blk_cell BRx.out 0).trans (rfl : _ = some (Value.int .i64 0))
       have o1 := (blk_cell BRx.out 1).trans (rfl : _ = some (Value.int .i64 0))
       have o2 := (blk_cell BRx.out 2).trans (rfl : _ = some (Value.string ⟨#[]⟩))
       have o3 := (blk_cell BRx.out 3).trans (rfl : _ = some (Value.slice none 0 0))
       have o4 := (blk_cell BRx.out 4).trans (rfl : _ = some (Value.slice none 0 0))
       have i0 := blk_frozen BRx.out 0
       have i1 := blk_frozen BRx.out 1
       have i2 := blk_frozen BRx.out 2
       have i3 := blk_frozen BRx.out 3
       have i4 := blk_frozen BRx.out 4
       go_wp2
       refine bodyPost_ret (results_ct rfl _ _ w.heap.size 25 #[.int .i64 3, .int .i64 (acc : Int), .string ⟨#[]⟩, .slice none 0 0, .slice none 0 0] (0, 0) _ rfl (fill5 BRx.out) Tryz.underlying25 rfl (by kernel_rfl)) rfl ?_
       refine ⟨⟨3, (acc : Int), ⟨#[]⟩, [], []⟩, n, _, _, rfl, Kd.R_nil _ _ _ _ _, Kd.R_nil _ _ _ _ _, below_set5 HBx.out (Nat.le_refl _) _ _ _ _ _, hnN, fun v r e => HNM.out.1 v r (by rw [← HRV.out]; exact e), fun e => HNM.out.2 (by rw [← HRV.out]; exact e)⟩
    ·have d48 : ¬ (48 : Int) ≤ (c.toNat : Int) := by omega
     have HFN := Aside0.mk (show rfDig 0 18 (s.drop 0) = (acc, s.drop n) by rw [HD.out.1]; exact (rf_end HCR.out (by unfold isdig; rw [decide_eq_false h48, Bool.false_and])))
     have HNM := Aside0.mk (num_end hnN HP.out HFN.out HD.out.2.1 hn18)
     go_wp2_with fail
     refine (HBG.out [45] ⟨#[45]⟩ rfl wr).mono ?_
     rintro e wx ⟨b_, rfl, hbt, hbf, hd⟩
     have hb_ := hd.below
     have BRx := Aside0.mk (blk_below BR.out hb_)
     have HBx := Aside0.mk (below_then HB.out HB.out.size hb_)
     clear hd hb_
     cases b_ with
     | true => exact absurd (hbt rfl) HP.out
     | false =>
      clear hbt hbf
      have o0 := (blk_cell BRx.out 0).trans (rfl : _ = some (Value.int .i64 0))
      have o1 := (blk_cell BRx.out 1).trans (rfl : _ = some (Value.int .i64 0))
      have o2 := (blk_cell BRx.out 2).trans (rfl : _ = some (Value.string ⟨#[]⟩))
      have o3 := (blk_cell BRx.out 3).trans (rfl : _ = some (Value.slice none 0 0))
      have o4 := (blk_cell BRx.out 4).trans (rfl : _ = some (Value.slice none 0 0))
      have i0 := blk_frozen BRx.out 0
      have i1 := blk_frozen BRx.out 1
      have i2 := blk_frozen BRx.out 2
      have i3 := blk_frozen BRx.out 3
      have i4 := blk_frozen BRx.out 4
      go_wp2
      refine bodyPost_ret (results_ct rfl _ _ w.heap.size 25 #[.int .i64 3, .int .i64 (acc : Int), .string ⟨#[]⟩, .slice none 0 0, .slice none 0 0] (0, 0) _ rfl (fill5 BRx.out) Tryz.underlying25 rfl (by kernel_rfl)) rfl ?_
      refine ⟨⟨3, (acc : Int), ⟨#[]⟩, [], []⟩, n, _, _, rfl, Kd.R_nil _ _ _ _ _, Kd.R_nil _ _ _ _ _, below_set5 HBx.out (Nat.le_refl _) _ _ _ _ _, hnN, fun v r e => HNM.out.1 v r (by rw [← HRV.out]; exact e), fun e => HNM.out.2 (by rw [← HRV.out]; exact e)⟩
   ·
    have HFN := Aside0.mk (show rfDig 0 18 (s.drop 0) = (acc, s.drop n) by rw [HD.out.1]; exact (by rw [List.drop_of_length_le (by omega)]; cases 18 - n <;> rfl))
    have HNM := Aside0.mk (num_end hnN HP.out HFN.out HD.out.2.1 hn18)
    go_wp2_with fail
    refine (HBG.out [45] ⟨#[45]⟩ rfl wr).mono ?_
    rintro e wx ⟨b_, rfl, hbt, hbf, hd⟩
    have hb_ := hd.below
    have BRx := Aside0.mk (blk_below BR.out hb_)
    have HBx := Aside0.mk (below_then HB.out HB.out.size hb_)
    clear hd hb_
    cases b_ with
    | true => exact absurd (hbt rfl) HP.out
    | false =>
     clear hbt hbf
     have o0 := (blk_cell BRx.out 0).trans (rfl : _ = some (Value.int .i64 0))
     have o1 := (blk_cell BRx.out 1).trans (rfl : _ = some (Value.int .i64 0))
     have o2 := (blk_cell BRx.out 2).trans (rfl : _ = some (Value.string ⟨#[]⟩))
     have o3 := (blk_cell BRx.out 3).trans (rfl : _ = some (Value.slice none 0 0))
     have o4 := (blk_cell BRx.out 4).trans (rfl : _ = some (Value.slice none 0 0))
     have i0 := blk_frozen BRx.out 0
     have i1 := blk_frozen BRx.out 1
     have i2 := blk_frozen BRx.out 2
     have i3 := blk_frozen BRx.out 3
     have i4 := blk_frozen BRx.out 4
     go_wp2
     refine bodyPost_ret (results_ct rfl _ _ w.heap.size 25 #[.int .i64 3, .int .i64 (acc : Int), .string ⟨#[]⟩, .slice none 0 0, .slice none 0 0] (0, 0) _ rfl (fill5 BRx.out) Tryz.underlying25 rfl (by kernel_rfl)) rfl ?_
     refine ⟨⟨3, (acc : Int), ⟨#[]⟩, [], []⟩, n, _, _, rfl, Kd.R_nil _ _ _ _ _, Kd.R_nil _ _ _ _ _, below_set5 HBx.out (Nat.le_refl _) _ _ _ _ _, hnN, fun v r e => HNM.out.1 v r (by rw [← HRV.out]; exact e), fun e => HNM.out.2 (by rw [← HRV.out]; exact e)⟩
theorem r_all : ∀ k, VCR k ∧ ∀ obj, RCR k obj := by
 intro k
 induction k using Nat.strongRecOn with
 | _ k ih =>
  refine ⟨rvalue_calls k (fun obj j hj => (ih j hj).2 obj), fun obj => ?_⟩
  cases obj with
  | true => exact manyO_calls k (fun j hj => (ih j hj).1)
  | false => exact manyL_calls k (fun j hj => (ih j hj).1)
end Go.Proofs.YtifejhbochkifaaGreatDoor.X
