/- json.Same: are two values the same? -/
import Derived.Test.YtifejhbochkifaaGreatDoorHJh
import Derived.Test.YtifejhbochkifaaGreatDoorHCpy
import Derived.Test.YtifejhbochkifaaGreatDoorX17
namespace Go.Proofs.YtifejhbochkifaaGreatDoor.X
open Go.RowKit Go.Proofs.YtifejhbochkifaaGreatDoorW.PrintWords Go.Proofs.YtifejhbochkifaaGreatDoorW.PrintLast Go.Proofs.YtifejhbochkifaaGreatDoorW.PrintMore Go.Proofs.YtifejhbochkifaaGreatDoor.Spec
set_option linter.unusedVariables false
set_option linter.unusedSimpArgs false
theorem eqs_l0 (l m : List ByteArray) (hl : l.length ≤ 1000000000) (he : l.length = m.length) : ∀ n i, i + n = l.length → l.take i = m.take i → Ev (fun k => slices_Equal_string_string.l0 k l m (l.length : Int) (i : Int)) (decide (l = m)) := by
 intro n
 induction n with
 | zero =>
  intro i hi hp
  refine Ev.step (fun k => by rw [slices_Equal_string_string.l0]) ?_
  refine Ev.if_neg (by omega) ((Ev.some _).uni ?_)
  rw [List.take_of_length_le (by omega), List.take_of_length_le (by omega)] at hp
  rw [hp]; simp
 | succ n ih =>
  intro i hi hp
  have h1 : i < l.length := by omega
  have h2 : i < m.length := by omega
  refine Ev.step (fun k => by rw [slices_Equal_string_string.l0]) ?_
  refine Ev.if_pos (by omega) (Ev.if_pos (by omega) (Ev.if_pos (by omega) (Ev.if_pos (by omega) ?_)))
  rw [rdOf_at _ i h1, rdOf_at _ i h2]
  by_cases hx : l[i] = m[i]
  ·refine Ev.if_pos (by rw [hx]) ?_
   rw [w64 (by omega) (by omega)]
   exact ih (i + 1) (by omega) (take_succ_eq h1 h2 hp hx)
  ·refine Ev.if_neg (fun h => hx (toList_inj.1 h)) ((Ev.some _).uni ?_)
   refine (decide_eq_false ?_).symm
   rintro rfl
   exact hx rfl
theorem eqs_ev (l m : List ByteArray) (hl : l.length ≤ 1000000000) : Ev (fun k => slices_Equal_string_string.f k l m) (decide (l = m)) := by
 by_cases he : l.length = m.length
 ·exact Ev.if_pos (by omega) (eqs_l0 l m hl he l.length 0 (by omega) rfl)
 ·refine Ev.if_neg (by omega) ((Ev.some _).uni (decide_eq_false ?_).symm)
  rintro rfl
  exact he rfl
def SC (d : Nat) : Prop := ∀ (v x : V), limB d v = true → ∀ (A3 A4 B3 B4 : Option Addr) (q3 q4 p3 p4 : Nat) (w : World), v.f3.length ≤ q3 → Kd.C k25 w A3 v.f3.length v.f3 → v.f4.length ≤ q4 → Kd.C Kd.string w A4 v.f4.length v.f4 → x.f3.length ≤ p3 → Kd.C k25 w B3 x.f3.length x.f3 → x.f4.length ≤ p4 → Kd.C Kd.string w B4 x.f4.length x.f4 →
  Calls Tryz.prog 21 #[.agg #[.int .i64 v.f0, .int .i64 v.f1, .string v.f2, .slice A3 v.f3.length q3, .slice A4 v.f4.length q4], .agg #[.int .i64 x.f0, .int .i64 x.f1, .string x.f2, .slice B3 x.f3.length p3, .slice B4 x.f4.length p4]] w fun e w' => e = .returned (.bool (eqB v x)) ∧ Below w.heap.size w w'
noncomputable def eqL (l m : List V) : Bool := @decide (l = m) (Classical.propDecidable _)
theorem eqL_true {l m : List V} (h : l = m) : eqL l m = true := @decide_eq_true _ (Classical.propDecidable _) h
theorem eqL_false {l m : List V} (h : l ≠ m) : eqL l m = false := @decide_eq_false _ (Classical.propDecidable _) h
set_option maxHeartbeats 16000000 in
set_option maxRecDepth 100000 in
theorem efunc_calls (d : Nat) (IH : SC d) (l m : List V) (hla : ∀ y ∈ l, limB d y = true) (hl : l.length ≤ 1000000000) (A B : Option Addr) (c q : Nat) (w : World) (hA : Kd.C k25 w A l.length l) (hc : l.length ≤ c) (hB : Kd.C k25 w B m.length m) (hq : m.length ≤ q) :
  Calls Tryz.prog 36 #[.slice A l.length c, .slice B m.length q, .func (.func 21) #[] #[]] w fun e w' => e = .returned (.bool (eqL l m)) ∧ Below w.heap.size w w' := by
 by_cases he : l.length = m.length
 rotate_left
 ·have hi : ¬ (l.length : Int) = (m.length : Int) := by omega
  have hne : ((l.length : Int) != (m.length : Int)) = true := bne_iff_ne.2 hi
  rw [eqL_false (fun e => he (by rw [e]))]
  go_enter Tryz.func36, Tryz.ntmps36
  go_wp2
  go_ret
  exact ⟨rfl, Below.refl _ _⟩
 have HA := Aside0.mk hA
 have HB := Aside0.mk hB
 have HE := Aside0.mk he
 have HLA := Aside0.mk hla
 have HIH := Aside0.mk IH
 have hne : ((l.length : Int) != (m.length : Int)) = false := by rw [he]; simp
 have hmax := hA.2.1
 clear hA hB he hla IH
 go_enter Tryz.func36, Tryz.ntmps36
 go_wp2
 go_loopw [17] (fun v17 wr => ∃ i : Nat, v17 = .int .i64 (i : Int) ∧ i ≤ l.length ∧ Aside0 (l.take i = m.take i) ∧ Aside0 (Below w.heap.size w wr)) (fun v17 wr => l.length - (intOf v17).toNat)
 case atStart => exact ⟨0, rfl, Nat.zero_le _, ⟨rfl⟩, ⟨Below.refl _ _⟩⟩
 case round =>
  obtain ⟨i, rfl, hil, HT, HW⟩ := hrel
  by_cases hlt : i < l.length
  ·have hlm : i < m.length := by have := HE.out; omega
   have p0 : (0 : Int) ≤ (i : Int) := by omega
   have q0 : (i : Int) < (l.length : Int) := by omega
   have q1 : (i : Int) < (m.length : Int) := by omega
   obtain ⟨y, hy⟩ : ∃ y, l[i]'hlt = y := ⟨_, rfl⟩
   obtain ⟨x, hx⟩ : ∃ x, m[i]'hlm = x := ⟨_, rfl⟩
   obtain ⟨ad, A3, a3, A4, a4, rfl, hx_0, hx_1, hx_2, hx_3, hx_4, hl_3, hi_3, hl_4, hi_4⟩ := at_T25 (Kd.C_below HA.out HW.out) (i : Int) p0 q0
   obtain ⟨bd, B3, b3, B4, b4, rfl, hz_0, hz_1, hz_2, hz_3, hz_4, hk_3, hj_3, hk_4, hj_4⟩ := at_T25 (Kd.C_below HB.out HW.out) (i : Int) p0 q1
   rw [rd_at l i hlt, hy] at hx_0 hx_1 hx_2 hx_3 hx_4 hl_3 hi_3 hl_4 hi_4
   rw [rd_at m i hlm, hx] at hz_0 hz_1 hz_2 hz_3 hz_4 hk_3 hj_3 hk_4 hj_4
   simp only [Int.toNat_natCast] at hx_0 hx_1 hx_2 hx_3 hx_4 hz_0 hz_1 hz_2 hz_3 hz_4
   have hyl := HLA.out y (by rw [← hy]; exact List.getElem_mem hlt)
   obtain ⟨W1, hW1⟩ : ∃ W, wr.alloc (.cells #[.int .i64 y.f0, .int .i64 y.f1, .string y.f2, .slice A3 y.f3.length a3, .slice A4 y.f4.length a4] 25) = W := ⟨_, rfl⟩
   have hb1 : Below wr.heap.size wr W1 := by rw [← hW1]; exact below_alloc (Below.refl _ _) _
   have by1 : W1.heap[wr.heap.size]? = some (.cells #[.int .i64 y.f0, .int .i64 y.f1, .string y.f2, .slice A3 y.f3.length a3, .slice A4 y.f4.length a4] 25 (0, 0)) := by rw [← hW1]; exact blk_new _ _
   have z_0 := (hb1.cell (World.block_lt_of_cell? _ _ hz_0)).trans hz_0
   have z_1 := (hb1.cell (World.block_lt_of_cell? _ _ hz_1)).trans hz_1
   have z_2 := (hb1.cell (World.block_lt_of_cell? _ _ hz_2)).trans hz_2
   have z_3 := (hb1.cell (World.block_lt_of_cell? _ _ hz_3)).trans hz_3
   have z_4 := (hb1.cell (World.block_lt_of_cell? _ _ hz_4)).trans hz_4
   obtain ⟨W2, hW2⟩ : ∃ W, W1.alloc (.cells #[.int .i64 x.f0, .int .i64 x.f1, .string x.f2, .slice B3 x.f3.length b3, .slice B4 x.f4.length b4] 25) = W := ⟨_, rfl⟩
   have hb2 : Below W1.heap.size W1 W2 := by rw [← hW2]; exact below_alloc (Below.refl _ _) _
   have by2 := blk_below by1 hb2
   have bx2 : W2.heap[W1.heap.size]? = some (.cells #[.int .i64 x.f0, .int .i64 x.f1, .string x.f2, .slice B3 x.f3.length b3, .slice B4 x.f4.length b4] 25 (0, 0)) := by rw [← hW2]; exact blk_new _ _
   have hb12 := below_then hb1 hb1.size hb2
   have HSM := Aside0.mk (HIH.out y x hyl A3 A4 B3 B4 a3 a4 b3 b4 W2 hl_3 (Kd.C_below hi_3 hb12) hl_4 (Kd.C_below hi_4 hb12) hk_3 (Kd.C_below hj_3 hb12) hk_4 (Kd.C_below hj_4 hb12))
   have HBW := Aside0.mk (below_then HW.out HW.out.size hb12)
   have m0 := (blk_cell by2 0).trans (rfl : _ = some (Value.int .i64 y.f0))
   have m1 := (blk_cell by2 1).trans (rfl : _ = some (Value.int .i64 y.f1))
   have m2 := (blk_cell by2 2).trans (rfl : _ = some (Value.string y.f2))
   have m3 := (blk_cell by2 3).trans (rfl : _ = some (Value.slice A3 y.f3.length a3))
   have m4 := (blk_cell by2 4).trans (rfl : _ = some (Value.slice A4 y.f4.length a4))
   have n0 := (blk_cell bx2 0).trans (rfl : _ = some (Value.int .i64 x.f0))
   have n1 := (blk_cell bx2 1).trans (rfl : _ = some (Value.int .i64 x.f1))
   have n2 := (blk_cell bx2 2).trans (rfl : _ = some (Value.string x.f2))
   have n3 := (blk_cell bx2 3).trans (rfl : _ = some (Value.slice B3 x.f3.length b3))
   have n4 := (blk_cell bx2 4).trans (rfl : _ = some (Value.slice B4 x.f4.length b4))
   have HY := Aside0.mk hy
   have HX := Aside0.mk hx
   have HW1 := Aside0.mk hW1
   have HW2 := Aside0.mk hW2
   clear hW1 hW2 hb1 hb2 by1 by2 bx2 hb12 hyl hl_3 hi_3 hl_4 hi_4 hk_3 hj_3 hk_4 hj_4 hz_0 hz_1 hz_2 hz_3 hz_4 hy hx
   go_wp2_with (first | rw [HW1.out] | rw [HW2.out])
   refine HSM.out.mono ?_
   rintro e w3 ⟨rfl, hb3⟩
   have HB3 := Aside0.mk (below_then HBW.out HBW.out.size hb3)
   clear hb3 m0 m1 m2 m3 m4 n0 n1 n2 n3 n4 hx_0 hx_1 hx_2 hx_3 hx_4 z_0 z_1 z_2 z_3 z_4
   by_cases hxy : y = x
   ·rw [eqB_true hxy]
    have HT2 := Aside0.mk (take_succ_eq hlt hlm HT.out (by rw [HY.out, HX.out]; exact hxy))
    clear hxy
    go_wp2
    go_roundw
    case rel => exact ⟨i + 1, rfl, hlt, HT2, HB3⟩
    case measure =>
     show l.length - ((i : Int) + 1).toNat < l.length - ((i : Nat) : Int).toNat
     rw [Int.toNat_natCast]
     omega
   ·rw [eqB_false hxy]
    have HR := Aside0.mk (eqL_false (l := l) (m := m) (fun e => hxy (by rw [← HY.out, ← HX.out]; subst e; rfl)))
    clear hxy
    go_wp2
    go_ret
    exact ⟨by rw [HR.out]; rfl, HB3.out⟩
  ·have HR := Aside0.mk (eqL_true (l := l) (m := m) (by
    have h := HT.out
    rwa [List.take_of_length_le (by omega), List.take_of_length_le (by have := HE.out; omega)] at h))
   go_wp2
   go_ret
   exact ⟨by rw [HR.out]; rfl, HW.out⟩
theorem eqB_ext {v x : V} (h0 : v.f0 = x.f0) (h1 : v.f1 = x.f1) (h2 : v.f2 = x.f2) (h4 : v.f4 = x.f4) : eqB v x = eqL v.f3 x.f3 := by
 by_cases h3 : v.f3 = x.f3
 ·rw [eqL_true h3]
  refine eqB_true ?_
  cases v; cases x
  simp only at h0 h1 h2 h3 h4
  subst h0 h1 h2 h3 h4
  rfl
 ·rw [eqL_false h3]
  exact eqB_false (fun e => h3 (by rw [e]))
set_option maxHeartbeats 16000000 in
set_option maxRecDepth 100000 in
theorem jsame_calls : ∀ d, SC d := by
 intro d
 induction d with
 | zero => intro v x h; simp [limB] at h
 | succ d IH =>
  intro v x hlim A3 A4 B3 B4 q3 q4 p3 p4 w h3 g3 h4 g4 h5 g5 h6 g6
  obtain ⟨l3, l4, la⟩ := lim_succ hlim
  obtain ⟨W2, hW2⟩ : ∃ W, (w.alloc (.cells #[.int .i64 v.f0, .int .i64 v.f1, .string v.f2, .slice A3 v.f3.length q3, .slice A4 v.f4.length q4] 25)).alloc (.cells #[.int .i64 x.f0, .int .i64 x.f1, .string x.f2, .slice B3 x.f3.length p3, .slice B4 x.f4.length p4] 25) = W := ⟨_, rfl⟩
  have hb2 : Below w.heap.size w W2 := by rw [← hW2]; exact below_alloc (below_alloc (Below.refl _ w) _) _
  have BV2 := Aside0.mk (show W2.heap[w.heap.size]? = some (.cells #[.int .i64 v.f0, .int .i64 v.f1, .string v.f2, .slice A3 v.f3.length q3, .slice A4 v.f4.length q4] 25 (0, 0)) by rw [← hW2]; exact blk_alloc (blk_new w _) _)
  have BX2 := Aside0.mk (show W2.heap[w.heap.size + 1]? = some (.cells #[.int .i64 x.f0, .int .i64 x.f1, .string x.f2, .slice B3 x.f3.length p3, .slice B4 x.f4.length p4] 25 (0, 0)) by
   rw [← hW2]
   have h := blk_new (w.alloc (.cells #[.int .i64 v.f0, .int .i64 v.f1, .string v.f2, .slice A3 v.f3.length q3, .slice A4 v.f4.length q4] 25)) (.cells #[.int .i64 x.f0, .int .i64 x.f1, .string x.f2, .slice B3 x.f3.length p3, .slice B4 x.f4.length p4] 25)
   rw [show (w.alloc (.cells #[.int .i64 v.f0, .int .i64 v.f1, .string v.f2, .slice A3 v.f3.length q3, .slice A4 v.f4.length q4] 25)).heap.size = w.heap.size + 1 by simp] at h
   exact h)
  obtain ⟨ke, hke⟩ := (eqs_ev v.f4 x.f4 l4).get
  have HEQ := Aside0.mk (slices_Equal_string_string.calls ke A4 q4 v.f4 B4 p4 x.f4 _ W2 (Kd.C_below g4 hb2) h4 (Kd.C_below g6 hb2) h6 hke)
  have HEF := Aside0.mk (fun (W : World) (hW : Below W2.heap.size W2 W) => efunc_calls d IH v.f3 x.f3 la l3 A3 B3 q3 p3 W (Kd.C_below (Kd.C_below g3 hb2) hW) h3 (Kd.C_below (Kd.C_below g5 hb2) hW) h5)
  have HB2 := Aside0.mk hb2
  have HW2 := Aside0.mk hW2
  clear hW2 hb2 hke g3 g4 g5 g6 h3 h4 h5 h6 IH la l3 l4
  have m0 := (blk_cell BV2.out 0).trans (rfl : _ = some (Value.int .i64 v.f0))
  have m1 := (blk_cell BV2.out 1).trans (rfl : _ = some (Value.int .i64 v.f1))
  have m2 := (blk_cell BV2.out 2).trans (rfl : _ = some (Value.string v.f2))
  have m4 := (blk_cell BV2.out 4).trans (rfl : _ = some (Value.slice A4 v.f4.length q4))
  have n0 := (blk_cell BX2.out 0).trans (rfl : _ = some (Value.int .i64 x.f0))
  have n1 := (blk_cell BX2.out 1).trans (rfl : _ = some (Value.int .i64 x.f1))
  have n2 := (blk_cell BX2.out 2).trans (rfl : _ = some (Value.string x.f2))
  have n4 := (blk_cell BX2.out 4).trans (rfl : _ = some (Value.slice B4 x.f4.length p4))
  by_cases c0 : v.f0 = x.f0
  rotate_left
  ·have e0 : (v.f0 == x.f0) = false := beq_eq_false_iff_ne.2 c0
   rw [eqB_false (fun e => c0 (by rw [e]))]
   go_enter Tryz.func21, Tryz.ntmps21
   go_wp2_with (rw [HW2.out])
   go_ret
   exact ⟨rfl, HB2.out⟩
  have e0 : (v.f0 == x.f0) = true := beq_iff_eq.2 c0
  by_cases c1 : v.f1 = x.f1
  rotate_left
  ·have e1 : (v.f1 == x.f1) = false := beq_eq_false_iff_ne.2 c1
   rw [eqB_false (fun e => c1 (by rw [e]))]
   clear c0
   go_enter Tryz.func21, Tryz.ntmps21
   go_wp2_with (rw [HW2.out])
   go_ret
   exact ⟨rfl, HB2.out⟩
  have e1 : (v.f1 == x.f1) = true := beq_iff_eq.2 c1
  by_cases c2 : v.f2 = x.f2
  rotate_left
  ·have hn : ¬ v.f2.toList = x.f2.toList := fun h => c2 (toList_inj.1 h)
   have e2 : (v.f2.toList == x.f2.toList) = false := beq_eq_false_iff_ne.2 hn
   rw [eqB_false (fun e => c2 (by rw [e]))]
   clear c0 c1
   go_enter Tryz.func21, Tryz.ntmps21
   go_wp2_with (rw [HW2.out])
   go_ret
   exact ⟨rfl, HB2.out⟩
  have e2 : (v.f2.toList == x.f2.toList) = true := by rw [c2]; simp
  have HC := Aside0.mk (And.intro c0 (And.intro c1 c2))
  clear c0 c1 c2
  go_enter Tryz.func21, Tryz.ntmps21
  go_wp2_with (rw [HW2.out])
  refine HEQ.out.mono ?_
  rintro e w3 ⟨rfl, hd3⟩
  have hb3 := hd3.below
  have HD3 := Aside0.mk hb3
  have HB3 := Aside0.mk (below_then HB2.out HB2.out.size hb3)
  have bv3 := blk_below BV2.out hb3
  have bx3 := blk_below BX2.out hb3
  have r3 := (blk_cell bv3 3).trans (rfl : _ = some (Value.slice A3 v.f3.length q3))
  have s3 := (blk_cell bx3 3).trans (rfl : _ = some (Value.slice B3 x.f3.length p3))
  clear hd3 hb3 bv3 bx3 m0 m1 m2 m4 n0 n1 n2 n4
  by_cases c4 : v.f4 = x.f4
  rotate_left
  ·rw [decide_eq_false c4]
   have HR := Aside0.mk (eqB_false (v := v) (w := x) (fun e => c4 (by rw [e])))
   clear c4
   go_wp2
   go_ret
   exact ⟨by rw [HR.out]; rfl, HB3.out⟩
  rw [decide_eq_true c4]
  have HR := Aside0.mk (eqB_ext HC.out.1 HC.out.2.1 HC.out.2.2 c4)
  clear c4
  go_wp2_with fail
  refine (HEF.out w3 HD3.out).mono ?_
  rintro e w5 ⟨rfl, hb5⟩
  have HB5 := Aside0.mk (below_then HB3.out HB3.out.size hb5)
  clear hb5 r3 s3
  go_wp2
  go_ret
  exact ⟨by rw [HR.out]; rfl, HB5.out⟩
end Go.Proofs.YtifejhbochkifaaGreatDoor.X
