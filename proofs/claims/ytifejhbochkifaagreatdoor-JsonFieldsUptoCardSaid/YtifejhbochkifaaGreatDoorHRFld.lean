/- The reference's Field, of any value laid to be read. -/
import Derived.Test.YtifejhbochkifaaGreatDoorHJh
import Derived.Test.YtifejhbochkifaaGreatDoorHFldN
import Derived.Test.YtifejhbochkifaaGreatDoorHSame
namespace Go.Proofs.YtifejhbochkifaaGreatDoor.X
open Go.RowKit Go.Proofs.YtifejhbochkifaaGreatDoorW.PrintWords Go.Proofs.YtifejhbochkifaaGreatDoorW.PrintLast Go.Proofs.YtifejhbochkifaaGreatDoorW.PrintMore Go.Proofs.YtifejhbochkifaaGreatDoor.Spec
set_option linter.unusedVariables false
set_option linter.unusedSimpArgs false
/-- The value behind the first of the keys that is the key, as far as there is one at its place. -/
def rfldL (key : ByteArray) : List ByteArray → List V → Option V
  | k :: ks, x :: xs => if k = key then some x else rfldL key ks xs
  | _, _ => none
theorem rfldL_nil1 (key : ByteArray) (l : List V) : rfldL key [] l = none := by unfold rfldL; rfl
theorem rfldL_nil2 (key : ByteArray) (l : List ByteArray) : rfldL key l [] = none := by cases l <;> rfl
theorem rfldL_drop (key : ByteArray) (ks : List ByteArray) (l : List V) (i : Nat) (h1 : i < ks.length) (h2 : i < l.length) : rfldL key (ks.drop i) (l.drop i) = if ks[i]'h1 = key then some (l[i]'h2) else rfldL key (ks.drop (i + 1)) (l.drop (i + 1)) := by
 rw [List.drop_eq_getElem_cons h1, List.drop_eq_getElem_cons h2]
 rfl
def rfldV (v : V) (key : ByteArray) : Option V := if v.f0 = 6 then rfldL key v.f4 v.f3 else none
/-- With as many keys as values, it tells what json.Field tells. -/
theorem idxL_ge (key : ByteArray) : ∀ (ks : List ByteArray) (n : Nat), idxL key ks n < 0 ∨ (n : Int) ≤ idxL key ks n := by
 intro ks
 induction ks with
 | nil => intro n; left; unfold idxL; omega
 | cons k ks ih =>
  intro n
  unfold idxL
  split
  ·right; omega
  ·rcases ih (n + 1) with h | h
   ·left; exact h
   ·right; omega
theorem rfldL_idx (key : ByteArray) : ∀ (ks : List ByteArray) (l : List V) (n : Nat), ks.length = l.length → rfldL key ks l = if idxL key ks n < 0 then none else l[(idxL key ks n).toNat - n]? := by
 intro ks
 induction ks with
 | nil => intro l n _; rw [rfldL_nil1]; rfl
 | cons k ks ih =>
  intro l n h
  cases l with
  | nil => simp at h
  | cons x l =>
   simp only [List.length_cons] at h
   unfold rfldL idxL
   by_cases hk : k = key
   ·rw [if_pos hk, if_pos hk, if_neg (by omega), Int.toNat_natCast, Nat.sub_self]
    rfl
   ·rw [if_neg hk, if_neg hk, ih l (n + 1) (by omega)]
    rcases idxL_ge key ks (n + 1) with h1 | h1
    ·rw [if_pos h1, if_pos h1]
    ·rw [if_neg (by omega), if_neg (by omega), show (idxL key ks (n + 1)).toNat - n = (idxL key ks (n + 1)).toNat - (n + 1) + 1 by omega, List.getElem?_cons_succ]
theorem rfldV_eq (v : V) (key : ByteArray) (h : v.f0 = 6 → v.f4.length = v.f3.length) : rfldV v key = fieldL v key := by
 unfold rfldV fieldL
 by_cases h6 : v.f0 = 6
 ·rw [if_pos h6, if_pos h6, rfldL_idx key v.f4 v.f3 0 (h h6)]
  rfl
 ·rw [if_neg h6, if_neg h6]
def ROut (w : World) (R : Option V) (e : Ending) (w' : World) : Prop := ∃ c, e = .returned (.tuple #[c, .bool R.isSome]) ∧ VAt w' (R.getD z_V) c ∧ Below w.heap.size w w'
set_option maxHeartbeats 16000000 in
set_option maxRecDepth 100000 in
theorem rfield_calls (v : V) (key : ByteArray) (A3 A4 : Option Addr) (q3 q4 : Nat) (w : World) (hl : v.f4.length ≤ 1000000000) (h3 : v.f3.length ≤ q3) (g3 : Kd.C k25 w A3 v.f3.length v.f3) (h4 : v.f4.length ≤ q4) (g4 : Kd.C Kd.string w A4 v.f4.length v.f4) :
  Calls Tryz.prog 22 #[.agg #[.int .i64 v.f0, .int .i64 v.f1, .string v.f2, .slice A3 v.f3.length q3, .slice A4 v.f4.length q4], .string key] w (ROut w (rfldV v key)) := by
 obtain ⟨R, hR⟩ : ∃ R, rfldV v key = R := ⟨_, rfl⟩
 obtain ⟨W2, hW2⟩ : ∃ W, (w.alloc (.cells #[.int .i64 v.f0, .int .i64 v.f1, .string v.f2, .slice A3 v.f3.length q3, .slice A4 v.f4.length q4] 25)).alloc (.cells #[.int .i64 0, .int .i64 0, .string ⟨#[]⟩, .slice none 0 0, .slice none 0 0] 25) = W := ⟨_, rfl⟩
 have BV2 := Aside0.mk (show W2.heap[w.heap.size]? = some (.cells #[.int .i64 v.f0, .int .i64 v.f1, .string v.f2, .slice A3 v.f3.length q3, .slice A4 v.f4.length q4] 25 (0, 0)) by rw [← hW2]; exact blk_alloc (blk_new w _) _)
 have BR2 := Aside0.mk (show W2.heap[w.heap.size + 1]? = some (.cells #[.int .i64 0, .int .i64 0, .string ⟨#[]⟩, .slice none 0 0, .slice none 0 0] 25 (0, 0)) by
  rw [← hW2]
  have h := blk_new (w.alloc (.cells #[.int .i64 v.f0, .int .i64 v.f1, .string v.f2, .slice A3 v.f3.length q3, .slice A4 v.f4.length q4] 25)) (.cells #[.int .i64 0, .int .i64 0, .string ⟨#[]⟩, .slice none 0 0, .slice none 0 0] 25)
  rw [show (w.alloc (.cells #[.int .i64 v.f0, .int .i64 v.f1, .string v.f2, .slice A3 v.f3.length q3, .slice A4 v.f4.length q4] 25)).heap.size = w.heap.size + 1 by simp] at h
  exact h)
 have HB2 := Aside0.mk (show Below w.heap.size w W2 by rw [← hW2]; exact below_alloc (below_alloc (Below.refl _ w) _) _)
 have C3 := Aside0.mk g3
 have C4 := Aside0.mk g4
 have HL := Aside0.mk hl
 have HW2 := Aside0.mk hW2
 have HI := Aside0.mk (show v.f0 = 6 → rfldL key (v.f4.drop 0) (v.f3.drop 0) = R from fun h => by rw [← hR, rfldV, if_pos h]; rfl)
 have HK := Aside0.mk (show v.f0 ≠ 6 → none = R from fun h => by rw [← hR, rfldV, if_neg h])
 rw [hR]
 clear hR hW2 g3 g4 hl h3 h4
 unfold ROut
 go_enter Tryz.func22, Tryz.ntmps22
 go_wp2_with (rw [HW2.out])
 go_loopw [6] (fun v6 wr => ∃ i : Nat, v6 = .int .i64 (i : Int) ∧ i ≤ v.f4.length ∧ Aside0 (v.f0 = 6 → rfldL key (v.f4.drop i) (v.f3.drop i) = R) ∧ Aside0 (wr.heap[w.heap.size]? = some (.cells #[.int .i64 v.f0, .int .i64 v.f1, .string v.f2, .slice A3 v.f3.length q3, .slice A4 v.f4.length q4] 25 (0, 0))) ∧ Aside0 (wr.heap[w.heap.size + 1]? = some (.cells #[.int .i64 0, .int .i64 0, .string ⟨#[]⟩, .slice none 0 0, .slice none 0 0] 25 (0, 0))) ∧ Aside0 (Below w.heap.size w wr)) (fun v6 wr => v.f4.length - (intOf v6).toNat)
 case atStart => exact ⟨0, rfl, Nat.zero_le _, HI, BV2, BR2, HB2⟩
 case round =>
  clear HI BV2 BR2 HB2 HW2
  obtain ⟨i, rfl, hil, HT, BV, BR, HB⟩ := hrel
  have m0 := (blk_cell BV.out 0).trans (rfl : _ = some (Value.int .i64 v.f0))
  have m1 := (blk_cell BV.out 1).trans (rfl : _ = some (Value.int .i64 v.f1))
  have m2 := (blk_cell BV.out 2).trans (rfl : _ = some (Value.string v.f2))
  have m3 := (blk_cell BV.out 3).trans (rfl : _ = some (Value.slice A3 v.f3.length q3))
  have m4 := (blk_cell BV.out 4).trans (rfl : _ = some (Value.slice A4 v.f4.length q4))
  by_cases h6 : v.f0 = 6
  rotate_left
  ·have HN := Aside0.mk (HK.out h6)
   have dk : (v.f0 == 6) = false := beq_eq_false_iff_ne.2 h6
   clear h6
   have o0 := (blk_cell BR.out 0).trans (rfl : _ = some (Value.int .i64 0))
   have o1 := (blk_cell BR.out 1).trans (rfl : _ = some (Value.int .i64 0))
   have o2 := (blk_cell BR.out 2).trans (rfl : _ = some (Value.string ⟨#[]⟩))
   have o3 := (blk_cell BR.out 3).trans (rfl : _ = some (Value.slice none 0 0))
   have o4 := (blk_cell BR.out 4).trans (rfl : _ = some (Value.slice none 0 0))
   have i0 := blk_frozen BR.out 0
   have i1 := blk_frozen BR.out 1
   have i2 := blk_frozen BR.out 2
   have i3 := blk_frozen BR.out 3
   have i4 := blk_frozen BR.out 4
   go_wp2
   refine bodyPost_ret (results_ct rfl _ _ (w.heap.size + 1) 25 #[.int .i64 0, .int .i64 0, .string ⟨#[]⟩, .slice none 0 0, .slice none 0 0] (0, 0) _ rfl (fill5 BR.out) Tryz.underlying25 rfl (by kernel_rfl)) rfl ?_
   exact ⟨_, by rw [← HN.out]; rfl, by rw [← HN.out]; exact ⟨none, 0, none, 0, rfl, Nat.le_refl _, Kd.C_nil _ _, Nat.le_refl _, Kd.C_nil _ _⟩, below_set5 HB.out (by omega) _ _ _ _ _⟩
  have dk : (v.f0 == 6) = true := beq_iff_eq.2 h6
  have HT6 := Aside0.mk (HT.out h6)
  clear h6 HT HK
  by_cases hlt : i < v.f4.length
  rotate_left
  ·have HN := Aside0.mk (show none = R by rw [← HT6.out, show v.f4.drop i = [] from List.drop_eq_nil_of_le (by omega), rfldL_nil1])
   have hni : ¬ (i : Int) < (v.f4.length : Int) := by omega
   have o0 := (blk_cell BR.out 0).trans (rfl : _ = some (Value.int .i64 0))
   have o1 := (blk_cell BR.out 1).trans (rfl : _ = some (Value.int .i64 0))
   have o2 := (blk_cell BR.out 2).trans (rfl : _ = some (Value.string ⟨#[]⟩))
   have o3 := (blk_cell BR.out 3).trans (rfl : _ = some (Value.slice none 0 0))
   have o4 := (blk_cell BR.out 4).trans (rfl : _ = some (Value.slice none 0 0))
   have i0 := blk_frozen BR.out 0
   have i1 := blk_frozen BR.out 1
   have i2 := blk_frozen BR.out 2
   have i3 := blk_frozen BR.out 3
   have i4 := blk_frozen BR.out 4
   go_wp2
   refine bodyPost_ret (results_ct rfl _ _ (w.heap.size + 1) 25 #[.int .i64 0, .int .i64 0, .string ⟨#[]⟩, .slice none 0 0, .slice none 0 0] (0, 0) _ rfl (fill5 BR.out) Tryz.underlying25 rfl (by kernel_rfl)) rfl ?_
   exact ⟨_, by rw [← HN.out]; rfl, by rw [← HN.out]; exact ⟨none, 0, none, 0, rfl, Nat.le_refl _, Kd.C_nil _ _, Nat.le_refl _, Kd.C_nil _ _⟩, below_set5 HB.out (by omega) _ _ _ _ _⟩
  have hlti : (i : Int) < (v.f4.length : Int) := by omega
  by_cases hlm : i < v.f3.length
  rotate_left
  ·have HN := Aside0.mk (show none = R by rw [← HT6.out, show v.f3.drop i = [] from List.drop_eq_nil_of_le (by omega), rfldL_nil2])
   have hni : ¬ (i : Int) < (v.f3.length : Int) := by omega
   have o0 := (blk_cell BR.out 0).trans (rfl : _ = some (Value.int .i64 0))
   have o1 := (blk_cell BR.out 1).trans (rfl : _ = some (Value.int .i64 0))
   have o2 := (blk_cell BR.out 2).trans (rfl : _ = some (Value.string ⟨#[]⟩))
   have o3 := (blk_cell BR.out 3).trans (rfl : _ = some (Value.slice none 0 0))
   have o4 := (blk_cell BR.out 4).trans (rfl : _ = some (Value.slice none 0 0))
   have i0 := blk_frozen BR.out 0
   have i1 := blk_frozen BR.out 1
   have i2 := blk_frozen BR.out 2
   have i3 := blk_frozen BR.out 3
   have i4 := blk_frozen BR.out 4
   go_wp2
   refine bodyPost_ret (results_ct rfl _ _ (w.heap.size + 1) 25 #[.int .i64 0, .int .i64 0, .string ⟨#[]⟩, .slice none 0 0, .slice none 0 0] (0, 0) _ rfl (fill5 BR.out) Tryz.underlying25 rfl (by kernel_rfl)) rfl ?_
   exact ⟨_, by rw [← HN.out]; rfl, by rw [← HN.out]; exact ⟨none, 0, none, 0, rfl, Nat.le_refl _, Kd.C_nil _ _, Nat.le_refl _, Kd.C_nil _ _⟩, below_set5 HB.out (by omega) _ _ _ _ _⟩
  have hlmi : (i : Int) < (v.f3.length : Int) := by omega
  have p0 : (0 : Int) ≤ (i : Int) := by omega
  obtain ⟨y, hy⟩ : ∃ y, v.f3[i]'hlm = y := ⟨_, rfl⟩
  obtain ⟨kk, hkk⟩ : ∃ kk, v.f4[i]'hlt = kk := ⟨_, rfl⟩
  have HR := Aside0.mk (rfldL_drop key v.f4 v.f3 i hlt hlm)
  rw [hy, hkk, HT6.out] at HR
  obtain ⟨ad, B3, b3, B4, b4, rfl, hx_0, hx_1, hx_2, hx_3, hx_4, hl_3, hi_3, hl_4, hi_4⟩ := at_T25 C3.out (i : Int) p0 hlmi
  rw [rd_at v.f3 i hlm, hy] at hx_0 hx_1 hx_2 hx_3 hx_4 hl_3 hi_3 hl_4 hi_4
  obtain ⟨ak, rfl, hs⟩ := Kd.at_string (Kd.C_below C4.out HB.out) (i : Int) p0 hlti
  rw [rdOf_at v.f4 i hlt, hkk] at hs
  have z_0 := (HB.out.cell (World.block_lt_of_cell? _ _ hx_0)).trans hx_0
  have z_1 := (HB.out.cell (World.block_lt_of_cell? _ _ hx_1)).trans hx_1
  have z_2 := (HB.out.cell (World.block_lt_of_cell? _ _ hx_2)).trans hx_2
  have z_3 := (HB.out.cell (World.block_lt_of_cell? _ _ hx_3)).trans hx_3
  have z_4 := (HB.out.cell (World.block_lt_of_cell? _ _ hx_4)).trans hx_4
  simp only [Int.toNat_natCast] at z_0 z_1 z_2 z_3 z_4 hs
  have I3 := Aside0.mk hi_3
  have I4 := Aside0.mk hi_4
  have L3 := Aside0.mk hl_3
  have L4 := Aside0.mk hl_4
  clear hx_0 hx_1 hx_2 hx_3 hx_4 hi_3 hi_4 hl_3 hl_4 hy hkk HT6 C3 C4
  by_cases hk : kk = key
  ·subst hk
   have HN := Aside0.mk (HR.out.trans (if_pos rfl))
   clear HR
   have o0 := (blk_cell BR.out 0).trans (rfl : _ = some (Value.int .i64 0))
   have o1 := (blk_cell BR.out 1).trans (rfl : _ = some (Value.int .i64 0))
   have o2 := (blk_cell BR.out 2).trans (rfl : _ = some (Value.string ⟨#[]⟩))
   have o3 := (blk_cell BR.out 3).trans (rfl : _ = some (Value.slice none 0 0))
   have o4 := (blk_cell BR.out 4).trans (rfl : _ = some (Value.slice none 0 0))
   have i0 := blk_frozen BR.out 0
   have i1 := blk_frozen BR.out 1
   have i2 := blk_frozen BR.out 2
   have i3 := blk_frozen BR.out 3
   have i4 := blk_frozen BR.out 4
   go_wp2
   refine bodyPost_ret (results_ct rfl _ _ (w.heap.size + 1) 25 #[.int .i64 y.f0, .int .i64 y.f1, .string y.f2, .slice B3 y.f3.length b3, .slice B4 y.f4.length b4] (0, 0) _ rfl (fill5 BR.out) Tryz.underlying25 rfl (by kernel_rfl)) rfl ?_
   exact ⟨_, by rw [HN.out]; rfl, by rw [HN.out]; exact ⟨B3, b3, B4, b4, rfl, L3.out, Kd.C_below I3.out (below_set5 HB.out (by omega) _ _ _ _ _), L4.out, Kd.C_below I4.out (below_set5 HB.out (by omega) _ _ _ _ _)⟩, below_set5 HB.out (by omega) _ _ _ _ _⟩
  ·have HN := Aside0.mk (HR.out.trans (if_neg hk))
   have dkk : (kk.toList == key.toList) = false := beq_eq_false_iff_ne.2 (fun e => hk (toList_inj.1 e))
   have w1 : wrap64 ((i : Int) + 1) = ((i + 1 : Nat) : Int) := by rw [w64 (by omega) (by have := HL.out; omega)]; omega
   clear HR hk
   go_wp2
   rw [w1]
   go_roundw
   case rel => exact ⟨i + 1, rfl, hlt, ⟨fun _ => HN.out.symm⟩, BV, BR, HB⟩
   case measure =>
    show v.f4.length - ((i + 1 : Nat) : Int).toNat < v.f4.length - ((i : Nat) : Int).toNat
    rw [Int.toNat_natCast, Int.toNat_natCast]
    omega
end Go.Proofs.YtifejhbochkifaaGreatDoor.X
