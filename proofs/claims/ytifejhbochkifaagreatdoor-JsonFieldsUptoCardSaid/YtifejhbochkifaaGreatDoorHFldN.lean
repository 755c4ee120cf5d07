/- json.Field, of any value: what it tells, or that there is none. -/
import Derived.Test.YtifejhbochkifaaGreatDoorBF
import Derived.Test.YtifejhbochkifaaGreatDoorHCpy
import Derived.Test.YtifejhbochkifaaGreatDoorHJf
namespace Go.Proofs.YtifejhbochkifaaGreatDoor.X
open Go.RowKit Go.Proofs.YtifejhbochkifaaGreatDoorW.PrintWords Go.Proofs.YtifejhbochkifaaGreatDoorW.PrintLast Go.Proofs.YtifejhbochkifaaGreatDoorW.PrintMore Go.Proofs.YtifejhbochkifaaGreatDoor.Spec
set_option linter.unusedVariables false
set_option linter.unusedSimpArgs false
/-- where a key stands first; -1: nowhere -/
def idxL (key : ByteArray) : List ByteArray → Nat → Int
  | [], _ => -1
  | k :: r, i => if k = key then (i : Int) else idxL key r (i + 1)
theorem idxL_miss {key : ByteArray} : ∀ (l : List ByteArray) (i : Nat), key ∉ l → idxL key l i = -1 := by
 intro l
 induction l with
 | nil => intro i _; rfl
 | cons k r ih =>
  intro i h
  rw [idxL, if_neg (fun e => h (by rw [e]; exact List.mem_cons_self ..))]
  exact ih _ (fun hm => h (List.mem_cons_of_mem _ hm))
theorem idxL_hit {key : ByteArray} : ∀ (l : List ByteArray) (i t : Nat) (ht : t < l.length), l[t] = key → (∀ j, (hj : j < l.length) → j < t → l[j] ≠ key) → idxL key l i = ((i + t : Nat) : Int) := by
 intro l
 induction l with
 | nil => intro i t ht; simp at ht
 | cons k r ih =>
  intro i t ht h hno
  rw [idxL]
  cases t with
  | zero => rw [if_pos (by simpa using h)]; rfl
  | succ t =>
   rw [if_neg (by have := hno 0 (by simp) (by omega); simpa using this), ih (i + 1) t (by simpa using ht) (by simpa using h) (fun j hj hlt => by have := hno (j + 1) (by simp; omega) (by omega); simpa using this)]
   omega
theorem idx_all {l : List ByteArray} {key : ByteArray} (hl : l.length ≤ 1000000000) : Ev (fun k => slices_Index_string_string.f k l key) (idxL key l 0) := by
 by_cases hm : key ∈ l
 ·obtain ⟨t, ht, h1, h2⟩ := first_of hm
  rw [idxL_hit l 0 t ht h1 h2, Nat.zero_add]
  exact idx_hit hl ht h1 h2
 ·rw [idxL_miss l 0 hm]
  exact idx_miss hl hm
theorem idxL_range (key : ByteArray) (l : List ByteArray) : idxL key l 0 = -1 ∨ ∃ t, t < l.length ∧ idxL key l 0 = (t : Int) := by
 by_cases hm : key ∈ l
 ·obtain ⟨t, ht, h1, h2⟩ := first_of hm
  rw [idxL_hit l 0 t ht h1 h2, Nat.zero_add]
  exact Or.inr ⟨t, ht, rfl⟩
 ·exact Or.inl (idxL_miss l 0 hm)
/-- What json.Field tells. -/
def fieldL (v : V) (key : ByteArray) : Option V := if v.f0 = 6 then (if idxL key v.f4 0 < 0 then none else v.f3[(idxL key v.f4 0).toNat]?) else none
def FOut (w : World) (R : Option V) (e : Ending) (w' : World) : Prop := ∃ c, e = .returned (.tuple #[c, .bool R.isSome]) ∧ VFr w' w.heap.size (R.getD z_V) c ∧ Below w.heap.size w w'
set_option maxHeartbeats 8000000 in
set_option maxRecDepth 100000 in
theorem field_hitV (k : Nat) (m : Int) (s : ByteArray) (A3 A4 : Option Addr) (q3 q4 : Nat) (l3 : List V) (l4 : List ByteArray) (key : ByteArray) (t : Nat) (r1 r2 : Int) (r3 : ByteArray) (r4 : List V) (r5 : List ByteArray) (w : World)
  (g3 : Kd.C k25 w A3 l3.length l3) (h3 : l3.length ≤ q3) (g4 : Kd.C Kd.string w A4 l4.length l4) (h4 : l4.length ≤ q4) (hi : slices_Index_string_string.f k l4 key = some (t : Int)) (ht : t < l3.length)
  (hc : json_copied.f k (l3[t]'ht).f0 (l3[t]'ht).f1 (l3[t]'ht).f2 (l3[t]'ht).f3 (l3[t]'ht).f4 = some (r1, r2, r3, r4, r5)) :
  Calls Tryz.prog 15 #[.agg #[.int .i64 6, .int .i64 m, .string s, .slice A3 l3.length q3, .slice A4 l4.length q4], .string key] w fun e w' => ∃ A5 p5 A6 p6, e = .returned (.tuple #[.agg #[.int .i64 r1, .int .i64 r2, .string r3, .slice A5 r4.length p5, .slice A6 r5.length p6], .bool true]) ∧ Kd.N k25 25 w' w.heap.size (fun k_ => w.heap.size ≤ k_) (.slice A5 r4.length p5) r4 ∧ Kd.V Kd.string 9 w' w.heap.size (fun k_ => w.heap.size ≤ k_) (.slice A6 r5.length p6) r5 ∧ Below w.heap.size w w' := by
 have e1 := blk_alloc (blk_new w (.cells #[.int .i64 6, .int .i64 m, .string s, .slice A3 l3.length q3, .slice A4 l4.length q4] 25)) (.cells #[.int .i64 0, .int .i64 0, .string ⟨#[]⟩, .slice none 0 0, .slice none 0 0] 25)
 have e2 := blk_new (w.alloc (.cells #[.int .i64 6, .int .i64 m, .string s, .slice A3 l3.length q3, .slice A4 l4.length q4] 25)) (.cells #[.int .i64 0, .int .i64 0, .string ⟨#[]⟩, .slice none 0 0, .slice none 0 0] 25)
 rw [show (w.alloc (.cells #[.int .i64 6, .int .i64 m, .string s, .slice A3 l3.length q3, .slice A4 l4.length q4] 25)).heap.size = w.heap.size + 1 by simp] at e2
 have e3 := below_alloc (below_alloc (Below.refl _ w) (.cells #[.int .i64 6, .int .i64 m, .string s, .slice A3 l3.length q3, .slice A4 l4.length q4] 25)) (.cells #[.int .i64 0, .int .i64 0, .string ⟨#[]⟩, .slice none 0 0, .slice none 0 0] 25)
 have e4 : ((w.alloc (.cells #[.int .i64 6, .int .i64 m, .string s, .slice A3 l3.length q3, .slice A4 l4.length q4] 25)).alloc (.cells #[.int .i64 0, .int .i64 0, .string ⟨#[]⟩, .slice none 0 0, .slice none 0 0] 25)).heap.size = w.heap.size + 2 := by simp
 obtain ⟨W2, hW2⟩ : ∃ W, (w.alloc (.cells #[.int .i64 6, .int .i64 m, .string s, .slice A3 l3.length q3, .slice A4 l4.length q4] 25)).alloc (.cells #[.int .i64 0, .int .i64 0, .string ⟨#[]⟩, .slice none 0 0, .slice none 0 0] 25) = W := ⟨_, rfl⟩
 rw [hW2] at e1 e2 e3 e4
 have HW2 := Aside0.mk hW2
 have BK := Aside0.mk e1
 have BR := Aside0.mk e2
 have HB2 := Aside0.mk e3
 have SZ := Aside0.mk e4
 have HIX := Aside0.mk (slices_Index_string_string.calls k A4 q4 l4 key t W2 (Kd.C_below g4 e3) h4 hi)
 have G3 := Aside0.mk (Kd.C_below g3 e3)
 have m3 := (blk_cell e1 3).trans (rfl : _ = some (Value.slice A3 l3.length q3))
 have m4 := (blk_cell e1 4).trans (rfl : _ = some (Value.slice A4 l4.length q4))
 have m0 := (blk_cell e1 0).trans (rfl : _ = some (Value.int .i64 6))
 obtain ⟨y, hy⟩ : ∃ y, l3[t]'ht = y := ⟨_, rfl⟩
 rw [hy] at hc
 have HC := Aside0.mk hc
 have HY := Aside0.mk hy
 obtain ⟨ti, hti⟩ : ∃ ti : Int, (t : Int) = ti := ⟨_, rfl⟩
 have t0 : decide (ti < 0) = false := decide_eq_false (by omega)
 have t1 : decide ((l3.length : Int) ≤ ti) = false := decide_eq_false (by omega)
 have p0 : (0 : Int) ≤ ti := by omega
 have q0 : ti < (l3.length : Int) := by omega
 rw [hti] at HIX
 have hrd : rd_T25 l3 ti = y := by rw [← hti]; show l3.getD (t : Int).toNat z25 = y; rw [Int.toNat_natCast, List.getD_eq_getElem?_getD, List.getElem?_eq_getElem ht]; exact hy
 obtain ⟨ad, B3, b3, B4, b4, e, hx_0, hx_1, hx_2, hx_3, hx_4, hl_3, hi_3, hl_4, hi_4⟩ := at_T25 G3.out ti p0 q0
 cases e
 rw [hrd] at hx_0 hx_1 hx_2 hx_3 hx_4 hl_3 hi_3 hl_4 hi_4
 have X0 := Aside0.mk hx_0
 have X1 := Aside0.mk hx_1
 have X2 := Aside0.mk hx_2
 have X3 := Aside0.mk hx_3
 have X4 := Aside0.mk hx_4
 have L3 := Aside0.mk hl_3
 have L4 := Aside0.mk hl_4
 have I3 := Aside0.mk hi_3
 have I4 := Aside0.mk hi_4
 clear hx_0 hx_1 hx_2 hx_3 hx_4 hl_3 hi_3 hl_4 hi_4 hrd hti HY hy
 clear hW2 e1 e2 e3 e4 g3 g4 hi hc h3 h4
 go_enter Tryz.func15, Tryz.ntmps15
 go_wp2_with (rw [HW2.out])
 refine HIX.out.mono ?_
 rintro e w3 ⟨rfl, hb3⟩
 have hbw := hb3.below
 have bk3 := blk_below BK.out hbw
 have d0 := (blk_cell bk3 0).trans (rfl : _ = some (Value.int .i64 6))
 have d3 := (blk_cell bk3 3).trans (rfl : _ = some (Value.slice (some ad) l3.length q3))
 have z0 := (hbw.cell (World.block_lt_of_cell? _ _ X0.out)).trans X0.out
 have z1 := (hbw.cell (World.block_lt_of_cell? _ _ X1.out)).trans X1.out
 have z2 := (hbw.cell (World.block_lt_of_cell? _ _ X2.out)).trans X2.out
 have z3 := (hbw.cell (World.block_lt_of_cell? _ _ X3.out)).trans X3.out
 have z4 := (hbw.cell (World.block_lt_of_cell? _ _ X4.out)).trans X4.out
 have HBW := Aside0.mk hbw
 have HCP := Aside0.mk (fun (W : World) (hW : Below W2.heap.size W2 W) => json_copied.calls k y.f0 y.f1 y.f2 B3 b3 y.f3 B4 b4 y.f4 r1 r2 r3 r4 r5 W (Kd.C_below I3.out hW) L3.out (Kd.C_below I4.out hW) L4.out HC.out)
 clear bk3 hbw m0 m3 m4 hb3
 go_wp2_with fail
 refine (HCP.out _ HBW.out).mono ?_
 rintro e w5 ⟨c5, c6, rfl, hn5, hv6, hb5⟩
 obtain ⟨A5, p5, rfl⟩ := Kd.N_slice hn5
 obtain ⟨A6, p6, rfl⟩ := Kd.V_slice hv6
 have hbb := below_then HBW.out HBW.out.size hb5
 have br5 := blk_below BR.out hbb
 have y0 := (blk_cell br5 0).trans (rfl : _ = some (Value.int .i64 0))
 have y1 := (blk_cell br5 1).trans (rfl : _ = some (Value.int .i64 0))
 have y2 := (blk_cell br5 2).trans (rfl : _ = some (Value.string ⟨#[]⟩))
 have y3 := (blk_cell br5 3).trans (rfl : _ = some (Value.slice none 0 0))
 have y4 := (blk_cell br5 4).trans (rfl : _ = some (Value.slice none 0 0))
 have i0 := blk_frozen br5 0
 have i1 := blk_frozen br5 1
 have i2 := blk_frozen br5 2
 have i3 := blk_frozen br5 3
 have i4 := blk_frozen br5 4
 have BR5 := Aside0.mk br5
 have HB5 := Aside0.mk hbb
 have HN5 := Aside0.mk hn5
 have HV6 := Aside0.mk hv6
 clear hb5 br5 hn5 hv6 d0 d3 z0 z1 z2 z3 z4 hbb
 go_wp2
 refine bodyPost_ret (results_ct rfl _ _ (w.heap.size + 1) 25 #[.int .i64 r1, .int .i64 r2, .string r3, .slice A5 r4.length p5, .slice A6 r5.length p6] (0, 0) _ rfl (fill5 BR5.out) Tryz.underlying25 rfl (by kernel_rfl)) rfl ?_
 have hsz := SZ.out
 have hs3 := HBW.out.size
 have hn5 : ∀ k_, w3.heap.size ≤ k_ → k_ ≠ w.heap.size + 1 := fun k_ hk_ => by omega
 have hn6 : ∀ k_, (w3.heap.size ≤ k_ ∧ some k_ ≠ (Value.slice A5 r4.length p5).ownBlock) → k_ ≠ w.heap.size + 1 := fun k_ hk_ => hn5 k_ hk_.1
 refine ⟨_, _, _, _, rfl, Kd.N_lower (Kd.N_mono (Kd.N_far (p := ⟨w.heap.size + 1, 4, none⟩) (Kd.N_far (p := ⟨w.heap.size + 1, 3, none⟩) (Kd.N_far (p := ⟨w.heap.size + 1, 2, none⟩) (Kd.N_far (p := ⟨w.heap.size + 1, 1, none⟩) (Kd.N_far (p := ⟨w.heap.size + 1, 0, none⟩) HN5.out hn5 _) hn5 _) hn5 _) hn5 _) hn5 _) (fun k_ hk_ => by omega)) (by omega), ?_, ?_⟩
 ·exact Kd.V_mono (V_set5 HV6.out hn6 _ _ _ _ _) (fun k_ hk_ => Nat.le_trans (Nat.le_trans (by omega) hs3) hk_.1)
 ·exact below_set (below_set (below_set (below_set (below_set (below_then HB2.out HB2.out.size HB5.out) (by omega)) (by omega)) (by omega)) (by omega)) (by omega)
set_option maxHeartbeats 8000000 in
set_option maxRecDepth 100000 in
theorem field_kind (v : V) (key : ByteArray) (A3 A4 : Option Addr) (q3 q4 : Nat) (w : World) (hl : v.f4.length ≤ 1000000000) (h3 : v.f3.length ≤ q3) (g3 : Kd.C k25 w A3 v.f3.length v.f3) (h4 : v.f4.length ≤ q4) (g4 : Kd.C Kd.string w A4 v.f4.length v.f4) (hm : v.f0 ≠ 6) :
  Calls Tryz.prog 15 #[.agg #[.int .i64 v.f0, .int .i64 v.f1, .string v.f2, .slice A3 v.f3.length q3, .slice A4 v.f4.length q4], .string key] w (FOut w none) := by
 obtain ⟨k, hk⟩ := (idx_all (key := key) hl).get
 obtain ⟨W2, hW2⟩ : ∃ W, (w.alloc (.cells #[.int .i64 v.f0, .int .i64 v.f1, .string v.f2, .slice A3 v.f3.length q3, .slice A4 v.f4.length q4] 25)).alloc (.cells #[.int .i64 0, .int .i64 0, .string ⟨#[]⟩, .slice none 0 0, .slice none 0 0] 25) = W := ⟨_, rfl⟩
 have BV2 := Aside0.mk (show W2.heap[w.heap.size]? = some (.cells #[.int .i64 v.f0, .int .i64 v.f1, .string v.f2, .slice A3 v.f3.length q3, .slice A4 v.f4.length q4] 25 (0, 0)) by rw [← hW2]; exact blk_alloc (blk_new w _) _)
 have BR2 := Aside0.mk (show W2.heap[w.heap.size + 1]? = some (.cells #[.int .i64 0, .int .i64 0, .string ⟨#[]⟩, .slice none 0 0, .slice none 0 0] 25 (0, 0)) by
  rw [← hW2]
  have h := blk_new (w.alloc (.cells #[.int .i64 v.f0, .int .i64 v.f1, .string v.f2, .slice A3 v.f3.length q3, .slice A4 v.f4.length q4] 25)) (.cells #[.int .i64 0, .int .i64 0, .string ⟨#[]⟩, .slice none 0 0, .slice none 0 0] 25)
  rw [show (w.alloc (.cells #[.int .i64 v.f0, .int .i64 v.f1, .string v.f2, .slice A3 v.f3.length q3, .slice A4 v.f4.length q4] 25)).heap.size = w.heap.size + 1 by simp] at h
  exact h)
 have hb2 : Below w.heap.size w W2 := by rw [← hW2]; exact below_alloc (below_alloc (Below.refl _ w) _) _
 have HB2 := Aside0.mk hb2
 have HIX := Aside0.mk (slices_Index_string_string.calls k A4 q4 v.f4 key (idxL key v.f4 0) W2 (Kd.C_below g4 hb2) h4 hk)
 have HW2 := Aside0.mk hW2
 clear hW2 hb2 hk g3 g4 h3 h4 hl
 generalize idxL key v.f4 0 = t at *
 have dk : (v.f0 != 6) = true := bne_iff_ne.2 hm
 have m4 := (blk_cell BV2.out 4).trans (rfl : _ = some (Value.slice A4 v.f4.length q4))
 go_enter Tryz.func15, Tryz.ntmps15
 go_wp2_with (rw [HW2.out])
 refine HIX.out.mono ?_
 rintro e w3 ⟨rfl, hd3⟩
 have hb3 := hd3.below
 have BV3 := Aside0.mk (blk_below BV2.out hb3)
 have BR3 := Aside0.mk (blk_below BR2.out hb3)
 have HB3 := Aside0.mk (below_then HB2.out HB2.out.size hb3)
 clear hd3 hb3 m4
 have d0 := (blk_cell BV3.out 0).trans (rfl : _ = some (Value.int .i64 v.f0))
 have d3 := (blk_cell BV3.out 3).trans (rfl : _ = some (Value.slice A3 v.f3.length q3))
 have o0 := (blk_cell BR3.out 0).trans (rfl : _ = some (Value.int .i64 0))
 have o1 := (blk_cell BR3.out 1).trans (rfl : _ = some (Value.int .i64 0))
 have o2 := (blk_cell BR3.out 2).trans (rfl : _ = some (Value.string ⟨#[]⟩))
 have o3 := (blk_cell BR3.out 3).trans (rfl : _ = some (Value.slice none 0 0))
 have o4 := (blk_cell BR3.out 4).trans (rfl : _ = some (Value.slice none 0 0))
 have i0 := blk_frozen BR3.out 0
 have i1 := blk_frozen BR3.out 1
 have i2 := blk_frozen BR3.out 2
 have i3 := blk_frozen BR3.out 3
 have i4 := blk_frozen BR3.out 4
 go_wp2
 refine bodyPost_ret (results_ct rfl _ _ (w.heap.size + 1) 25 #[.int .i64 0, .int .i64 0, .string ⟨#[]⟩, .slice none 0 0, .slice none 0 0] (0, 0) _ rfl (fill5 BR3.out) Tryz.underlying25 rfl (by kernel_rfl)) rfl ?_
 exact ⟨_, rfl, ⟨_, _, rfl, Kd.N_nil _ _ _ _ _, Kd.V_nil _ _ _ _ _⟩, below_set5 HB3.out (by omega) _ _ _ _ _⟩
set_option maxHeartbeats 8000000 in
set_option maxRecDepth 100000 in
theorem field_none (v : V) (key : ByteArray) (A3 A4 : Option Addr) (q3 q4 : Nat) (w : World) (hl : v.f4.length ≤ 1000000000) (h3 : v.f3.length ≤ q3) (g3 : Kd.C k25 w A3 v.f3.length v.f3) (h4 : v.f4.length ≤ q4) (g4 : Kd.C Kd.string w A4 v.f4.length v.f4) (h6 : v.f0 = 6) (hm : idxL key v.f4 0 < 0) :
  Calls Tryz.prog 15 #[.agg #[.int .i64 v.f0, .int .i64 v.f1, .string v.f2, .slice A3 v.f3.length q3, .slice A4 v.f4.length q4], .string key] w (FOut w none) := by
 obtain ⟨k, hk⟩ := (idx_all (key := key) hl).get
 obtain ⟨W2, hW2⟩ : ∃ W, (w.alloc (.cells #[.int .i64 v.f0, .int .i64 v.f1, .string v.f2, .slice A3 v.f3.length q3, .slice A4 v.f4.length q4] 25)).alloc (.cells #[.int .i64 0, .int .i64 0, .string ⟨#[]⟩, .slice none 0 0, .slice none 0 0] 25) = W := ⟨_, rfl⟩
 have BV2 := Aside0.mk (show W2.heap[w.heap.size]? = some (.cells #[.int .i64 v.f0, .int .i64 v.f1, .string v.f2, .slice A3 v.f3.length q3, .slice A4 v.f4.length q4] 25 (0, 0)) by rw [← hW2]; exact blk_alloc (blk_new w _) _)
 have BR2 := Aside0.mk (show W2.heap[w.heap.size + 1]? = some (.cells #[.int .i64 0, .int .i64 0, .string ⟨#[]⟩, .slice none 0 0, .slice none 0 0] 25 (0, 0)) by
  rw [← hW2]
  have h := blk_new (w.alloc (.cells #[.int .i64 v.f0, .int .i64 v.f1, .string v.f2, .slice A3 v.f3.length q3, .slice A4 v.f4.length q4] 25)) (.cells #[.int .i64 0, .int .i64 0, .string ⟨#[]⟩, .slice none 0 0, .slice none 0 0] 25)
  rw [show (w.alloc (.cells #[.int .i64 v.f0, .int .i64 v.f1, .string v.f2, .slice A3 v.f3.length q3, .slice A4 v.f4.length q4] 25)).heap.size = w.heap.size + 1 by simp] at h
  exact h)
 have hb2 : Below w.heap.size w W2 := by rw [← hW2]; exact below_alloc (below_alloc (Below.refl _ w) _) _
 have HB2 := Aside0.mk hb2
 have HIX := Aside0.mk (slices_Index_string_string.calls k A4 q4 v.f4 key (idxL key v.f4 0) W2 (Kd.C_below g4 hb2) h4 hk)
 have HW2 := Aside0.mk hW2
 clear hW2 hb2 hk g3 g4 h3 h4 hl
 generalize idxL key v.f4 0 = t at *
 have dk : (v.f0 != 6) = false := by rw [h6]; rfl
 clear h6
 have dt : decide (t < 0) = true := decide_eq_true hm
 have m4 := (blk_cell BV2.out 4).trans (rfl : _ = some (Value.slice A4 v.f4.length q4))
 go_enter Tryz.func15, Tryz.ntmps15
 go_wp2_with (rw [HW2.out])
 refine HIX.out.mono ?_
 rintro e w3 ⟨rfl, hd3⟩
 have hb3 := hd3.below
 have BV3 := Aside0.mk (blk_below BV2.out hb3)
 have BR3 := Aside0.mk (blk_below BR2.out hb3)
 have HB3 := Aside0.mk (below_then HB2.out HB2.out.size hb3)
 clear hd3 hb3 m4
 have d0 := (blk_cell BV3.out 0).trans (rfl : _ = some (Value.int .i64 v.f0))
 have d3 := (blk_cell BV3.out 3).trans (rfl : _ = some (Value.slice A3 v.f3.length q3))
 have o0 := (blk_cell BR3.out 0).trans (rfl : _ = some (Value.int .i64 0))
 have o1 := (blk_cell BR3.out 1).trans (rfl : _ = some (Value.int .i64 0))
 have o2 := (blk_cell BR3.out 2).trans (rfl : _ = some (Value.string ⟨#[]⟩))
 have o3 := (blk_cell BR3.out 3).trans (rfl : _ = some (Value.slice none 0 0))
 have o4 := (blk_cell BR3.out 4).trans (rfl : _ = some (Value.slice none 0 0))
 have i0 := blk_frozen BR3.out 0
 have i1 := blk_frozen BR3.out 1
 have i2 := blk_frozen BR3.out 2
 have i3 := blk_frozen BR3.out 3
 have i4 := blk_frozen BR3.out 4
 go_wp2
 refine bodyPost_ret (results_ct rfl _ _ (w.heap.size + 1) 25 #[.int .i64 0, .int .i64 0, .string ⟨#[]⟩, .slice none 0 0, .slice none 0 0] (0, 0) _ rfl (fill5 BR3.out) Tryz.underlying25 rfl (by kernel_rfl)) rfl ?_
 exact ⟨_, rfl, ⟨_, _, rfl, Kd.N_nil _ _ _ _ _, Kd.V_nil _ _ _ _ _⟩, below_set5 HB3.out (by omega) _ _ _ _ _⟩
set_option maxHeartbeats 8000000 in
set_option maxRecDepth 100000 in
theorem field_far (v : V) (key : ByteArray) (A3 A4 : Option Addr) (q3 q4 : Nat) (w : World) (hl : v.f4.length ≤ 1000000000) (h3 : v.f3.length ≤ q3) (g3 : Kd.C k25 w A3 v.f3.length v.f3) (h4 : v.f4.length ≤ q4) (g4 : Kd.C Kd.string w A4 v.f4.length v.f4) (h6 : v.f0 = 6) (hm : ¬ idxL key v.f4 0 < 0) (hm2 : (v.f3.length : Int) ≤ idxL key v.f4 0) :
  Calls Tryz.prog 15 #[.agg #[.int .i64 v.f0, .int .i64 v.f1, .string v.f2, .slice A3 v.f3.length q3, .slice A4 v.f4.length q4], .string key] w (FOut w none) := by
 obtain ⟨k, hk⟩ := (idx_all (key := key) hl).get
 obtain ⟨W2, hW2⟩ : ∃ W, (w.alloc (.cells #[.int .i64 v.f0, .int .i64 v.f1, .string v.f2, .slice A3 v.f3.length q3, .slice A4 v.f4.length q4] 25)).alloc (.cells #[.int .i64 0, .int .i64 0, .string ⟨#[]⟩, .slice none 0 0, .slice none 0 0] 25) = W := ⟨_, rfl⟩
 have BV2 := Aside0.mk (show W2.heap[w.heap.size]? = some (.cells #[.int .i64 v.f0, .int .i64 v.f1, .string v.f2, .slice A3 v.f3.length q3, .slice A4 v.f4.length q4] 25 (0, 0)) by rw [← hW2]; exact blk_alloc (blk_new w _) _)
 have BR2 := Aside0.mk (show W2.heap[w.heap.size + 1]? = some (.cells #[.int .i64 0, .int .i64 0, .string ⟨#[]⟩, .slice none 0 0, .slice none 0 0] 25 (0, 0)) by
  rw [← hW2]
  have h := blk_new (w.alloc (.cells #[.int .i64 v.f0, .int .i64 v.f1, .string v.f2, .slice A3 v.f3.length q3, .slice A4 v.f4.length q4] 25)) (.cells #[.int .i64 0, .int .i64 0, .string ⟨#[]⟩, .slice none 0 0, .slice none 0 0] 25)
  rw [show (w.alloc (.cells #[.int .i64 v.f0, .int .i64 v.f1, .string v.f2, .slice A3 v.f3.length q3, .slice A4 v.f4.length q4] 25)).heap.size = w.heap.size + 1 by simp] at h
  exact h)
 have hb2 : Below w.heap.size w W2 := by rw [← hW2]; exact below_alloc (below_alloc (Below.refl _ w) _) _
 have HB2 := Aside0.mk hb2
 have HIX := Aside0.mk (slices_Index_string_string.calls k A4 q4 v.f4 key (idxL key v.f4 0) W2 (Kd.C_below g4 hb2) h4 hk)
 have HW2 := Aside0.mk hW2
 clear hW2 hb2 hk g3 g4 h3 h4 hl
 generalize idxL key v.f4 0 = t at *
 have dk : (v.f0 != 6) = false := by rw [h6]; rfl
 clear h6
 have dt : decide (t < 0) = false := decide_eq_false hm
 have dt2 : decide ((v.f3.length : Int) ≤ t) = true := decide_eq_true hm2
 have m4 := (blk_cell BV2.out 4).trans (rfl : _ = some (Value.slice A4 v.f4.length q4))
 go_enter Tryz.func15, Tryz.ntmps15
 go_wp2_with (rw [HW2.out])
 refine HIX.out.mono ?_
 rintro e w3 ⟨rfl, hd3⟩
 have hb3 := hd3.below
 have BV3 := Aside0.mk (blk_below BV2.out hb3)
 have BR3 := Aside0.mk (blk_below BR2.out hb3)
 have HB3 := Aside0.mk (below_then HB2.out HB2.out.size hb3)
 clear hd3 hb3 m4
 have d0 := (blk_cell BV3.out 0).trans (rfl : _ = some (Value.int .i64 v.f0))
 have d3 := (blk_cell BV3.out 3).trans (rfl : _ = some (Value.slice A3 v.f3.length q3))
 have o0 := (blk_cell BR3.out 0).trans (rfl : _ = some (Value.int .i64 0))
 have o1 := (blk_cell BR3.out 1).trans (rfl : _ = some (Value.int .i64 0))
 have o2 := (blk_cell BR3.out 2).trans (rfl : _ = some (Value.string ⟨#[]⟩))
 have o3 := (blk_cell BR3.out 3).trans (rfl : _ = some (Value.slice none 0 0))
 have o4 := (blk_cell BR3.out 4).trans (rfl : _ = some (Value.slice none 0 0))
 have i0 := blk_frozen BR3.out 0
 have i1 := blk_frozen BR3.out 1
 have i2 := blk_frozen BR3.out 2
 have i3 := blk_frozen BR3.out 3
 have i4 := blk_frozen BR3.out 4
 go_wp2
 refine bodyPost_ret (results_ct rfl _ _ (w.heap.size + 1) 25 #[.int .i64 0, .int .i64 0, .string ⟨#[]⟩, .slice none 0 0, .slice none 0 0] (0, 0) _ rfl (fill5 BR3.out) Tryz.underlying25 rfl (by kernel_rfl)) rfl ?_
 exact ⟨_, rfl, ⟨_, _, rfl, Kd.N_nil _ _ _ _ _, Kd.V_nil _ _ _ _ _⟩, below_set5 HB3.out (by omega) _ _ _ _ _⟩
theorem field_any (v : V) (key : ByteArray) (D : Nat) (hlim : limB D v = true) (A3 A4 : Option Addr) (q3 q4 : Nat) (w : World) (h3 : v.f3.length ≤ q3) (g3 : Kd.C k25 w A3 v.f3.length v.f3) (h4 : v.f4.length ≤ q4) (g4 : Kd.C Kd.string w A4 v.f4.length v.f4) :
  Calls Tryz.prog 15 #[.agg #[.int .i64 v.f0, .int .i64 v.f1, .string v.f2, .slice A3 v.f3.length q3, .slice A4 v.f4.length q4], .string key] w (FOut w (fieldL v key)) := by
 obtain ⟨D, rfl⟩ : ∃ D', D = D' + 1 := by
  cases D with
  | zero => simp [limB] at hlim
  | succ D => exact ⟨D, rfl⟩
 obtain ⟨l3, l4, la⟩ := lim_succ hlim
 unfold fieldL
 by_cases h6 : v.f0 = 6
 rotate_left
 ·rw [if_neg h6]
  exact field_kind v key A3 A4 q3 q4 w l4 h3 g3 h4 g4 h6
 rw [if_pos h6]
 by_cases hn : idxL key v.f4 0 < 0
 ·rw [if_pos hn]
  exact field_none v key A3 A4 q3 q4 w l4 h3 g3 h4 g4 h6 hn
 rw [if_neg hn]
 obtain ⟨t, ht4, ht⟩ : ∃ t, t < v.f4.length ∧ idxL key v.f4 0 = (t : Int) := by
  rcases idxL_range key v.f4 with h | h
  ·omega
  ·exact h
 by_cases hlt : t < v.f3.length
 rotate_left
 ·rw [ht, Int.toNat_natCast, List.getElem?_eq_none (by omega)]
  exact field_far v key A3 A4 q3 q4 w l4 h3 g3 h4 g4 h6 hn (by omega)
 have hget : v.f3[(idxL key v.f4 0).toNat]? = some (v.f3[t]'hlt) := by rw [ht, Int.toNat_natCast, List.getElem?_eq_getElem hlt]
 rw [hget]
 obtain ⟨k1, hk1⟩ := idx_all (key := key) l4
 obtain ⟨k2, hk2⟩ := copied_ev D _ (la _ (List.getElem_mem hlt))
 have hi := hk1 (max k1 k2) (by omega)
 have hc := hk2 (max k1 k2) (by omega)
 rw [ht] at hi
 have hf := field_hitV (max k1 k2) v.f1 v.f2 A3 A4 q3 q4 v.f3 v.f4 key t _ _ _ _ _ w g3 h3 g4 h4 hi hlt hc
 rw [h6]
 refine hf.mono ?_
 rintro e w' ⟨A5, p5, A6, p6, rfl, hn5, hv6, hb⟩
 exact ⟨_, rfl, ⟨_, _, rfl, hn5, hv6⟩, hb⟩
end Go.Proofs.YtifejhbochkifaaGreatDoor.X
