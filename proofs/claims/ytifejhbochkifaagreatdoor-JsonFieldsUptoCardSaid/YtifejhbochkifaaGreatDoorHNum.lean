/- json's reader: a number. -/
import Derived.Test.YtifejhbochkifaaGreatDoorBB
import Derived.Test.YtifejhbochkifaaGreatDoorBA
import Derived.Shelf.Strings.SlTrimAscii
namespace Go.Proofs.YtifejhbochkifaaGreatDoor.X
open Go.RowKit Go.Proofs.YtifejhbochkifaaGreatDoorW.PrintWords Go.Proofs.YtifejhbochkifaaGreatDoorW.PrintLast Go.Proofs.YtifejhbochkifaaGreatDoorW.PrintMore Go.Proofs.YtifejhbochkifaaGreatDoor.Spec
set_option linter.unusedVariables false
set_option linter.unusedSimpArgs false
theorem trim_num (l : List UInt8) : Lib.trimLeftS l [45, 48, 49, 50, 51, 52, 53, 54, 55, 56, 57] = l.drop (l.takeWhile isnum).length := by
 unfold Lib.trimLeftS
 have hf : ∀ n : Fin 256, ([45, 48, 49, 50, 51, 52, 53, 54, 55, 56, 57] : List UInt8).contains (UInt8.ofNat n.val) = isnum (UInt8.ofNat n.val) := by decide +kernel
 have hc : ∀ c : UInt8, ([45, 48, 49, 50, 51, 52, 53, 54, 55, 56, 57] : List UInt8).contains c = isnum c := fun c => by
  have := hf ⟨c.toNat, c.toNat_lt⟩
  simpa using this
 induction l with
 | nil => rfl
 | cons c t ih =>
  rw [List.dropWhile_cons, List.takeWhile_cons, hc]
  cases isnum c with
  | true => simpa using ih
  | false => rfl
theorem trim_calls (l : List UInt8) (w : World) : Calls Tryz.prog 64 #[.string (ba l), .string ⟨#[45, 48, 49, 50, 51, 52, 53, 54, 55, 56, 57]⟩] w fun e w' => e = .returned (.string (ba (l.drop (l.takeWhile isnum).length))) ∧ Below w.heap.size w w' := by
 refine (Any.strings_TrimLeft_laid Tryz.lays161 (by kernel_rfl) (ba l) ⟨#[45, 48, 49, 50, 51, 52, 53, 54, 55, 56, 57]⟩ w (by decide) (ascii_of_all (by decide))).mono ?_
 rintro e w' ⟨rfl, hb⟩
 refine ⟨?_, hb⟩
 rw [← trim_num]
 rfl
theorem fmt_calls (n : Int) (h0 : -9223372036854775808 ≤ n) (h1 : n ≤ 9223372036854775807) (w : World) (hG : GOK w) :
  Calls Tryz.prog 48 #[.int .i64 n, .int .i64 10] w fun e w' => e = .returned (.string (ba (Lib.itoa n))) ∧ Below w.heap.size w w' := by
 have HF := Aside0.mk (Tryz.internal_strconv_FormatInt_10 n h0 h1 w hG.tab)
 clear hG h0 h1
 go_enter Tryz.func48, Tryz.ntmps48
 go_wp2_with fail
 refine HF.out.mono ?_
 rintro e w' ⟨rfl, k, os, rfl⟩
 have HB := Aside0.mk (Lib.below_grow _ w (Nat.le_refl _) k os)
 go_wp2
 go_ret
 exact ⟨rfl, HB.out⟩
theorem parse_calls (p : List UInt8) (hs : p.length ≤ 281474976710656) (w : World) (hG : GOK w) :
  Calls Tryz.prog 65 #[.string (ba p), .int .i64 10, .int .i64 64] w fun e w' => ∃ x ev, e = .returned (.tuple #[.int .i64 x, ev]) ∧ -9223372036854775808 ≤ x ∧ x ≤ 9223372036854775807 ∧ ((ev = .nilIface ∧ Lib.parseIntB 64 p = .ok x) ∨ ((∃ t q, ev = .iface t (.pointer (some q))) ∧ ∀ y, Lib.parseIntB 64 p ≠ .ok y)) ∧ Below w.heap.size w w' := by
 have hz : (ba p).size = p.length := size_ba p
 cases hr : Lib.parseIntB 64 p with
 | ok v =>
  have hb := Lib.parseIntB_bounds hr
  refine (Tryz.strconv_ParseInt_10_at64_ok (ba p) (by omega) v hr w).mono ?_
  rintro e w' ⟨rfl, hw⟩
  refine ⟨v, .nilIface, rfl, by simpa using hb.1, by have := hb.2; simp at this; omega, .inl ⟨rfl, rfl⟩, ?_⟩
  rcases hw with rfl | ⟨t, rfl⟩
  ·exact Below.refl _ _
  ·exact Joins.below_bytesWorld _ w _ _ (Nat.le_refl _)
 | «syntax» =>
  obtain ⟨tp, q, hv⟩ := hG.esyn
  refine (Tryz.strconv_ParseInt_10_at64_syntax_var (ba p) (by omega) hr tp q w hv).mono ?_
  rintro e w' ⟨N, rfl, _, _, hb⟩
  exact ⟨0, _, rfl, by decide, by decide, .inr ⟨⟨_, _, rfl⟩, fun y e => by cases e⟩, hb⟩
 | range =>
  obtain ⟨tp, q, hv⟩ := hG.eran
  refine (Tryz.strconv_ParseInt_10_at64_range_var (ba p) (by omega) hr tp q w hv).mono ?_
  rintro e w' ⟨N, rfl, _, _, hb⟩
  refine ⟨_, _, rfl, ?_, ?_, .inr ⟨⟨_, _, rfl⟩, fun y e => by cases e⟩, hb⟩
  ·rw [Lib.intSat_64]; unfold Lib.atoiSat; split <;> omega
  ·rw [Lib.intSat_64]; unfold Lib.atoiSat; split <;> omega
theorem fill5 {g t : Nat} {w : World} {v0 v1 v2 v3 v4 u0 u1 u2 u3 u4 : Value} (h : w.heap[g]? = some (.cells #[v0, v1, v2, v3, v4] t (0, 0))) : (((((w.setCell ⟨g, 0, none⟩ u0).setCell ⟨g, 1, none⟩ u1).setCell ⟨g, 2, none⟩ u2).setCell ⟨g, 3, none⟩ u3).setCell ⟨g, 4, none⟩ u4).heap[g]? = some (.cells #[u0, u1, u2, u3, u4] t (0, 0)) :=
 blk_set (blk_set (blk_set (blk_set (blk_set h 0 u0) 1 u1) 2 u2) 3 u3) 4 u4
theorem far5 {g k T : Nat} {w : World} {cs : Array Value} {u0 u1 u2 u3 u4 : Value} (h : w.heap[k]? = some (.cells cs T (0, 0))) (hn : k ≠ g) : (((((w.setCell ⟨g, 0, none⟩ u0).setCell ⟨g, 1, none⟩ u1).setCell ⟨g, 2, none⟩ u2).setCell ⟨g, 3, none⟩ u3).setCell ⟨g, 4, none⟩ u4).heap[k]? = some (.cells cs T (0, 0)) :=
 blk_far (blk_far (blk_far (blk_far (blk_far h (p := ⟨g, 0, none⟩) hn u0) (p := ⟨g, 1, none⟩) hn u1) (p := ⟨g, 2, none⟩) hn u2) (p := ⟨g, 3, none⟩) hn u3) (p := ⟨g, 4, none⟩) hn u4
theorem gb_new {w w1 : World} {row : Option Nat} (h : w.grownBy w1 row) {g : Nat} (hg : w.heap.size ≤ g) (j : Nat) (v : Value) : w.grownBy (w1.setCell ⟨g, j, none⟩ v) row :=
 h.andThen (gb_set w1 g j v) (fun k e => .inl (by injection e with e; omega))
theorem gb_new5 {w0 w : World} {row : Option Nat} (h : w0.grownBy w row) {g : Nat} (hg : w0.heap.size ≤ g) {u0 u1 u2 u3 u4 : Value} : w0.grownBy (((((w.setCell ⟨g, 0, none⟩ u0).setCell ⟨g, 1, none⟩ u1).setCell ⟨g, 2, none⟩ u2).setCell ⟨g, 3, none⟩ u3).setCell ⟨g, 4, none⟩ u4) row :=
 gb_new (gb_new (gb_new (gb_new (gb_new h hg 0 u0) hg 1 u1) hg 2 u2) hg 3 u3) hg 4 u4
/-- What reading a value leaves. -/
def VOut (w : World) (b : Nat) (n : Nat) (R : Option (V × List UInt8)) (e : Ending) (w' : World) : Prop :=
  ∃ (x : V) (s' : List UInt8) (bad : Bool) (c3 c4 : Value), e = .returned (.agg #[.int .i64 x.f0, .int .i64 x.f1, .string x.f2, c3, c4]) ∧ Kd.R k25 25 w' w.heap.size (fun k => w.heap.size ≤ k) c3 x.f3 ∧ Kd.R Kd.string 9 w' w.heap.size (fun k => w.heap.size ≤ k) c4 x.f4 ∧ Rs w' b s' bad ∧ w.grownBy w' (some b) ∧ s'.length ≤ n ∧
    (∀ y r, R = some (y, r) → x = y ∧ s' = r ∧ bad = false) ∧ (R = none → bad = true)
set_option maxHeartbeats 8000000 in
set_option maxRecDepth 100000 in
theorem number_calls (b : Nat) (l : List UInt8) (w w0 : World) (h : Rs w b l false) (hs : l.length ≤ 1000000) (hG : GOK w0) (hB : Below w0.heap.size w0 w) (hb0 : w0.heap.size ≤ b) :
  Calls Tryz.prog 42 #[.pointer (some ⟨b, 0, none⟩)] w (VOut w b l.length (readNum l)) := by
 obtain ⟨z, hz⟩ : ∃ z, ba l = z := ⟨_, rfl⟩
 obtain ⟨p, hp⟩ : ∃ p, l.takeWhile isnum = p := ⟨_, rfl⟩
 obtain ⟨q, hq⟩ : ∃ q, l.drop p.length = q := ⟨_, rfl⟩
 have hpl : p.length ≤ l.length := by rw [← hp]; exact (List.takeWhile_sublist _).length_le
 have hql : q.length = l.length - p.length := by rw [← hq, List.length_drop]
 have hpq : l = p ++ q := by
  have h1 := List.takeWhile_append_dropWhile (p := isnum) (l := l)
  have h2 : l.dropWhile isnum = q := by
   rw [← hq, ← hp]
   clear hq hp h hs hz hpl hql h1
   induction l with
   | nil => rfl
   | cons c t ih => rw [List.dropWhile_cons, List.takeWhile_cons]; split <;> simp_all
  rw [hp, h2] at h1
  exact h1.symm
 have hzs : z.size = l.length := by rw [← hz, size_ba]
 obtain ⟨y, hy⟩ : ∃ y, ba q = y := ⟨_, rfl⟩
 have hys : y.size = q.length := by rw [← hy, size_ba]
 have HTRIM := Aside0.mk (fun W => (show Calls Tryz.prog 64 #[.string z, .string ⟨#[45, 48, 49, 50, 51, 52, 53, 54, 55, 56, 57]⟩] W fun e w' => e = .returned (.string y) ∧ Below W.heap.size W w' from by
  have := trim_calls l W
  rw [hz, hp, hq, hy] at this
  exact this))
 have hr1 : ∀ x, Lib.parseIntB 64 p = .ok x → Lib.itoa x = p → readNum l = some (⟨3, x, ⟨#[]⟩, [], []⟩, q) := fun x h1 h2 => by unfold readNum; rw [hp, h1]; simp only [h2, if_true, hq]
 have hr2 : ∀ x, Lib.parseIntB 64 p = .ok x → Lib.itoa x ≠ p → readNum l = none := fun x h1 h2 => by unfold readNum; rw [hp, h1]; simp only [h2, if_false]
 have hr3 : (∀ x, Lib.parseIntB 64 p ≠ .ok x) → readNum l = none := fun h1 => by
  unfold readNum; rw [hp]
  cases h2 : Lib.parseIntB 64 p with
  | ok x => exact absurd h2 (h1 x)
  | «syntax» => rfl
  | range => rfl
 have HR := Aside0.mk (And.intro hr1 (And.intro hr2 hr3))
 have hx0 : z.extract 0 p.length = ba p := by rw [← hz]; apply bl_inj; rw [bl_ba]; subst hpq; simp [bl, ba]
 have hx1 : z.extract p.length z.size = y := by rw [hzs, ← hz, ← hy]; apply bl_inj; rw [bl_ba]; subst hpq; simp [bl, ba]
 have HX := Aside0.mk (And.intro hx0 hx1)
 have hz6 : z.size ≤ 1000000 := by omega
 have hyz : y.size + p.length = z.size := by omega
 have HL := Aside0.mk (show q.length ≤ l.length by omega)
 obtain ⟨W1, hW1⟩ : ∃ W, w.alloc (.cells #[.int .i64 0, .int .i64 0, .string ⟨#[]⟩, .slice none 0 0, .slice none 0 0] 25) = W := ⟨_, rfl⟩
 have bk1 := blk_new w (.cells #[.int .i64 0, .int .i64 0, .string ⟨#[]⟩, .slice none 0 0, .slice none 0 0] 25)
 have h1 := h.alloc (.cells #[.int .i64 0, .int .i64 0, .string ⟨#[]⟩, .slice none 0 0, .slice none 0 0] 25)
 have hb1 := below_alloc (Below.refl _ w) (.cells #[.int .i64 0, .int .i64 0, .string ⟨#[]⟩, .slice none 0 0, .slice none 0 0] 25)
 rw [hW1] at bk1 h1 hb1
 have c0 := h1.c0
 rw [hz] at c0
 have hbW1 := h1.lt
 have hbw := h.lt
 have BK1 := Aside0.mk bk1
 have H1 := Aside0.mk h1
 have HB1 := Aside0.mk hb1
 have HG := Aside0.mk hG
 have HB := Aside0.mk hB
 have HZ := Aside0.mk (And.intro hz (And.intro hq hy))
 have HW1 := Aside0.mk hW1
 clear h hs hG hB hz hp hq hpl hql hpq hzs hys hr1 hr2 hr3 hx0 hx1 bk1 h1 hb1 hW1 hy
 go_enter Tryz.func42, Tryz.ntmps42
 go_wp2
 rw [HW1.out]
 refine start_ (n := 13) (S := fun w' => w'.cell? ⟨b, 0, none⟩ = some (.string z)) (ds := []) #[false, false, false, false, false, false, false, false, false, false, false, false, false] (by kernel_rfl) rfl rfl (c0) (fun hHeld => ?_)
 refine pure_ (i := 0) (N := some 6) (v := ?_) (a' := ?_) #[true, false, false, false, false, false, false, false, false, false, false, false, false] rfl rfl (by kernel_rfl) (fun _ _ _ h => h) (Or.inl ⟨by rfl, ?_⟩) ?_ ?_
 rotate_left
 ·intro w'
  go_simp
  with_reducible rfl
 rotate_left
 ·simp only [Act.put, List.setIfInBounds_toArray, List.set_cons_zero, List.set_cons_succ, i64_w, i32_w]
  rfl
 refine pure_ (i := 1) (N := some 7) (v := ?_) (a' := ?_) #[true, true, false, false, false, false, false, false, false, false, false, false, false] rfl rfl (by kernel_rfl) (fun _ _ _ h => h) (Or.inl ⟨by rfl, ?_⟩) ?_ ?_
 rotate_left
 ·intro w'
  go_simp
  with_reducible rfl
 rotate_left
 ·simp only [Act.put, List.setIfInBounds_toArray, List.set_cons_zero, List.set_cons_succ, i64_w, i32_w]
  rfl
 refine pure_ (i := 2) (N := some 8) (v := ?_) (a' := ?_) #[true, true, true, false, false, false, false, false, false, false, false, false, false] rfl rfl (by kernel_rfl) (fun _ _ _ h => h) (Or.inl ⟨by rfl, ?_⟩) ?_ ?_
 rotate_left
 ·intro w'
  go_simp
  with_reducible rfl
 rotate_left
 ·simp only [Act.put, List.setIfInBounds_toArray, List.set_cons_zero, List.set_cons_succ, i64_w, i32_w]
  rfl
 refine pure_ (i := 5) (N := some 11) (v := ?_) (a' := ?_) #[true, true, true, false, false, true, false, false, false, false, false, false, false] rfl rfl (by kernel_rfl) (fun _ _ _ h => h) (Or.inl ⟨by rfl, ?_⟩) ?_ ?_
 rotate_left
 ·intro w'
  go_simp
  with_reducible rfl
 rotate_left
 ·simp only [Act.put, List.setIfInBounds_toArray, List.set_cons_zero, List.set_cons_succ, i64_w, i32_w]
  rfl
 refine pure_ (i := 6) (N := some 12) (v := ?_) (a' := ?_) #[true, true, true, false, false, true, true, false, false, false, false, false, false] rfl rfl (by kernel_rfl) (fun _ _ _ h => h) (Or.inl ⟨by rfl, ?_⟩) ?_ ?_
 rotate_left
 ·intro w'
  go_simp
  with_reducible rfl
 rotate_left
 ·simp only [Act.put, List.setIfInBounds_toArray, List.set_cons_zero, List.set_cons_succ, i64_w, i32_w]
  rfl
 refine pure_ (i := 7) (N := some 13) (v := ?_) (a' := ?_) #[true, true, true, false, false, true, true, true, false, false, false, false, false] rfl rfl (by kernel_rfl) (fun _ _ _ h => h) (Or.inl ⟨by rfl, ?_⟩) ?_ ?_
 rotate_left
 ·intro w'
  go_simp
  with_reducible rfl
 rotate_left
 ·simp only [Act.put, List.setIfInBounds_toArray, List.set_cons_zero, List.set_cons_succ, i64_w, i32_w]
  rfl
 refine take_ (i := 3) (N := some 9) (v := ?_) (a' := ?_) #[true, true, true, true, false, true, true, true, false, false, false, false, false] rfl rfl (by kernel_rfl) (fun _ _ _ h => h) (Or.inl ⟨by rfl, ?_⟩) hHeld ?_ ?_
 rotate_left
 ·intro w' s0
  go_simp
  with_reducible rfl
 rotate_left
 ·simp only [Act.put, List.setIfInBounds_toArray, List.set_cons_zero, List.set_cons_succ, i64_w, i32_w]
  rfl
 refine pure_ (i := 4) (N := some 10) (v := ?_) (a' := ?_) #[true, true, true, true, true, true, true, true, false, false, false, false, false] rfl rfl (by kernel_rfl) (fun _ _ _ h => h) (Or.inl ⟨by rfl, ?_⟩) ?_ ?_
 rotate_left
 ·intro w'
  go_simp
  with_reducible rfl
 rotate_left
 ·simp only [Act.put, List.setIfInBounds_toArray, List.set_cons_zero, List.set_cons_succ, i64_w, i32_w]
  rfl
 refine take_ (i := 8) (N := some 14) (v := ?_) (a' := ?_) #[true, true, true, true, true, true, true, true, true, false, false, false, false] rfl rfl (by kernel_rfl) (fun _ _ _ h => h) (Or.inl ⟨by rfl, ?_⟩) hHeld ?_ ?_
 rotate_left
 ·intro w' s0
  go_simp
  with_reducible rfl
 rotate_left
 ·simp only [Act.put, List.setIfInBounds_toArray, List.set_cons_zero, List.set_cons_succ, i64_w, i32_w]
  rfl
 refine one_ (i := 9) (N := some 15) #[true, true, true, true, true, true, true, true, true, true, false, false, false] rfl rfl (by kernel_rfl) (by decide) (fun K hK => ?_)
 refine goes_ Tryz.func64 (by kernel_rfl) rfl #[.string z, .string ⟨#[45, 48, 49, 50, 51, 52, 53, 54, 55, 56, 57]⟩] (by rfl) rfl rfl (by simp only [List.map_toArray, List.map_cons, List.map_nil]; rfl) ?_
 with_reducible refine (HTRIM.out W1.drew).mono ?_
 rintro e w8 ⟨rfl, hb8⟩
 refine ⟨_, rfl, ?_⟩
 have HB8 := Aside0.mk (below_then (below_drew (Below.refl _ W1)) (Nat.le_refl _) hb8)
 clear hb8
 refine hK.out _ _ (((HB8.out.cell (p := ⟨b, 0, none⟩) hbW1).trans c0)) (fun hHeld => ?_)
 clear hK K
 refine norm_ (a' := ?_) ?_ ?_
 rotate_left
 ·show Act.put _ (some 15) _ = _
  simp only [Act.put, List.setIfInBounds_toArray, List.set_cons_zero, List.set_cons_succ, i64_w, i32_w]
  rfl
 refine pure_ (i := 10) (N := some 16) (v := ?_) (a' := ?_) #[true, true, true, true, true, true, true, true, true, true, true, false, false] rfl rfl (by kernel_rfl) (fun _ _ _ h => h) (Or.inl ⟨by rfl, ?_⟩) ?_ ?_
 rotate_left
 ·intro w'
  go_simp
  with_reducible rfl
 rotate_left
 ·simp only [Act.put, List.setIfInBounds_toArray, List.set_cons_zero, List.set_cons_succ, i64_w, i32_w]
  rfl
 refine pure_ (i := 11) (N := some 17) (v := ?_) (a' := ?_) #[true, true, true, true, true, true, true, true, true, true, true, true, false] rfl rfl (by kernel_rfl) (fun _ _ _ h => h) (Or.inl ⟨by rfl, ?_⟩) ?_ ?_
 rotate_left
 ·intro w'
  go_simp
  with_reducible rfl
 rotate_left
 ·simp only [Act.put, List.setIfInBounds_toArray, List.set_cons_zero, List.set_cons_succ, i64_w, i32_w]
  rfl
 refine pure_ (i := 12) (N := some 3) (v := ?_) (a' := ?_) #[true, true, true, true, true, true, true, true, true, true, true, true, true] rfl rfl (by kernel_rfl) (fun _ _ _ h => h) (Or.inl ⟨by rfl, ?_⟩) ?_ ?_
 rotate_left
 ·intro w'
  go_simp
  with_reducible rfl
 rotate_left
 ·simp only [Act.put, List.setIfInBounds_toArray, List.set_cons_zero, List.set_cons_succ, i64_w, i32_w]
  rfl
 refine done_ (by kernel_rfl) ?_

 have hw64 : wrap64 ((z.size : Int) - (y.size : Int)) = (p.length : Int) := by unfold wrap64; omega
 rw [hw64]
 have hb8 : Below W1.heap.size W1 w8 := HB8.out
 have H8 := Aside0.mk (H1.out.below hb8)
 have BK8 := Aside0.mk (blk_below BK1.out hb8)
 have HBw8 := Aside0.mk (below_then HB1.out HB1.out.size hb8)
 have HG8 := Aside0.mk (HG.out.below (below_then HB.out HB.out.size HBw8.out))
 have e1 := H8.out.c1
 clear hb8 HB8 H1 BK1 HB1 c0 hbW1 hw64
 go_wp2_with fail
 rw [HX.out.1]
 refine (parse_calls p (by omega) w8 HG8.out).mono ?_
 rintro e W3 ⟨x, ev, rfl, hx0, hx1, hcase, hb9⟩
 have H9 := Aside0.mk (H8.out.below hb9)
 have BK9 := Aside0.mk (blk_below BK8.out hb9)
 have HBw9 := Aside0.mk (below_then HBw8.out HBw8.out.size hb9)
 have HG9 := Aside0.mk (HG8.out.below hb9)
 have e0 : W3.cell? ⟨b, 0, none⟩ = some (.string z) := by rw [← HZ.out.1]; exact H9.out.c0
 have e1 := H9.out.c1
 have hbW3 := H9.out.lt
 have f1 := blk_frozen H9.out 1
 have hx0' := HX.out.1
 have hple : p.length ≤ z.size := by omega
 clear hHeld H8 BK8 HBw8 HG8 hb9
 rcases hcase with ⟨rfl, hok⟩ | ⟨⟨et, ep, rfl⟩, hno⟩
 ·have HFMT := Aside0.mk (fmt_calls x hx0 hx1 W3.drew (HG9.out.below (below_drew (Below.refl _ W3))))
  obtain ⟨F, hF⟩ : ∃ F, ba (Lib.itoa x) = F := ⟨_, rfl⟩
  rw [hF] at HFMT
  obtain ⟨X, hX⟩ : ∃ X, ba p = X := ⟨_, rfl⟩
  rw [hX] at hx0'
  by_cases hi : Lib.itoa x = p
  ·have hc : (F.toList == X.toList) = true := by rw [← hF, ← hX, hi]; exact beq_self_eq_true _
   have hc2 : (!(F.toList == X.toList)) = false := by rw [hc]; rfl
   have HN := Aside0.mk (HR.out.1 x hok hi)
   clear hok hi hF hX
   go_wp2
   refine start_ (n := 23) (S := fun w' => w'.cell? ⟨b, 0, none⟩ = some (.string z) ∧ w'.cell? ⟨b, 1, none⟩ = some (.bool false)) (ds := [22]) #[false, false, false, false, false, false, false, false, false, false, false, false, false, false, false, false, false, false, false, false, false, false, false] (by kernel_rfl) rfl rfl ⟨e0, e1⟩ (fun hHeld => ?_)
   refine pure_ (i := 0) (N := some 28) (v := ?_) (a' := ?_) #[true, false, false, false, false, false, false, false, false, false, false, false, false, false, false, false, false, false, false, false, false, false, false] rfl rfl (by kernel_rfl) (fun _ _ _ h => h) (Or.inl ⟨by rfl, ?_⟩) ?_ ?_
   rotate_left
   ·intro w'
    go_simp
    with_reducible rfl
   rotate_left
   ·simp only [Act.put, List.setIfInBounds_toArray, List.set_cons_zero, List.set_cons_succ, i64_w, i32_w]
    rfl
   refine pure_ (i := 1) (N := some 29) (v := ?_) (a' := ?_) #[true, true, false, false, false, false, false, false, false, false, false, false, false, false, false, false, false, false, false, false, false, false, false] rfl rfl (by kernel_rfl) (fun _ _ _ h => h) (Or.inl ⟨by rfl, ?_⟩) ?_ ?_
   rotate_left
   ·intro w'
    go_simp
    with_reducible rfl
   rotate_left
   ·simp only [Act.put, List.setIfInBounds_toArray, List.set_cons_zero, List.set_cons_succ, i64_w, i32_w]
    rfl
   refine pure_ (i := 2) (N := some 30) (v := ?_) (a' := ?_) #[true, true, true, false, false, false, false, false, false, false, false, false, false, false, false, false, false, false, false, false, false, false, false] rfl rfl (by kernel_rfl) (fun _ _ _ h => h) (Or.inl ⟨by rfl, ?_⟩) ?_ ?_
   rotate_left
   ·intro w'
    go_simp
    with_reducible rfl
   rotate_left
   ·simp only [Act.put, List.setIfInBounds_toArray, List.set_cons_zero, List.set_cons_succ, i64_w, i32_w]
    rfl
   refine pure_ (i := 3) (N := some 31) (v := ?_) (a' := ?_) #[true, true, true, true, false, false, false, false, false, false, false, false, false, false, false, false, false, false, false, false, false, false, false] rfl rfl (by kernel_rfl) (fun _ _ _ h => h) (Or.inl ⟨by rfl, ?_⟩) ?_ ?_
   rotate_left
   ·intro w'
    go_simp
    with_reducible rfl
   rotate_left
   ·simp only [Act.put, List.setIfInBounds_toArray, List.set_cons_zero, List.set_cons_succ, i64_w, i32_w]
    rfl
   refine take_ (i := 4) (N := some 32) (v := ?_) (a' := ?_) #[true, true, true, true, true, false, false, false, false, false, false, false, false, false, false, false, false, false, false, false, false, false, false] rfl rfl (by kernel_rfl) (fun _ _ _ h => h) (Or.inl ⟨by rfl, ?_⟩) hHeld ?_ ?_
   rotate_left
   ·rintro w' ⟨s0, s1⟩
    go_simp
    with_reducible rfl
   rotate_left
   ·simp only [Act.put, List.setIfInBounds_toArray, List.set_cons_zero, List.set_cons_succ, i64_w, i32_w]
    rfl
   refine pure_ (i := 5) (N := some 33) (v := ?_) (a' := ?_) #[true, true, true, true, true, true, false, false, false, false, false, false, false, false, false, false, false, false, false, false, false, false, false] rfl rfl (by kernel_rfl) (fun _ _ _ h => h) (Or.inl ⟨by rfl, ?_⟩) ?_ ?_
   rotate_left
   ·intro w'
    go_simp
    with_reducible rfl
   rotate_left
   ·simp only [Act.put, List.setIfInBounds_toArray, List.set_cons_zero, List.set_cons_succ, i64_w, i32_w]
    rfl
   refine pure_ (i := 6) (N := some 34) (v := ?_) (a' := ?_) #[true, true, true, true, true, true, true, false, false, false, false, false, false, false, false, false, false, false, false, false, false, false, false] rfl rfl (by kernel_rfl) (fun _ _ _ h => h) (Or.inl ⟨by rfl, ?_⟩) ?_ ?_
   rotate_left
   ·intro w'
    go_simp
    with_reducible rfl
   rotate_left
   ·simp only [Act.put, List.setIfInBounds_toArray, List.set_cons_zero, List.set_cons_succ, i64_w, i32_w]
    rfl
   refine pure_ (i := 7) (N := some 35) (v := ?_) (a' := ?_) #[true, true, true, true, true, true, true, true, false, false, false, false, false, false, false, false, false, false, false, false, false, false, false] rfl rfl (by kernel_rfl) (fun _ _ _ h => h) (Or.inl ⟨by rfl, ?_⟩) ?_ ?_
   rotate_left
   ·intro w'
    go_simp
    with_reducible rfl
   rotate_left
   ·simp only [Act.put, List.setIfInBounds_toArray, List.set_cons_zero, List.set_cons_succ, i64_w, i32_w]
    rfl
   refine pure_ (i := 8) (N := some 36) (v := ?_) (a' := ?_) #[true, true, true, true, true, true, true, true, true, false, false, false, false, false, false, false, false, false, false, false, false, false, false] rfl rfl (by kernel_rfl) (fun _ _ _ h => h) (Or.inl ⟨by rfl, ?_⟩) ?_ ?_
   rotate_left
   ·intro w'
    go_simp
    with_reducible rfl
   rotate_left
   ·simp only [Act.put, List.setIfInBounds_toArray, List.set_cons_zero, List.set_cons_succ, i64_w, i32_w]
    rfl
   refine pure_ (i := 9) (N := some 37) (v := ?_) (a' := ?_) #[true, true, true, true, true, true, true, true, true, true, false, false, false, false, false, false, false, false, false, false, false, false, false] rfl rfl (by kernel_rfl) (fun _ _ _ h => h) (Or.inl ⟨by rfl, ?_⟩) ?_ ?_
   rotate_left
   ·intro w'
    go_simp
    with_reducible rfl
   rotate_left
   ·simp only [Act.put, List.setIfInBounds_toArray, List.set_cons_zero, List.set_cons_succ, i64_w, i32_w]
    rfl
   refine pure_ (i := 10) (N := some 38) (v := ?_) (a' := ?_) #[true, true, true, true, true, true, true, true, true, true, true, false, false, false, false, false, false, false, false, false, false, false, false] rfl rfl (by kernel_rfl) (fun _ _ _ h => h) (Or.inl ⟨by rfl, ?_⟩) ?_ ?_
   rotate_left
   ·intro w'
    go_simp
    with_reducible rfl
   rotate_left
   ·simp only [Act.put, List.setIfInBounds_toArray, List.set_cons_zero, List.set_cons_succ, i64_w, i32_w]
    rfl
   refine pure_ (i := 12) (N := some 40) (v := ?_) (a' := ?_) #[true, true, true, true, true, true, true, true, true, true, true, false, true, false, false, false, false, false, false, false, false, false, false] rfl rfl (by kernel_rfl) (fun _ _ _ h => h) (Or.inl ⟨by rfl, ?_⟩) ?_ ?_
   rotate_left
   ·intro w'
    go_simp
    with_reducible rfl
   rotate_left
   ·simp only [Act.put, List.setIfInBounds_toArray, List.set_cons_zero, List.set_cons_succ, i64_w, i32_w]
    rfl
   refine pure_ (i := 13) (N := some 41) (v := ?_) (a' := ?_) #[true, true, true, true, true, true, true, true, true, true, true, false, true, true, false, false, false, false, false, false, false, false, false] rfl rfl (by kernel_rfl) (fun _ _ _ h => h) (Or.inl ⟨by rfl, ?_⟩) ?_ ?_
   rotate_left
   ·intro w'
    go_simp
    with_reducible rfl
   rotate_left
   ·simp only [Act.put, List.setIfInBounds_toArray, List.set_cons_zero, List.set_cons_succ, i64_w, i32_w]
    rfl
   refine pure_ (i := 14) (N := some 42) (v := ?_) (a' := ?_) #[true, true, true, true, true, true, true, true, true, true, true, false, true, true, true, false, false, false, false, false, false, false, false] rfl rfl (by kernel_rfl) (fun _ _ _ h => h) (Or.inl ⟨by rfl, ?_⟩) ?_ ?_
   rotate_left
   ·intro w'
    go_simp
    with_reducible rfl
   rotate_left
   ·simp only [Act.put, List.setIfInBounds_toArray, List.set_cons_zero, List.set_cons_succ, i64_w, i32_w]
    rfl
   refine pure_ (i := 16) (N := some 44) (v := ?_) (a' := ?_) #[true, true, true, true, true, true, true, true, true, true, true, false, true, true, true, false, true, false, false, false, false, false, false] rfl rfl (by kernel_rfl) (fun _ _ _ h => h) (Or.inl ⟨by rfl, ?_⟩) ?_ ?_
   rotate_left
   ·intro w'
    go_simp
    with_reducible rfl
   rotate_left
   ·simp only [Act.put, List.setIfInBounds_toArray, List.set_cons_zero, List.set_cons_succ, i64_w, i32_w]
    rfl
   refine take_ (i := 15) (N := some 43) (v := ?_) (a' := ?_) #[true, true, true, true, true, true, true, true, true, true, true, false, true, true, true, true, true, false, false, false, false, false, false] rfl rfl (by kernel_rfl) (fun _ _ _ h => h) (Or.inl ⟨by rfl, ?_⟩) hHeld ?_ ?_
   rotate_left
   ·rintro w' ⟨s0, s1⟩
    go_simp
    with_reducible rfl
   rotate_left
   ·simp only [Act.put, List.setIfInBounds_toArray, List.set_cons_zero, List.set_cons_succ, i64_w, i32_w]
    rfl
   refine pure_ (i := 17) (N := some 45) (v := ?_) (a' := ?_) #[true, true, true, true, true, true, true, true, true, true, true, false, true, true, true, true, true, true, false, false, false, false, false] rfl rfl (by kernel_rfl) (fun _ _ _ h => h) (Or.inl ⟨by rfl, ?_⟩) ?_ ?_
   rotate_left
   ·intro w'
    go_simp
    with_reducible rfl
   rotate_left
   ·simp only [Act.put, List.setIfInBounds_toArray, List.set_cons_zero, List.set_cons_succ, i64_w, i32_w]
    rfl
   refine one_ (i := 11) (N := some 39) #[true, true, true, true, true, true, true, true, true, true, true, true, true, true, true, true, true, true, false, false, false, false, false] rfl rfl (by kernel_rfl) (by decide) (fun K hK => ?_)
   refine goes_ Tryz.func48 (by kernel_rfl) rfl #[.int .i64 x, .int .i64 10] (by rfl) rfl rfl (by simp only [List.map_toArray, List.map_cons, List.map_nil]; rfl) ?_
   with_reducible refine (HFMT.out).mono ?_
   rintro e w9 ⟨rfl, hb9⟩
   refine ⟨_, rfl, ?_⟩
   have HB9 := Aside0.mk (below_then (below_drew (Below.refl _ W3)) (Nat.le_refl _) hb9)
   clear hb9
   have f91_ := blk_frozen (H9.out.below HB9.out) 1
   refine hK.out _ _ ⟨((HB9.out.cell (p := ⟨b, 0, none⟩) hbW3).trans e0), ((HB9.out.cell (p := ⟨b, 1, none⟩) hbW3).trans e1)⟩ (fun hHeld => ?_)
   clear hK K
   refine norm_ (a' := ?_) ?_ ?_
   rotate_left
   ·show Act.put _ (some 39) _ = _
    simp only [Act.put, List.setIfInBounds_toArray, List.set_cons_zero, List.set_cons_succ, i64_w, i32_w]
    rfl
   refine pure_ (i := 18) (N := some 46) (v := ?_) (a' := ?_) #[true, true, true, true, true, true, true, true, true, true, true, true, true, true, true, true, true, true, true, false, false, false, false] rfl rfl (by kernel_rfl) (fun _ _ _ h => h) (Or.inl ⟨by rfl, ?_⟩) ?_ ?_
   rotate_left
   ·intro w'
    go_simp
    with_reducible rfl
   rotate_left
   ·simp only [Act.put, List.setIfInBounds_toArray, List.set_cons_zero, List.set_cons_succ, i64_w, i32_w]
    rfl
   refine pure_ (i := 19) (N := some 47) (v := ?_) (a' := ?_) #[true, true, true, true, true, true, true, true, true, true, true, true, true, true, true, true, true, true, true, true, false, false, false] rfl rfl (by kernel_rfl) (fun _ _ _ h => h) (Or.inl ⟨by rfl, ?_⟩) ?_ ?_
   rotate_left
   ·intro w'
    go_simp
    with_reducible rfl
   rotate_left
   ·simp only [Act.put, List.setIfInBounds_toArray, List.set_cons_zero, List.set_cons_succ, i64_w, i32_w]
    rfl
   refine pure_ (i := 20) (N := some 48) (v := ?_) (a' := ?_) #[true, true, true, true, true, true, true, true, true, true, true, true, true, true, true, true, true, true, true, true, true, false, false] rfl rfl (by kernel_rfl) (fun _ _ _ h => h) (Or.inl ⟨by rfl, ?_⟩) ?_ ?_
   rotate_left
   ·intro w'
    go_simp
    with_reducible rfl
   rotate_left
   ·simp only [Act.put, List.setIfInBounds_toArray, List.set_cons_zero, List.set_cons_succ, i64_w, i32_w]
    rfl
   refine pure_ (i := 21) (N := some 49) (v := ?_) (a' := ?_) #[true, true, true, true, true, true, true, true, true, true, true, true, true, true, true, true, true, true, true, true, true, true, false] rfl rfl (by kernel_rfl) (fun _ _ _ h => h) (Or.inl ⟨by rfl, ?_⟩) ?_ ?_
   rotate_left
   ·intro w'
    go_simp
    with_reducible rfl
   rotate_left
   ·simp only [Act.put, List.setIfInBounds_toArray, List.set_cons_zero, List.set_cons_succ, i64_w, i32_w]
    rfl
   refine last_ (i := 22) (N := none) #[true, true, true, true, true, true, true, true, true, true, true, true, true, true, true, true, true, true, true, true, true, true, true] rfl rfl (by kernel_rfl) (by decide) (fun K hK => ?_)
   refine skip_ (w1 := ?_) (by rfl) rfl ?_ ?_
   rotate_left
   ·go_simp
    rfl
   refine hK.out _ _ ?_
   clear hK K
   refine done_ (by kernel_rfl) ?_

   have h10 := (H9.out.below HB9.out).set1 (bad' := false)
   have bk10 := blk_far (p := ⟨b, 1, none⟩) (blk_below BK9.out HB9.out) (show w.heap.size ≠ b by omega) (.bool false)
   have gb10 := (grown_of_below (below_then HBw9.out HBw9.out.size HB9.out) (some b)).trans (gb_set w9 b 1 (.bool false))
   generalize w9.setCell ⟨b, 1, none⟩ (.bool false) = W4 at h10 bk10 gb10 ⊢
   have H10 := Aside0.mk h10
   have BK10 := Aside0.mk bk10
   have GB10 := Aside0.mk gb10
   have k0 := h10.c0
   rw [HZ.out.1] at k0
   have j0 := blk_frozen h10 0
   have hx1' := HX.out.2
   have ne10 : b ≠ w.heap.size := by omega
   have ne11 : w.heap.size ≠ b := by omega
   have m0 := (blk_cell bk10 0).trans (rfl : _ = some (Value.int .i64 0))
   have m1 := (blk_cell bk10 1).trans (rfl : _ = some (Value.int .i64 0))
   have m2 := (blk_cell bk10 2).trans (rfl : _ = some (Value.string ⟨#[]⟩))
   have m3 := (blk_cell bk10 3).trans (rfl : _ = some (Value.slice none 0 0))
   have m4 := (blk_cell bk10 4).trans (rfl : _ = some (Value.slice none 0 0))
   have i0 := blk_frozen bk10 0
   have i1 := blk_frozen bk10 1
   have i2 := blk_frozen bk10 2
   have i3 := blk_frozen bk10 3
   have i4 := blk_frozen bk10 4
   clear h10 bk10 gb10 hHeld e0 e1 hbW3 H9 BK9 HBw9 HG9 HB9
   go_wp2
   refine bodyPost_ret (results_cell_row rfl _ _ w.heap.size 25 #[.int .i64 3, .int .i64 x, .string ⟨#[]⟩, .slice none 0 0, .slice none 0 0] (0, 0) _ rfl (fill5 (blk_far (p := ⟨b, 0, none⟩) BK10.out ne11 _)) Tryz.underlying25 rfl (by kernel_rfl)) rfl ?_
   refine ⟨⟨3, x, ⟨#[]⟩, [], []⟩, q, false, _, _, rfl, Kd.R_nil _ _ _ _ _, Kd.R_nil _ _ _ _ _, far5 (by rw [← HZ.out.2.2]; exact H10.out.set0) ne10, gb_new5 (GB10.out.trans (gb_set _ b 0 _)) (Nat.le_refl _), HL.out, ?_, ?_⟩
   ·intro y r e
    rw [HN.out] at e
    simp only [Option.some.injEq, Prod.mk.injEq] at e
    obtain ⟨rfl, rfl⟩ := e
    exact ⟨rfl, rfl, rfl⟩
   ·intro e; rw [HN.out] at e; cases e
  ·have hc : (F.toList == X.toList) = false := by
    rw [← hF, ← hX, beq_eq_false_iff_ne, toList_bl, toList_bl, bl_ba, bl_ba]; exact hi
   have hc2 : (!(F.toList == X.toList)) = true := by rw [hc]; rfl
   have HN := Aside0.mk (HR.out.2.1 x hok hi)
   clear hok hi hF hX
   go_wp2
   refine start_ (n := 23) (S := fun w' => w'.cell? ⟨b, 0, none⟩ = some (.string z) ∧ w'.cell? ⟨b, 1, none⟩ = some (.bool false)) (ds := [22]) #[false, false, false, false, false, false, false, false, false, false, false, false, false, false, false, false, false, false, false, false, false, false, false] (by kernel_rfl) rfl rfl ⟨e0, e1⟩ (fun hHeld => ?_)
   refine pure_ (i := 0) (N := some 28) (v := ?_) (a' := ?_) #[true, false, false, false, false, false, false, false, false, false, false, false, false, false, false, false, false, false, false, false, false, false, false] rfl rfl (by kernel_rfl) (fun _ _ _ h => h) (Or.inl ⟨by rfl, ?_⟩) ?_ ?_
   rotate_left
   ·intro w'
    go_simp
    with_reducible rfl
   rotate_left
   ·simp only [Act.put, List.setIfInBounds_toArray, List.set_cons_zero, List.set_cons_succ, i64_w, i32_w]
    rfl
   refine pure_ (i := 1) (N := some 29) (v := ?_) (a' := ?_) #[true, true, false, false, false, false, false, false, false, false, false, false, false, false, false, false, false, false, false, false, false, false, false] rfl rfl (by kernel_rfl) (fun _ _ _ h => h) (Or.inl ⟨by rfl, ?_⟩) ?_ ?_
   rotate_left
   ·intro w'
    go_simp
    with_reducible rfl
   rotate_left
   ·simp only [Act.put, List.setIfInBounds_toArray, List.set_cons_zero, List.set_cons_succ, i64_w, i32_w]
    rfl
   refine pure_ (i := 2) (N := some 30) (v := ?_) (a' := ?_) #[true, true, true, false, false, false, false, false, false, false, false, false, false, false, false, false, false, false, false, false, false, false, false] rfl rfl (by kernel_rfl) (fun _ _ _ h => h) (Or.inl ⟨by rfl, ?_⟩) ?_ ?_
   rotate_left
   ·intro w'
    go_simp
    with_reducible rfl
   rotate_left
   ·simp only [Act.put, List.setIfInBounds_toArray, List.set_cons_zero, List.set_cons_succ, i64_w, i32_w]
    rfl
   refine pure_ (i := 3) (N := some 31) (v := ?_) (a' := ?_) #[true, true, true, true, false, false, false, false, false, false, false, false, false, false, false, false, false, false, false, false, false, false, false] rfl rfl (by kernel_rfl) (fun _ _ _ h => h) (Or.inl ⟨by rfl, ?_⟩) ?_ ?_
   rotate_left
   ·intro w'
    go_simp
    with_reducible rfl
   rotate_left
   ·simp only [Act.put, List.setIfInBounds_toArray, List.set_cons_zero, List.set_cons_succ, i64_w, i32_w]
    rfl
   refine take_ (i := 4) (N := some 32) (v := ?_) (a' := ?_) #[true, true, true, true, true, false, false, false, false, false, false, false, false, false, false, false, false, false, false, false, false, false, false] rfl rfl (by kernel_rfl) (fun _ _ _ h => h) (Or.inl ⟨by rfl, ?_⟩) hHeld ?_ ?_
   rotate_left
   ·rintro w' ⟨s0, s1⟩
    go_simp
    with_reducible rfl
   rotate_left
   ·simp only [Act.put, List.setIfInBounds_toArray, List.set_cons_zero, List.set_cons_succ, i64_w, i32_w]
    rfl
   refine pure_ (i := 5) (N := some 33) (v := ?_) (a' := ?_) #[true, true, true, true, true, true, false, false, false, false, false, false, false, false, false, false, false, false, false, false, false, false, false] rfl rfl (by kernel_rfl) (fun _ _ _ h => h) (Or.inl ⟨by rfl, ?_⟩) ?_ ?_
   rotate_left
   ·intro w'
    go_simp
    with_reducible rfl
   rotate_left
   ·simp only [Act.put, List.setIfInBounds_toArray, List.set_cons_zero, List.set_cons_succ, i64_w, i32_w]
    rfl
   refine pure_ (i := 6) (N := some 34) (v := ?_) (a' := ?_) #[true, true, true, true, true, true, true, false, false, false, false, false, false, false, false, false, false, false, false, false, false, false, false] rfl rfl (by kernel_rfl) (fun _ _ _ h => h) (Or.inl ⟨by rfl, ?_⟩) ?_ ?_
   rotate_left
   ·intro w'
    go_simp
    with_reducible rfl
   rotate_left
   ·simp only [Act.put, List.setIfInBounds_toArray, List.set_cons_zero, List.set_cons_succ, i64_w, i32_w]
    rfl
   refine pure_ (i := 7) (N := some 35) (v := ?_) (a' := ?_) #[true, true, true, true, true, true, true, true, false, false, false, false, false, false, false, false, false, false, false, false, false, false, false] rfl rfl (by kernel_rfl) (fun _ _ _ h => h) (Or.inl ⟨by rfl, ?_⟩) ?_ ?_
   rotate_left
   ·intro w'
    go_simp
    with_reducible rfl
   rotate_left
   ·simp only [Act.put, List.setIfInBounds_toArray, List.set_cons_zero, List.set_cons_succ, i64_w, i32_w]
    rfl
   refine pure_ (i := 8) (N := some 36) (v := ?_) (a' := ?_) #[true, true, true, true, true, true, true, true, true, false, false, false, false, false, false, false, false, false, false, false, false, false, false] rfl rfl (by kernel_rfl) (fun _ _ _ h => h) (Or.inl ⟨by rfl, ?_⟩) ?_ ?_
   rotate_left
   ·intro w'
    go_simp
    with_reducible rfl
   rotate_left
   ·simp only [Act.put, List.setIfInBounds_toArray, List.set_cons_zero, List.set_cons_succ, i64_w, i32_w]
    rfl
   refine pure_ (i := 9) (N := some 37) (v := ?_) (a' := ?_) #[true, true, true, true, true, true, true, true, true, true, false, false, false, false, false, false, false, false, false, false, false, false, false] rfl rfl (by kernel_rfl) (fun _ _ _ h => h) (Or.inl ⟨by rfl, ?_⟩) ?_ ?_
   rotate_left
   ·intro w'
    go_simp
    with_reducible rfl
   rotate_left
   ·simp only [Act.put, List.setIfInBounds_toArray, List.set_cons_zero, List.set_cons_succ, i64_w, i32_w]
    rfl
   refine pure_ (i := 10) (N := some 38) (v := ?_) (a' := ?_) #[true, true, true, true, true, true, true, true, true, true, true, false, false, false, false, false, false, false, false, false, false, false, false] rfl rfl (by kernel_rfl) (fun _ _ _ h => h) (Or.inl ⟨by rfl, ?_⟩) ?_ ?_
   rotate_left
   ·intro w'
    go_simp
    with_reducible rfl
   rotate_left
   ·simp only [Act.put, List.setIfInBounds_toArray, List.set_cons_zero, List.set_cons_succ, i64_w, i32_w]
    rfl
   refine pure_ (i := 12) (N := some 40) (v := ?_) (a' := ?_) #[true, true, true, true, true, true, true, true, true, true, true, false, true, false, false, false, false, false, false, false, false, false, false] rfl rfl (by kernel_rfl) (fun _ _ _ h => h) (Or.inl ⟨by rfl, ?_⟩) ?_ ?_
   rotate_left
   ·intro w'
    go_simp
    with_reducible rfl
   rotate_left
   ·simp only [Act.put, List.setIfInBounds_toArray, List.set_cons_zero, List.set_cons_succ, i64_w, i32_w]
    rfl
   refine pure_ (i := 13) (N := some 41) (v := ?_) (a' := ?_) #[true, true, true, true, true, true, true, true, true, true, true, false, true, true, false, false, false, false, false, false, false, false, false] rfl rfl (by kernel_rfl) (fun _ _ _ h => h) (Or.inl ⟨by rfl, ?_⟩) ?_ ?_
   rotate_left
   ·intro w'
    go_simp
    with_reducible rfl
   rotate_left
   ·simp only [Act.put, List.setIfInBounds_toArray, List.set_cons_zero, List.set_cons_succ, i64_w, i32_w]
    rfl
   refine pure_ (i := 14) (N := some 42) (v := ?_) (a' := ?_) #[true, true, true, true, true, true, true, true, true, true, true, false, true, true, true, false, false, false, false, false, false, false, false] rfl rfl (by kernel_rfl) (fun _ _ _ h => h) (Or.inl ⟨by rfl, ?_⟩) ?_ ?_
   rotate_left
   ·intro w'
    go_simp
    with_reducible rfl
   rotate_left
   ·simp only [Act.put, List.setIfInBounds_toArray, List.set_cons_zero, List.set_cons_succ, i64_w, i32_w]
    rfl
   refine pure_ (i := 16) (N := some 44) (v := ?_) (a' := ?_) #[true, true, true, true, true, true, true, true, true, true, true, false, true, true, true, false, true, false, false, false, false, false, false] rfl rfl (by kernel_rfl) (fun _ _ _ h => h) (Or.inl ⟨by rfl, ?_⟩) ?_ ?_
   rotate_left
   ·intro w'
    go_simp
    with_reducible rfl
   rotate_left
   ·simp only [Act.put, List.setIfInBounds_toArray, List.set_cons_zero, List.set_cons_succ, i64_w, i32_w]
    rfl
   refine take_ (i := 15) (N := some 43) (v := ?_) (a' := ?_) #[true, true, true, true, true, true, true, true, true, true, true, false, true, true, true, true, true, false, false, false, false, false, false] rfl rfl (by kernel_rfl) (fun _ _ _ h => h) (Or.inl ⟨by rfl, ?_⟩) hHeld ?_ ?_
   rotate_left
   ·rintro w' ⟨s0, s1⟩
    go_simp
    with_reducible rfl
   rotate_left
   ·simp only [Act.put, List.setIfInBounds_toArray, List.set_cons_zero, List.set_cons_succ, i64_w, i32_w]
    rfl
   refine pure_ (i := 17) (N := some 45) (v := ?_) (a' := ?_) #[true, true, true, true, true, true, true, true, true, true, true, false, true, true, true, true, true, true, false, false, false, false, false] rfl rfl (by kernel_rfl) (fun _ _ _ h => h) (Or.inl ⟨by rfl, ?_⟩) ?_ ?_
   rotate_left
   ·intro w'
    go_simp
    with_reducible rfl
   rotate_left
   ·simp only [Act.put, List.setIfInBounds_toArray, List.set_cons_zero, List.set_cons_succ, i64_w, i32_w]
    rfl
   refine one_ (i := 11) (N := some 39) #[true, true, true, true, true, true, true, true, true, true, true, true, true, true, true, true, true, true, false, false, false, false, false] rfl rfl (by kernel_rfl) (by decide) (fun K hK => ?_)
   refine goes_ Tryz.func48 (by kernel_rfl) rfl #[.int .i64 x, .int .i64 10] (by rfl) rfl rfl (by simp only [List.map_toArray, List.map_cons, List.map_nil]; rfl) ?_
   with_reducible refine (HFMT.out).mono ?_
   rintro e w9 ⟨rfl, hb9⟩
   refine ⟨_, rfl, ?_⟩
   have HB9 := Aside0.mk (below_then (below_drew (Below.refl _ W3)) (Nat.le_refl _) hb9)
   clear hb9
   have f91_ := blk_frozen (H9.out.below HB9.out) 1
   refine hK.out _ _ ⟨((HB9.out.cell (p := ⟨b, 0, none⟩) hbW3).trans e0), ((HB9.out.cell (p := ⟨b, 1, none⟩) hbW3).trans e1)⟩ (fun hHeld => ?_)
   clear hK K
   refine norm_ (a' := ?_) ?_ ?_
   rotate_left
   ·show Act.put _ (some 39) _ = _
    simp only [Act.put, List.setIfInBounds_toArray, List.set_cons_zero, List.set_cons_succ, i64_w, i32_w]
    rfl
   refine pure_ (i := 18) (N := some 46) (v := ?_) (a' := ?_) #[true, true, true, true, true, true, true, true, true, true, true, true, true, true, true, true, true, true, true, false, false, false, false] rfl rfl (by kernel_rfl) (fun _ _ _ h => h) (Or.inl ⟨by rfl, ?_⟩) ?_ ?_
   rotate_left
   ·intro w'
    go_simp
    with_reducible rfl
   rotate_left
   ·simp only [Act.put, List.setIfInBounds_toArray, List.set_cons_zero, List.set_cons_succ, i64_w, i32_w]
    rfl
   refine pure_ (i := 19) (N := some 47) (v := ?_) (a' := ?_) #[true, true, true, true, true, true, true, true, true, true, true, true, true, true, true, true, true, true, true, true, false, false, false] rfl rfl (by kernel_rfl) (fun _ _ _ h => h) (Or.inl ⟨by rfl, ?_⟩) ?_ ?_
   rotate_left
   ·intro w'
    go_simp
    with_reducible rfl
   rotate_left
   ·simp only [Act.put, List.setIfInBounds_toArray, List.set_cons_zero, List.set_cons_succ, i64_w, i32_w]
    rfl
   refine pure_ (i := 20) (N := some 48) (v := ?_) (a' := ?_) #[true, true, true, true, true, true, true, true, true, true, true, true, true, true, true, true, true, true, true, true, true, false, false] rfl rfl (by kernel_rfl) (fun _ _ _ h => h) (Or.inl ⟨by rfl, ?_⟩) ?_ ?_
   rotate_left
   ·intro w'
    go_simp
    with_reducible rfl
   rotate_left
   ·simp only [Act.put, List.setIfInBounds_toArray, List.set_cons_zero, List.set_cons_succ, i64_w, i32_w]
    rfl
   refine pure_ (i := 21) (N := some 49) (v := ?_) (a' := ?_) #[true, true, true, true, true, true, true, true, true, true, true, true, true, true, true, true, true, true, true, true, true, true, false] rfl rfl (by kernel_rfl) (fun _ _ _ h => h) (Or.inl ⟨by rfl, ?_⟩) ?_ ?_
   rotate_left
   ·intro w'
    go_simp
    with_reducible rfl
   rotate_left
   ·simp only [Act.put, List.setIfInBounds_toArray, List.set_cons_zero, List.set_cons_succ, i64_w, i32_w]
    rfl
   refine last_ (i := 22) (N := none) #[true, true, true, true, true, true, true, true, true, true, true, true, true, true, true, true, true, true, true, true, true, true, true] rfl rfl (by kernel_rfl) (by decide) (fun K hK => ?_)
   refine skip_ (w1 := ?_) (by rfl) rfl ?_ ?_
   rotate_left
   ·go_simp
    rfl
   refine hK.out _ _ ?_
   clear hK K
   refine done_ (by kernel_rfl) ?_

   have h10 := (H9.out.below HB9.out).set1 (bad' := true)
   have bk10 := blk_far (p := ⟨b, 1, none⟩) (blk_below BK9.out HB9.out) (show w.heap.size ≠ b by omega) (.bool true)
   have gb10 := (grown_of_below (below_then HBw9.out HBw9.out.size HB9.out) (some b)).trans (gb_set w9 b 1 (.bool true))
   generalize w9.setCell ⟨b, 1, none⟩ (.bool true) = W4 at h10 bk10 gb10 ⊢
   have H10 := Aside0.mk h10
   have BK10 := Aside0.mk bk10
   have GB10 := Aside0.mk gb10
   have k0 := h10.c0
   rw [HZ.out.1] at k0
   have j0 := blk_frozen h10 0
   have hx1' := HX.out.2
   have ne10 : b ≠ w.heap.size := by omega
   have ne11 : w.heap.size ≠ b := by omega
   have m0 := (blk_cell bk10 0).trans (rfl : _ = some (Value.int .i64 0))
   have m1 := (blk_cell bk10 1).trans (rfl : _ = some (Value.int .i64 0))
   have m2 := (blk_cell bk10 2).trans (rfl : _ = some (Value.string ⟨#[]⟩))
   have m3 := (blk_cell bk10 3).trans (rfl : _ = some (Value.slice none 0 0))
   have m4 := (blk_cell bk10 4).trans (rfl : _ = some (Value.slice none 0 0))
   have i0 := blk_frozen bk10 0
   have i1 := blk_frozen bk10 1
   have i2 := blk_frozen bk10 2
   have i3 := blk_frozen bk10 3
   have i4 := blk_frozen bk10 4
   clear h10 bk10 gb10 hHeld e0 e1 hbW3 H9 BK9 HBw9 HG9 HB9
   go_wp2
   refine bodyPost_ret (results_cell_row rfl _ _ w.heap.size 25 #[.int .i64 3, .int .i64 x, .string ⟨#[]⟩, .slice none 0 0, .slice none 0 0] (0, 0) _ rfl (fill5 (blk_far (p := ⟨b, 0, none⟩) BK10.out ne11 _)) Tryz.underlying25 rfl (by kernel_rfl)) rfl ?_
   refine ⟨⟨3, x, ⟨#[]⟩, [], []⟩, q, true, _, _, rfl, Kd.R_nil _ _ _ _ _, Kd.R_nil _ _ _ _ _, far5 (by rw [← HZ.out.2.2]; exact H10.out.set0) ne10, gb_new5 (GB10.out.trans (gb_set _ b 0 _)) (Nat.le_refl _), HL.out, ?_, ?_⟩
   ·intro y r e; rw [HN.out] at e; cases e
   ·intro e; rfl
 ·have HN := Aside0.mk (HR.out.2.2 hno)
  clear hno
  have e2_ : True := trivial
  by_cases hT : True
  ·go_wp2
   refine start_ (n := 23) (S := fun w' => w'.cell? ⟨b, 0, none⟩ = some (.string z) ∧ w'.cell? ⟨b, 1, none⟩ = some (.bool false)) (ds := [22]) #[false, false, false, false, false, false, false, false, false, false, false, false, false, false, false, false, false, false, false, false, false, false, false] (by kernel_rfl) rfl rfl ⟨e0, e1⟩ (fun hHeld => ?_)
   refine pure_ (i := 0) (N := some 28) (v := ?_) (a' := ?_) #[true, false, false, false, false, false, false, false, false, false, false, false, false, false, false, false, false, false, false, false, false, false, false] rfl rfl (by kernel_rfl) (fun _ _ _ h => h) (Or.inl ⟨by rfl, ?_⟩) ?_ ?_
   rotate_left
   ·intro w'
    go_simp
    with_reducible rfl
   rotate_left
   ·simp only [Act.put, List.setIfInBounds_toArray, List.set_cons_zero, List.set_cons_succ, i64_w, i32_w]
    rfl
   refine pure_ (i := 1) (N := some 29) (v := ?_) (a' := ?_) #[true, true, false, false, false, false, false, false, false, false, false, false, false, false, false, false, false, false, false, false, false, false, false] rfl rfl (by kernel_rfl) (fun _ _ _ h => h) (Or.inl ⟨by rfl, ?_⟩) ?_ ?_
   rotate_left
   ·intro w'
    go_simp
    with_reducible rfl
   rotate_left
   ·simp only [Act.put, List.setIfInBounds_toArray, List.set_cons_zero, List.set_cons_succ, i64_w, i32_w]
    rfl
   refine pure_ (i := 2) (N := some 30) (v := ?_) (a' := ?_) #[true, true, true, false, false, false, false, false, false, false, false, false, false, false, false, false, false, false, false, false, false, false, false] rfl rfl (by kernel_rfl) (fun _ _ _ h => h) (Or.inl ⟨by rfl, ?_⟩) ?_ ?_
   rotate_left
   ·intro w'
    go_simp
    with_reducible rfl
   rotate_left
   ·simp only [Act.put, List.setIfInBounds_toArray, List.set_cons_zero, List.set_cons_succ, i64_w, i32_w]
    rfl
   refine pure_ (i := 3) (N := some 31) (v := ?_) (a' := ?_) #[true, true, true, true, false, false, false, false, false, false, false, false, false, false, false, false, false, false, false, false, false, false, false] rfl rfl (by kernel_rfl) (fun _ _ _ h => h) (Or.inl ⟨by rfl, ?_⟩) ?_ ?_
   rotate_left
   ·intro w'
    go_simp
    with_reducible rfl
   rotate_left
   ·simp only [Act.put, List.setIfInBounds_toArray, List.set_cons_zero, List.set_cons_succ, i64_w, i32_w]
    rfl
   refine take_ (i := 4) (N := some 32) (v := ?_) (a' := ?_) #[true, true, true, true, true, false, false, false, false, false, false, false, false, false, false, false, false, false, false, false, false, false, false] rfl rfl (by kernel_rfl) (fun _ _ _ h => h) (Or.inl ⟨by rfl, ?_⟩) hHeld ?_ ?_
   rotate_left
   ·rintro w' ⟨s0, s1⟩
    go_simp
    with_reducible rfl
   rotate_left
   ·simp only [Act.put, List.setIfInBounds_toArray, List.set_cons_zero, List.set_cons_succ, i64_w, i32_w]
    rfl
   refine pure_ (i := 5) (N := some 33) (v := ?_) (a' := ?_) #[true, true, true, true, true, true, false, false, false, false, false, false, false, false, false, false, false, false, false, false, false, false, false] rfl rfl (by kernel_rfl) (fun _ _ _ h => h) (Or.inl ⟨by rfl, ?_⟩) ?_ ?_
   rotate_left
   ·intro w'
    go_simp
    with_reducible rfl
   rotate_left
   ·simp only [Act.put, List.setIfInBounds_toArray, List.set_cons_zero, List.set_cons_succ, i64_w, i32_w]
    rfl
   refine pure_ (i := 6) (N := some 34) (v := ?_) (a' := ?_) #[true, true, true, true, true, true, true, false, false, false, false, false, false, false, false, false, false, false, false, false, false, false, false] rfl rfl (by kernel_rfl) (fun _ _ _ h => h) (Or.inl ⟨by rfl, ?_⟩) ?_ ?_
   rotate_left
   ·intro w'
    go_simp
    with_reducible rfl
   rotate_left
   ·simp only [Act.put, List.setIfInBounds_toArray, List.set_cons_zero, List.set_cons_succ, i64_w, i32_w]
    rfl
   refine pure_ (i := 7) (N := some 35) (v := ?_) (a' := ?_) #[true, true, true, true, true, true, true, true, false, false, false, false, false, false, false, false, false, false, false, false, false, false, false] rfl rfl (by kernel_rfl) (fun _ _ _ h => h) (Or.inl ⟨by rfl, ?_⟩) ?_ ?_
   rotate_left
   ·intro w'
    go_simp
    with_reducible rfl
   rotate_left
   ·simp only [Act.put, List.setIfInBounds_toArray, List.set_cons_zero, List.set_cons_succ, i64_w, i32_w]
    rfl
   refine pure_ (i := 8) (N := some 36) (v := ?_) (a' := ?_) #[true, true, true, true, true, true, true, true, true, false, false, false, false, false, false, false, false, false, false, false, false, false, false] rfl rfl (by kernel_rfl) (fun _ _ _ h => h) (Or.inl ⟨by rfl, ?_⟩) ?_ ?_
   rotate_left
   ·intro w'
    go_simp
    with_reducible rfl
   rotate_left
   ·simp only [Act.put, List.setIfInBounds_toArray, List.set_cons_zero, List.set_cons_succ, i64_w, i32_w]
    rfl
   refine pure_ (i := 9) (N := some 37) (v := ?_) (a' := ?_) #[true, true, true, true, true, true, true, true, true, true, false, false, false, false, false, false, false, false, false, false, false, false, false] rfl rfl (by kernel_rfl) (fun _ _ _ h => h) (Or.inl ⟨by rfl, ?_⟩) ?_ ?_
   rotate_left
   ·intro w'
    go_simp
    with_reducible rfl
   rotate_left
   ·simp only [Act.put, List.setIfInBounds_toArray, List.set_cons_zero, List.set_cons_succ, i64_w, i32_w]
    rfl
   refine pure_ (i := 10) (N := some 38) (v := undef) (a' := ?_) #[true, true, true, true, true, true, true, true, true, true, true, false, false, false, false, false, false, false, false, false, false, false, false] rfl rfl (by kernel_rfl) (fun _ _ _ h => h) (Or.inr ⟨by rfl, rfl⟩) ?_ ?_
   rotate_left
   ·simp only [Act.put, List.setIfInBounds_toArray, List.set_cons_zero, List.set_cons_succ, i64_w, i32_w]
    rfl
   refine pure_ (i := 11) (N := some 39) (v := undef) (a' := ?_) #[true, true, true, true, true, true, true, true, true, true, true, true, false, false, false, false, false, false, false, false, false, false, false] rfl rfl (by kernel_rfl) (fun _ _ _ h => h) (Or.inr ⟨by rfl, rfl⟩) ?_ ?_
   rotate_left
   ·simp only [Act.put, List.setIfInBounds_toArray, List.set_cons_zero, List.set_cons_succ, i64_w, i32_w]
    rfl
   refine pure_ (i := 12) (N := some 40) (v := undef) (a' := ?_) #[true, true, true, true, true, true, true, true, true, true, true, true, true, false, false, false, false, false, false, false, false, false, false] rfl rfl (by kernel_rfl) (fun _ _ _ h => h) (Or.inr ⟨by rfl, rfl⟩) ?_ ?_
   rotate_left
   ·simp only [Act.put, List.setIfInBounds_toArray, List.set_cons_zero, List.set_cons_succ, i64_w, i32_w]
    rfl
   refine pure_ (i := 13) (N := some 41) (v := undef) (a' := ?_) #[true, true, true, true, true, true, true, true, true, true, true, true, true, true, false, false, false, false, false, false, false, false, false] rfl rfl (by kernel_rfl) (fun _ _ _ h => h) (Or.inr ⟨by rfl, rfl⟩) ?_ ?_
   rotate_left
   ·simp only [Act.put, List.setIfInBounds_toArray, List.set_cons_zero, List.set_cons_succ, i64_w, i32_w]
    rfl
   refine pure_ (i := 14) (N := some 42) (v := undef) (a' := ?_) #[true, true, true, true, true, true, true, true, true, true, true, true, true, true, true, false, false, false, false, false, false, false, false] rfl rfl (by kernel_rfl) (fun _ _ _ h => h) (Or.inr ⟨by rfl, rfl⟩) ?_ ?_
   rotate_left
   ·simp only [Act.put, List.setIfInBounds_toArray, List.set_cons_zero, List.set_cons_succ, i64_w, i32_w]
    rfl
   refine pure_ (i := 15) (N := some 43) (v := undef) (a' := ?_) #[true, true, true, true, true, true, true, true, true, true, true, true, true, true, true, true, false, false, false, false, false, false, false] rfl rfl (by kernel_rfl) (fun _ _ _ h => h) (Or.inr ⟨by rfl, rfl⟩) ?_ ?_
   rotate_left
   ·simp only [Act.put, List.setIfInBounds_toArray, List.set_cons_zero, List.set_cons_succ, i64_w, i32_w]
    rfl
   refine pure_ (i := 16) (N := some 44) (v := undef) (a' := ?_) #[true, true, true, true, true, true, true, true, true, true, true, true, true, true, true, true, true, false, false, false, false, false, false] rfl rfl (by kernel_rfl) (fun _ _ _ h => h) (Or.inr ⟨by rfl, rfl⟩) ?_ ?_
   rotate_left
   ·simp only [Act.put, List.setIfInBounds_toArray, List.set_cons_zero, List.set_cons_succ, i64_w, i32_w]
    rfl
   refine pure_ (i := 17) (N := some 45) (v := undef) (a' := ?_) #[true, true, true, true, true, true, true, true, true, true, true, true, true, true, true, true, true, true, false, false, false, false, false] rfl rfl (by kernel_rfl) (fun _ _ _ h => h) (Or.inr ⟨by rfl, rfl⟩) ?_ ?_
   rotate_left
   ·simp only [Act.put, List.setIfInBounds_toArray, List.set_cons_zero, List.set_cons_succ, i64_w, i32_w]
    rfl
   refine pure_ (i := 18) (N := some 46) (v := undef) (a' := ?_) #[true, true, true, true, true, true, true, true, true, true, true, true, true, true, true, true, true, true, true, false, false, false, false] rfl rfl (by kernel_rfl) (fun _ _ _ h => h) (Or.inr ⟨by rfl, rfl⟩) ?_ ?_
   rotate_left
   ·simp only [Act.put, List.setIfInBounds_toArray, List.set_cons_zero, List.set_cons_succ, i64_w, i32_w]
    rfl
   refine pure_ (i := 19) (N := some 47) (v := ?_) (a' := ?_) #[true, true, true, true, true, true, true, true, true, true, true, true, true, true, true, true, true, true, true, true, false, false, false] rfl rfl (by kernel_rfl) (fun _ _ _ h => h) (Or.inl ⟨by rfl, ?_⟩) ?_ ?_
   rotate_left
   ·intro w'
    go_simp
    with_reducible rfl
   rotate_left
   ·simp only [Act.put, List.setIfInBounds_toArray, List.set_cons_zero, List.set_cons_succ, i64_w, i32_w]
    rfl
   refine pure_ (i := 20) (N := some 48) (v := ?_) (a' := ?_) #[true, true, true, true, true, true, true, true, true, true, true, true, true, true, true, true, true, true, true, true, true, false, false] rfl rfl (by kernel_rfl) (fun _ _ _ h => h) (Or.inl ⟨by rfl, ?_⟩) ?_ ?_
   rotate_left
   ·intro w'
    go_simp
    with_reducible rfl
   rotate_left
   ·simp only [Act.put, List.setIfInBounds_toArray, List.set_cons_zero, List.set_cons_succ, i64_w, i32_w]
    rfl
   refine pure_ (i := 21) (N := some 49) (v := ?_) (a' := ?_) #[true, true, true, true, true, true, true, true, true, true, true, true, true, true, true, true, true, true, true, true, true, true, false] rfl rfl (by kernel_rfl) (fun _ _ _ h => h) (Or.inl ⟨by rfl, ?_⟩) ?_ ?_
   rotate_left
   ·intro w'
    go_simp
    with_reducible rfl
   rotate_left
   ·simp only [Act.put, List.setIfInBounds_toArray, List.set_cons_zero, List.set_cons_succ, i64_w, i32_w]
    rfl
   refine last_ (i := 22) (N := none) #[true, true, true, true, true, true, true, true, true, true, true, true, true, true, true, true, true, true, true, true, true, true, true] rfl rfl (by kernel_rfl) (by decide) (fun K hK => ?_)
   refine skip_ (w1 := ?_) (by rfl) rfl ?_ ?_
   rotate_left
   ·go_simp
    rfl
   refine hK.out _ _ ?_
   clear hK K
   refine done_ (by kernel_rfl) ?_

   have h10 := (H9.out.set1 (bad' := true)).below (below_drew (Below.refl _ _))
   have bk10 := blk_drew (blk_far (p := ⟨b, 1, none⟩) BK9.out (show w.heap.size ≠ b by omega) (.bool true))
   have gb10 := ((grown_of_below HBw9.out (some b)).trans (gb_set W3 b 1 (.bool true))).trans (grown_of_below (below_drew (Below.refl _ _)) (some b))
   generalize (W3.setCell ⟨b, 1, none⟩ (.bool true)).drew = W4 at h10 bk10 gb10 ⊢
   have H10 := Aside0.mk h10
   have BK10 := Aside0.mk bk10
   have GB10 := Aside0.mk gb10
   have k0 := h10.c0
   rw [HZ.out.1] at k0
   have j0 := blk_frozen h10 0
   have hx1' := HX.out.2
   have ne10 : b ≠ w.heap.size := by omega
   have ne11 : w.heap.size ≠ b := by omega
   have m0 := (blk_cell bk10 0).trans (rfl : _ = some (Value.int .i64 0))
   have m1 := (blk_cell bk10 1).trans (rfl : _ = some (Value.int .i64 0))
   have m2 := (blk_cell bk10 2).trans (rfl : _ = some (Value.string ⟨#[]⟩))
   have m3 := (blk_cell bk10 3).trans (rfl : _ = some (Value.slice none 0 0))
   have m4 := (blk_cell bk10 4).trans (rfl : _ = some (Value.slice none 0 0))
   have i0 := blk_frozen bk10 0
   have i1 := blk_frozen bk10 1
   have i2 := blk_frozen bk10 2
   have i3 := blk_frozen bk10 3
   have i4 := blk_frozen bk10 4
   clear h10 bk10 gb10 hHeld e0 e1 hbW3 H9 BK9 HBw9 HG9
   go_wp2
   refine bodyPost_ret (results_cell_row rfl _ _ w.heap.size 25 #[.int .i64 3, .int .i64 x, .string ⟨#[]⟩, .slice none 0 0, .slice none 0 0] (0, 0) _ rfl (fill5 (blk_far (p := ⟨b, 0, none⟩) BK10.out ne11 _)) Tryz.underlying25 rfl (by kernel_rfl)) rfl ?_
   refine ⟨⟨3, x, ⟨#[]⟩, [], []⟩, q, true, _, _, rfl, Kd.R_nil _ _ _ _ _, Kd.R_nil _ _ _ _ _, far5 (by rw [← HZ.out.2.2]; exact H10.out.set0) ne10, gb_new5 (GB10.out.trans (gb_set _ b 0 _)) (Nat.le_refl _), HL.out, ?_, ?_⟩
   ·intro y r e; rw [HN.out] at e; cases e
   ·intro e; rfl
  ·exact absurd trivial hT
end Go.Proofs.YtifejhbochkifaaGreatDoor.X
