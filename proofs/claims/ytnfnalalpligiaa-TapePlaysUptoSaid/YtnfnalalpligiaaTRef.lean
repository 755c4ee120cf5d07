/- The reference's tape: what each of its methods does, by the same state. -/
import Derived.Test.YtnfnalalpligiaaTTape
namespace Go.Proofs.Ytnfnalalpligiaa.X
open Go.RowKit Go.Proofs.YtnfnalalpligiaaW.PrintWords Go.Proofs.YtnfnalalpligiaaW.PrintLast Go.Proofs.YtnfnalalpligiaaW.PrintMore
set_option linter.unusedVariables false
set_option linter.unusedSimpArgs false

set_option maxHeartbeats 2000000 in
set_option maxRecDepth 100000 in
theorem rnew_calls (w : World) : Calls Try.prog 15 #[] w fun e w' => ∃ p, e = .returned (.pointer (some ⟨p, 0, none⟩)) ∧ w.heap.size ≤ p ∧ St 39 w' p none [] 0 (-1) false ∧ Below w.heap.size w w' := by
  go_enter Try.func15, Try.ntmps15
  go_wp2
  go_ret
  refine ⟨w.heap.size, rfl, Nat.le_refl _, ⟨by simp, _, heap_alloc_new w _, Rw.nil _⟩, below_alloc (Below.refl _ _) _⟩

set_option maxHeartbeats 2000000 in
set_option maxRecDepth 100000 in
theorem left_calls (p : Nat) (v : Value) (s f : Int) (d : Bool) (n : Int) (w : World) (hb : w.heap[p]? = some (.cells #[v, .int .i64 s, .int .i64 f, .bool d] 39 (0, 0))) :
    Calls Try.prog 23 #[.pointer (some ⟨p, 0, none⟩), .int .i64 n] w fun e w' => e = .returned (.int .i64 (tk f d n false)) ∧ w' = w := by
  have hc2 : w.cell? ⟨p, 2, none⟩ = some (.int .i64 f) := (blk_cell hb 2).trans rfl
  have hc3 : w.cell? ⟨p, 3, none⟩ = some (.bool d) := (blk_cell hb 3).trans rfl
  clear hb
  cases d with
  | true =>
    go_enter Try.func23, Try.ntmps23
    go_wp2
    go_ret
    exact ⟨by simp [tk], rfl⟩
  | false =>
    by_cases c1 : f < 0
    · have hq1 : decide (f < 0) = true := decide_eq_true c1
      have HC := Aside0.mk c1
      clear c1
      go_enter Try.func23, Try.ntmps23
      go_wp2
      go_ret
      have c1 := HC.out
      exact ⟨by simp [tk, c1], rfl⟩
    · have hq1 : decide (f < 0) = false := decide_eq_false c1
      have HC := Aside0.mk c1
      by_cases c2 : n ≤ f
      · have hq3 : decide (f ≥ n) = true := decide_eq_true c2
        have HC2 := Aside0.mk c2
        clear c1 c2
        go_enter Try.func23, Try.ntmps23
        go_wp2
        go_ret
        have c2 : n ≤ f := HC2.out
        exact ⟨by simp [tk, c2], rfl⟩
      · have hq3 : decide (f ≥ n) = false := decide_eq_false c2
        have HC2 := Aside0.mk c2
        clear c1 c2
        go_enter Try.func23, Try.ntmps23
        go_wp2
        go_ret
        have c1 : ¬ f < 0 := by have := HC.out; omega
        have c2 : ¬ n ≤ f := by have := HC2.out; omega
        exact ⟨by simp [tk, c1, c2], rfl⟩

set_option maxHeartbeats 2000000 in
set_option maxRecDepth 100000 in
theorem use_calls (p : Nat) (v : Value) (s f : Int) (d : Bool) (n m : Int) (w : World) (hb : w.heap[p]? = some (.cells #[v, .int .i64 s, .int .i64 f, .bool d] 39 (0, 0))) (hn0 : 0 ≤ n) (hf : f ≤ 9223372036854775807) (hm : m = tk f d n false) :
    Calls Try.prog 24 #[.pointer (some ⟨p, 0, none⟩), .int .i64 m, .int .i64 n] w fun e w' => e = .returned (.int .i64 (er f d n)) ∧
      w'.heap[p]? = some (.cells #[v, .int .i64 s, .int .i64 (fz f d n), .bool (dn f d n)] 39 (0, 0)) ∧ Tc (fun k => k = p) w w' := by
  have hc2 : w.cell? ⟨p, 2, none⟩ = some (.int .i64 f) := (blk_cell hb 2).trans rfl
  have hc3 : w.cell? ⟨p, 3, none⟩ = some (.bool d) := (blk_cell hb 3).trans rfl
  have hf2 := blk_frozen hb 2
  have hf3 := blk_frozen hb 3
  have HB := Aside0.mk hb
  have HM := Aside0.mk hm
  clear hb hm
  cases d with
  | true =>
    go_enter Try.func24, Try.ntmps24
    go_wp2
    go_ret
    exact ⟨by simp [er, okB], by simpa [fz, dn] using HB.out, Tc.refl _ _⟩
  | false =>
    by_cases c1 : f < 0
    · have e1 : m = n := by rw [HM.out]; simp [tk, c1]
      subst e1
      have hq1 : decide (m < m) = false := decide_eq_false (by omega)
      have hq2 : decide (f > 0) = false := decide_eq_false (by omega)
      have HC := Aside0.mk c1
      clear c1
      go_enter Try.func24, Try.ntmps24
      go_wp2
      go_ret
      have c1 := HC.out
      exact ⟨by simp [er, okB, c1], by simpa [fz, dn, c1] using HB.out, Tc.refl _ _⟩
    · by_cases c2 : n ≤ f
      · have e1 : m = n := by rw [HM.out]; simp [tk, c2]
        subst e1
        have hq1 : decide (m < m) = false := decide_eq_false (by omega)
        have hw1 : IntKind.i64.wrap (f - m) = f - m := IntWalk.i64_in _ (by omega)
        have HC := Aside0.mk c1
        have HC2 := Aside0.mk c2
        by_cases c3 : f > 0
        · have hq2 : decide (f > 0) = true := decide_eq_true c3
          clear c1 c2 c3
          go_enter Try.func24, Try.ntmps24
          go_wp2
          go_ret
          have c1 : ¬ f < 0 := by have := HC.out; omega
          have c2 : m ≤ f := HC2.out
          refine ⟨by simp [er, okB, c1, c2], ?_, Tc.set (S := fun k => k = p) (a := w) (b := w) (Tc.refl _ _) ⟨p, 2, none⟩ _ (fun _ => rfl)⟩
          have := blk_set HB.out 2 (.int .i64 (f - m))
          simpa [fz, dn, c1, c2] using this
        · have hq2 : decide (f > 0) = false := decide_eq_false c3
          have HC3 := Aside0.mk (show f = 0 ∧ m = 0 by omega)
          clear c1 c2 c3
          go_enter Try.func24, Try.ntmps24
          go_wp2
          go_ret
          obtain ⟨rfl, rfl⟩ := HC3.out
          exact ⟨by simp [er, okB], by simpa [fz, dn] using HB.out, Tc.refl _ _⟩
      · have e1 : m = f := by rw [HM.out]; simp [tk, c1, c2]
        subst e1
        have hq1 : decide (m < n) = true := decide_eq_true (by omega)
        have HC := Aside0.mk c1
        have HC2 := Aside0.mk c2
        clear c1 c2
        go_enter Try.func24, Try.ntmps24
        go_wp2
        go_ret
        have c1 : ¬ m < 0 := by have := HC.out; omega
        have c2 : ¬ n ≤ m := by have := HC2.out; omega
        refine ⟨by simp [er, okB, c1, c2], ?_, Tc.set (S := fun k => k = p) (a := w) (Tc.set (S := fun k => k = p) (a := w) (b := w) (Tc.refl _ _) ⟨p, 3, none⟩ _ (fun _ => rfl)) ⟨p, 2, none⟩ _ (fun _ => rfl)⟩
        have := blk_set (blk_set HB.out 3 (.bool true)) 2 (.int .i64 0)
        simpa [fz, dn, c1, c2] using this

set_option maxHeartbeats 2000000 in
set_option maxRecDepth 100000 in
theorem rsync_calls (p : Nat) (g : Option Nat) (zs : List Int) (s f : Int) (d : Bool) (w : World) (h : St 39 w p g zs s f d) (hf : f ≤ 9223372036854775807) :
    Calls Try.prog 17 #[.pointer (some ⟨p, 0, none⟩)] w fun e w' => e = .returned (.int .i64 (er f d 1)) ∧ St 39 w' p g zs (sy f d 1 zs.length s) (fz f d 1) (dn f d 1) ∧ Tc (fun k => k = p) w w' := by
  obtain ⟨ao, cap, hb, hr, hl, hn⟩ := h.zs
  have HC := Aside0.mk (left_calls p _ s f d 1 w hb)
  have HD := Aside0.mk (use_calls p _ s f d 1 _ w hb (by omega) hf rfl)
  have HR := Aside0.mk hr
  have HN := Aside0.mk hn
  have HL := Aside0.mk (blk_lt hb)
  clear h hb hr hn
  go_enter Try.func17, Try.ntmps17
  go_wp2_with fail
  refine HC.out.mono ?_
  rintro e w2 ⟨rfl, rfl⟩
  go_wp2_with fail
  refine HD.out.mono ?_
  rintro e w3 ⟨rfl, h1, h2⟩
  have hc0 : w3.cell? ⟨p, 0, none⟩ = some (.slice ao zs.length cap) := (blk_cell h1 0).trans rfl
  have hc1 : w3.cell? ⟨p, 1, none⟩ = some (.int .i64 s) := (blk_cell h1 1).trans rfl
  have hf1 := blk_frozen h1 1
  have H1 := Aside0.mk h1
  have H2 := Aside0.mk h2
  clear h1 h2
  have HS := Aside0.mk (show ∀ x : Int, St 39 (w3.setCell ⟨p, 1, none⟩ (.int .i64 x)) p g zs x (fz f d 1) (dn f d 1) ∧ Tc (fun k => k = p) w2 (w3.setCell ⟨p, 1, none⟩ (.int .i64 x)) from fun x => by
    have hT := Tc.set (S := fun k => k = p) (a := w2) H2.out ⟨p, 1, none⟩ (.int .i64 x) (fun _ => rfl)
    refine ⟨⟨HN.out, _, ?_, HR.out.off hT HN.out⟩, hT⟩
    simpa using blk_set H1.out 1 (.int .i64 x))
  have HU := Aside0.mk (show St 39 w3 p g zs s (fz f d 1) (dn f d 1) from ⟨HN.out, _, H1.out, HR.out.off H2.out HN.out⟩)
  obtain ⟨k, hk⟩ : ∃ k, okB f d 1 = k := ⟨_, rfl⟩
  have HK := Aside0.mk hk
  have her : er f d 1 = if k then 0 else 8 := by rw [← hk]; rfl
  rw [her]
  clear hk her
  cases k with
  | true =>
    go_wp2
    go_ret
    exact ⟨by simp [er, HK.out], by simpa [sy, HK.out] using (HS.out _).1, (HS.out _).2⟩
  | false =>
    go_wp2
    go_ret
    exact ⟨by simp [er, HK.out], by simpa [sy, HK.out] using HU.out, H2.out⟩

/-- the fresh slice that an append begins from, and what is appended, in whatever world behind -/
theorem emp (w : World) : Rw (w.alloc (.cells #[] 5)) (.slice (some ⟨w.heap.size, 0, none⟩) 0 0) (some w.heap.size) [] := Rw.empty (by simp)

set_option maxHeartbeats 2000000 in
set_option maxRecDepth 100000 in
theorem rswap_calls (p gb : Nat) (g : Option Nat) (zs bs : List Int) (s f : Int) (d : Bool) (v : Value) (w : World) (h : St 39 w p g zs s f d) (hb : Ar w v gb bs) (hgb : gb ≠ p) (hf : f ≤ 9223372036854775807) (hz : bs.length ≤ 140737488355328) :
    Calls Try.prog 19 #[.pointer (some ⟨p, 0, none⟩), v] w fun e w' => e = .returned (.int .i64 (er f d (bs.length + 1))) ∧ ∃ g', St 39 w' p g' (sw zs bs f d (bs.length + 1)) (sy f d (bs.length + 1) bs.length s) (fz f d (bs.length + 1)) (dn f d (bs.length + 1)) ∧ Tc (fun k => k = p ∨ some k = g) w w' ∧ (g' = g ∨ ∀ b, g' = some b → w.heap.size ≤ b) := by
  obtain ⟨i0, hi, hz0, hz1, hz2⟩ := info_parts i5
  obtain ⟨ao, cap, hp, hr, hl, hn⟩ := h.zs
  have hw1 : wrap64 ((bs.length : Int) + 1) = (bs.length : Int) + 1 := by unfold wrap64; omega
  have HC := Aside0.mk (left_calls p _ s f d (bs.length + 1) w hp)
  have HD := Aside0.mk (use_calls p _ s f d (bs.length + 1) _ w hp (by omega) hf rfl)
  have HR := Aside0.mk hr
  have HN := Aside0.mk hn
  have HL := Aside0.mk (blk_lt hp)
  have HA := Aside0.mk hb
  have HGB := Aside0.mk hgb
  have HZ := Aside0.mk hz
  obtain ⟨ab, offb, capb, rfl, hb1, hb2, hb3, hb4⟩ := hb.shape
  clear h hp hr hn hb hgb hz hb1 hb2 hb3 hb4 hf
  go_enter Try.func19, Try.ntmps19
  go_wp2_with fail
  refine HC.out.mono ?_
  rintro e w1 ⟨rfl, rfl⟩
  go_wp2_with fail
  refine HD.out.mono ?_
  rintro e w2 ⟨rfl, h1, h2⟩
  have H1 := Aside0.mk h1
  have H2 := Aside0.mk h2
  clear h1 h2
  have HU := Aside0.mk (show St 39 w2 p g zs s (fz f d (bs.length + 1)) (dn f d (bs.length + 1)) from ⟨HN.out, _, H1.out, HR.out.off H2.out HN.out⟩)
  obtain ⟨k, hk⟩ : ∃ k, okB f d (bs.length + 1) = k := ⟨_, rfl⟩
  have HK := Aside0.mk hk
  have her : er f d (bs.length + 1) = if k then 0 else 8 := by rw [← hk]; rfl
  rw [her]
  clear hk her
  cases k with
  | false =>
    go_wp2
    go_ret
    exact ⟨by simp [er, HK.out], g, by simpa [sy, sw, HK.out] using HU.out, H2.out.then (S' := fun k => k = p) (Tc.refl _ _) (fun _ _ e => .inl e) (fun _ _ e => .inl e), .inl rfl⟩
  | true =>
    have HA2 := Aside0.mk (HA.out.tc H2.out (fun _ e => HGB.out e))
    have HAs := Aside0.mk (HA2.out.keep (w' := w2.alloc (.cells #[] 5)) (by simp) (fun hg => Below.heap_alloc _ _ _ hg)).src
    have HWs := Aside0.mk (emp w2)
    go_wp2_with (at_builtin; refine wpList_append_rw _ rfl (.tmp 20) (.tmp 21) 22 22 rfl 5 i0 (.int .u8 0) Try.underlying22 hi hz0 hz1 hz2 rfl _ (some w2.heap.size) [] rfl HWs.out _ bs.length (nums .u8 bs) rfl HAs.out (by have := HZ.out; simpa using this) ?_)
    intro v' w3 g' h3 h4 h5
    have HB5 := Aside0.mk ((below_alloc (Below.refl _ w2) _).grown h4 (by simp) (fun k hk => by cases hk; exact Nat.le_refl _))
    have hge : ∀ b, g' = some b → w2.heap.size ≤ b := by
      rcases h5 with rfl | rfl <;> (intro b e; cases e; simp)
    have hb3 := blk_below H1.out HB5.out
    have hc0' : w3.cell? ⟨p, 0, none⟩ = some (.slice ao zs.length cap) := (blk_cell hb3 0).trans rfl
    have hc1' : w3.cell? ⟨p, 1, none⟩ = some (.int .i64 s) := (blk_cell hb3 1).trans rfl
    have hf0' := blk_frozen hb3 0
    have hf1' := blk_frozen hb3 1
    have HB3 := Aside0.mk hb3
    have H3 := Aside0.mk h3
    have H4 := Aside0.mk hge
    clear hb3 h4 h5 hge
    obtain ⟨ao', cap', rfl, hl', hm', ha'⟩ := h3.len
    clear h3 hl' hm' ha'
    have hpg : some p ≠ g' := by
      intro e
      have h1 := blk_lt H1.out
      have h2 := H4.out p e.symm
      omega
    have hfin := Aside0.mk (show ∀ w4, w4 = (w3.setCell ⟨p, 0, none⟩ (.slice ao' ([] ++ nums .u8 bs).length cap')).setCell ⟨p, 1, none⟩ (.int .i64 bs.length) → St 39 w4 p g' bs bs.length (fz f d (bs.length + 1)) (dn f d (bs.length + 1)) ∧ Tc (fun k => k = p ∨ some k = g) w1 w4 ∧ (g' = g ∨ ∀ b, g' = some b → w1.heap.size ≤ b) from fun w4 hw4 => by
      subst hw4
      have hT1 : Tc (fun k => k = p ∨ some k = g) w1 w3 := H2.out.then (S' := fun k => False) (Tc.ofBelow HB5.out) (fun _ _ e => .inl e) (fun _ _ e => e.elim)
      have hT3 := (hT1.set ⟨p, 0, none⟩ (.slice ao' ([] ++ nums .u8 bs).length cap') (fun _ => .inl rfl)).set ⟨p, 1, none⟩ (.int .i64 bs.length) (fun _ => .inl rfl)
      refine ⟨⟨hpg, .slice ao' ([] ++ nums .u8 bs).length cap', ?_, ?_⟩, hT3, .inr (fun b e => Nat.le_trans H2.out.size (H4.out b e))⟩
      · have := blk_set (blk_set HB3.out 0 (.slice ao' ([] ++ nums .u8 bs).length cap')) 1 (.int .i64 bs.length)
        simpa using this
      · refine Rw.keep (w := w3) H3.out (by simp [World.setCell]) (fun b e _ => ?_)
        have hne : b ≠ p := fun h => hpg (by rw [e, h])
        exact (Below.heap_setCell _ ⟨p, 1, none⟩ _ b hne).trans (Below.heap_setCell w3 ⟨p, 0, none⟩ _ b hne))
    simp only [List.nil_append] at hfin
    clear hpg
    go_wp2
    go_ret
    exact ⟨by simp [er, HK.out], g', by simpa [sw, sy, HK.out] using hfin.out _ rfl⟩

theorem first_below {w1 w3 : World} (r2 : (w1.alloc (.cells #[] 5)).drew.grownBy w3 (some w1.heap.size)) : Below w1.heap.size w1 w3 :=
  (below_alloc (Below.refl _ w1) (.cells #[] 5)).grown (w := w1.alloc (.cells #[] 5)) (row := some w1.heap.size) ⟨r2.os, r2.tape, r2.output, r2.size, r2.block⟩ (by simp) (fun k hk => by cases hk; exact Nat.le_refl _)
theorem first_ge {w1 : World} {g3 : Option Nat} (r3 : g3 = some w1.heap.size ∨ g3 = some (w1.alloc (.cells #[] 5)).drew.heap.size) : ∀ b, g3 = some b → w1.heap.size ≤ b := by
  intro b e
  rcases r3 with rfl | rfl
  · cases e; exact Nat.le_refl _
  · cases e
    show w1.heap.size ≤ (w1.alloc (.cells #[] 5)).heap.size
    simp
theorem next_ge {w1 w3 : World} {g3 g4 : Option Nat} (h : ∀ b, g3 = some b → w1.heap.size ≤ b) (hs : w1.heap.size ≤ w3.heap.size) (r3 : g4 = g3 ∨ g4 = some w3.heap.size) : ∀ b, g4 = some b → w1.heap.size ≤ b := by
  rcases r3 with rfl | rfl
  · exact h
  · intro b e; cases e; exact hs

set_option maxHeartbeats 2000000 in
set_option maxRecDepth 100000 in
theorem rwrite_calls (p gb : Nat) (g : Option Nat) (zs bs : List Int) (s f : Int) (d : Bool) (v : Value) (w : World) (h : St 39 w p g zs s f d) (hb : Ar w v gb bs) (hgb : gb ≠ p) (hf : f ≤ 9223372036854775807) (hz : zs.length + bs.length ≤ 140737488355328) :
    Calls Try.prog 16 #[.pointer (some ⟨p, 0, none⟩), v] w fun e w' => e = .returned (.int .i64 (er f d bs.length)) ∧ ∃ g', St 39 w' p g' (wr zs bs f d) s (fz f d bs.length) (dn f d bs.length) ∧ Tc (fun k => k = p ∨ some k = g) w w' ∧ (g' = g ∨ ∀ b, g' = some b → w.heap.size ≤ b) := by
  obtain ⟨i0, hi, hz0, hz1, hz2⟩ := info_parts i5
  obtain ⟨ao, cap, hp, hr, hl, hn⟩ := h.zs
  have HT := Aside0.mk (tk_range f d bs.length false (by omega))
  have HC := Aside0.mk (left_calls p (.slice ao zs.length cap) s f d bs.length w hp)
  have HDD := Aside0.mk (fun (w2 : World) (v : Value) h => use_calls p v s f d bs.length _ w2 h (by omega) hf rfl)
  obtain ⟨n, hn'⟩ : ∃ n, tk f d bs.length false = n := ⟨_, rfl⟩
  rw [hn'] at HC HT HDD
  have HNN := Aside0.mk hn'
  have HR := Aside0.mk hr
  have HN := Aside0.mk hn
  have HL := Aside0.mk (blk_lt hp)
  have HP := Aside0.mk hp
  have HA := Aside0.mk hb
  have HGB := Aside0.mk hgb
  have HZ := Aside0.mk hz
  obtain ⟨ab, offb, capb, rfl, hb1, hb2, hb3, hb4⟩ := hb.shape
  have hcut := cut_to (P := Try.prog) 22 5 .i64 Try.underlying22 hi ab bs.length capb n HT.out.1 HT.out.2 hb1
  have hc0 : w.cell? ⟨p, 0, none⟩ = some (.slice ao zs.length cap) := (blk_cell hp 0).trans rfl
  have hf0 := blk_frozen hp 0
  have hc0a : (w.alloc (.cells #[] 5)).cell? ⟨p, 0, none⟩ = some (.slice ao zs.length cap) := (blk_cell (blk_alloc hp _) 0).trans rfl
  have HA2 := Aside0.mk (HA.out.take n.toNat (by have := HT.out; omega))
  have hlt : (bs.take n.toNat).length = n.toNat := by rw [List.length_take]; have := HT.out; omega
  have HLT := Aside0.mk hlt
  have HSB := Aside0.mk (show (nums .u8 zs).length + (bs.take n.toNat).length ≤ 140737488355328 by rw [nums_len, List.length_take]; have := HZ.out; omega)
  have HSB0 := Aside0.mk (show ([] : List Value).length + zs.length ≤ 140737488355328 by have := HZ.out; simp; omega)
  clear h hp hr hn hb hgb hz hb1 hb2 hb3 hb4 hn' hf hlt
  go_enter Try.func16, Try.ntmps16
  go_wp2_with fail
  refine HC.out.mono ?_
  rintro e w1 ⟨rfl, rfl⟩
  go_wp2_with fail
  go_region_law (first
    | (refine step_append_rw rfl (.tmp 11) (.tmp 15) 22 22 rfl 5 i0 (.int .u8 0) Try.underlying22 hi hz0 hz1 hz2 rfl (.slice (some ⟨w1.heap.size, 0, none⟩) 0 0) (some w1.heap.size) [] (by simp [Act.eval, Act.put]) (Rw.keep (emp w1) (Nat.le_refl _) (fun _ _ _ => rfl)) (.slice ao zs.length cap) _ (nums .u8 zs) (by simp [Act.eval, Act.put]) (Ar.src (Ar.keep HR.out.ar (by simp) (fun hg => Below.heap_alloc _ _ _ hg))) HSB0.out ?_; intro v3 w3 g3 r1 r2 r3; have Q1 := Aside0.mk r1; have HBL := Aside0.mk (first_below r2); have Q3 := Aside0.mk (first_ge r3); clear r1 r2 r3)
    | (refine step_append_rw rfl (.tmp 16) (.tmp 19) 22 22 rfl 5 i0 (.int .u8 0) Try.underlying22 hi hz0 hz1 hz2 rfl v3 g3 (nums .u8 zs) (by simp [Act.eval, Act.put]) Q1.out (.slice ab n.toNat capb) _ (nums .u8 (bs.take n.toNat)) (by simp [Act.eval, Act.put]) (Ar.src (HA2.out.keep HBL.out.size (fun hg => HBL.out.block _ hg))) HSB.out ?_; intro v4 w4 g4 r1 r2 r3; have R1 := Aside0.mk r1; have HBM := Aside0.mk (HBL.out.grown r2 HBL.out.size (fun k hk => Q3.out k hk)); have R3 := Aside0.mk (next_ge Q3.out HBL.out.size r3); clear r2 r3; obtain ⟨a4, c4, rfl, hl', hm', ha'⟩ := r1.len; clear r1 hl' hm' ha'; have hb4 := Aside0.mk (blk_below HP.out HBM.out); have hc4 : w4.cell? ⟨p, 0, none⟩ = some (.slice ao zs.length cap) := (blk_cell hb4.out 0).trans rfl; have hf4 := blk_frozen hb4.out 0))
  all_goals
    have hpg : some p ≠ g4 := by
      intro e
      have h1 := HL.out
      have h2 := R3.out p e.symm
      omega
    have hl5 : (nums .u8 zs).length + (nums .u8 (bs.take n.toNat)).length = (nums .u8 zs ++ nums .u8 (bs.take n.toNat)).length := by rw [List.length_append]
    obtain ⟨v5, hv5⟩ : ∃ v5, v5 = Value.slice a4 ((nums .u8 zs).length + (nums .u8 (bs.take n.toNat)).length) c4 := ⟨_, rfl⟩
    obtain ⟨w5, hw5⟩ : ∃ w5, w5 = w4.setCell ⟨p, 0, none⟩ v5 := ⟨_, rfl⟩
    have hB5 : w5.heap[p]? = some (.cells #[v5, .int .i64 s, .int .i64 f, .bool d] 39 (0, 0)) := by
      rw [hw5]
      have := blk_set hb4.out 0 v5
      simpa using this
    have hT5 : Tc (fun k => k = p) w1 w5 := by
      rw [hw5]
      exact Tc.set (S := fun k => k = p) (Tc.ofBelow HBM.out) ⟨p, 0, none⟩ v5 (fun _ => rfl)
    have hR5 : Rw w5 v5 g4 (nums .u8 (wr zs bs f d)) := by
      have e1 : nums .u8 (wr zs bs f d) = nums .u8 zs ++ nums .u8 (bs.take n.toNat) := by simp [wr, nums, HNN.out]
      rw [e1, hv5, hl5, hw5]
      exact R1.out.keep (by simp [World.setCell]) (fun b e _ => Below.heap_setCell w4 ⟨p, 0, none⟩ _ b (fun h => hpg (by rw [e, h])))
    rw [← hv5, ← hw5]
    have HD := Aside0.mk (HDD.out w5 v5 hB5)
    have T5 := Aside0.mk hT5
    have R5 := Aside0.mk hR5
    have HPG := Aside0.mk hpg
    clear hpg hl5 hv5 hw5 hB5 hT5 hR5 hc4 hf4 hc0 hf0 hc0a
    go_wp2_with fail
    refine HD.out.mono ?_
    rintro e w6 ⟨rfl, h1, h2⟩
    have H1 := Aside0.mk h1
    have H2 := Aside0.mk h2
    clear h1 h2
    go_wp2
    go_ret
    exact ⟨rfl, g4, ⟨HPG.out, v5, H1.out, R5.out.off H2.out HPG.out⟩, T5.out.then H2.out (fun _ _ e => .inl e) (fun _ _ e => .inl e), .inr R3.out⟩

set_option maxHeartbeats 4000000 in
set_option maxRecDepth 100000 in
theorem rcrash_calls (p : Nat) (g : Option Nat) (zs : List Int) (s f : Int) (d : Bool) (n : Int) (w : World) (h : St 39 w p g zs s f d) (hs0 : 0 ≤ s) (hs1 : s ≤ zs.length) (hz : zs.length ≤ 140737488355328) (hn : n ≤ 9223372036854775807) :
    Calls Try.prog 20 #[.pointer (some ⟨p, 0, none⟩), .int .i64 n] w fun e w' => e = .returned (.tuple #[]) ∧ ∃ g', St 39 w' p g' (zs.take (s + min (max n 0) (zs.length - s)).toNat) (s + min (max n 0) (zs.length - s)) (-1) false ∧ Tc (fun k => k = p) w w' ∧ (∀ b, g' = some b → w.heap.size ≤ b) := by
  obtain ⟨i0, hi, hz0, hz1, hz2⟩ := info_parts i5
  obtain ⟨ao, cap, hp, hr, hl, hpg⟩ := h.zs
  have hc0 : w.cell? ⟨p, 0, none⟩ = some (.slice ao zs.length cap) := (blk_cell hp 0).trans rfl
  have hc1 : w.cell? ⟨p, 1, none⟩ = some (.int .i64 s) := (blk_cell hp 1).trans rfl
  have hc0a : (w.alloc (.cells #[] 5)).cell? ⟨p, 0, none⟩ = some (.slice ao zs.length cap) := (blk_cell (blk_alloc hp _) 0).trans rfl
  have hc1a : (w.alloc (.cells #[] 5)).cell? ⟨p, 1, none⟩ = some (.int .i64 s) := (blk_cell (blk_alloc hp _) 1).trans rfl
  have HP := Aside0.mk hp
  have HR := Aside0.mk hr
  have HN := Aside0.mk hpg
  have HL := Aside0.mk (blk_lt hp)
  obtain ⟨M, hM⟩ : ∃ M, min (max n 0) ((zs.length : Int) - s) = M := ⟨_, rfl⟩
  have hM1 : 0 ≤ M ∧ M ≤ (zs.length : Int) - s := by omega
  obtain ⟨J, hJ⟩ : ∃ J, s + M = J := ⟨_, rfl⟩
  have HJ1 := Aside0.mk (show 0 ≤ J ∧ J ≤ zs.length by omega)
  have hw1 : IntKind.i64.wrap ((zs.length : Int) - s) = (zs.length : Int) - s := IntWalk.i64_in _ (by omega)
  have hw2 : IntKind.i64.wrap (s + M) = J := by rw [hJ]; exact IntWalk.i64_in _ (by omega)
  have hcut := cut_to (P := Try.prog) 22 5 .i64 Try.underlying22 hi ao zs.length cap J HJ1.out.1 HJ1.out.2 hl
  have HAt := Aside0.mk (hr.ar.take J.toNat (by have := HJ1.out; omega))
  have HLT := Aside0.mk (show (zs.take J.toNat).length = J.toNat by rw [List.length_take]; have := HJ1.out; omega)
  have HSB := Aside0.mk (show ([] : List Value).length + (zs.take J.toNat).length ≤ 140737488355328 by rw [HLT.out]; have := HJ1.out; simp; omega)
  have HWM := Aside0.mk (show IntKind.i64.wrap M = M from IntWalk.i64_in _ (by omega))
  rw [hM, hJ]
  -- from the place where keep stands at M on
  have main : ∀ (k1 k2 : Bool), decide (n < 0) = k1 → decide ((if k1 then 0 else n) > (zs.length : Int) - s) = k2 → (if k2 then (zs.length : Int) - s else if k1 then 0 else n) = M := by
    intro k1 k2 h1 h2
    subst h1
    simp only [decide_eq_true_eq] at h2 ⊢
    subst h2
    simp only [decide_eq_true_eq]
    split <;> split <;> omega
  obtain ⟨k1, hk1⟩ : ∃ k1, decide (n < 0) = k1 := ⟨_, rfl⟩
  obtain ⟨k2, hk2⟩ : ∃ k2, decide ((if k1 then 0 else n) > (zs.length : Int) - s) = k2 := ⟨_, rfl⟩
  have hm := main k1 k2 hk1 hk2
  clear main hM hJ hM1 h hp hr hpg
  have fin : ∀ (w4 w5 : World) (g4 : Option Nat) (a4 : Option Addr) (c4 : Nat) (m4 : Nat), w4.heap[p]? = some (.cells #[.slice ao zs.length cap, .int .i64 s, .int .i64 f, .bool d] 39 (0, 0)) → Below w.heap.size w w4 → m4 = J.toNat → Rw w4 (.slice a4 m4 c4) g4 (nums .u8 (zs.take J.toNat)) → (∀ b, g4 = some b → w.heap.size ≤ b) →
      w5 = (((w4.setCell ⟨p, 0, none⟩ (.slice a4 m4 c4)).setCell ⟨p, 1, none⟩ (.int .i64 m4)).setCell ⟨p, 2, none⟩ (.int .i64 (-1))).setCell ⟨p, 3, none⟩ (.bool false) →
      ∃ g', St 39 w5 p g' (zs.take J.toNat) J (-1) false ∧ Tc (fun k => k = p) w w5 ∧ (∀ b, g' = some b → w.heap.size ≤ b) := by
    intro w4 w5 g4 a4 c4 m4 h1 h2 h3 h4 h5 h6
    subst h6
    have hJ0 : ((m4 : Nat) : Int) = J := by rw [h3]; exact Int.toNat_of_nonneg HJ1.out.1
    have hpg : some p ≠ g4 := by
      intro e
      have h1 := HL.out
      have h2 := h5 p e.symm
      omega
    have hT := Tc.set (S := fun k => k = p) (Tc.set (S := fun k => k = p) (Tc.set (S := fun k => k = p) (Tc.set (S := fun k => k = p) (Tc.refl _ w4) ⟨p, 0, none⟩ (.slice a4 m4 c4) (fun _ => rfl)) ⟨p, 1, none⟩ (.int .i64 m4) (fun _ => rfl)) ⟨p, 2, none⟩ (.int .i64 (-1)) (fun _ => rfl)) ⟨p, 3, none⟩ (.bool false) (fun _ => rfl)
    refine ⟨g4, ⟨hpg, .slice a4 m4 c4, ?_, h4.off hT hpg⟩, (Tc.ofBelow (S := fun k => k = p) h2).then hT (fun _ _ e => e) (fun _ _ e => e), h5⟩
    have := blk_set (blk_set (blk_set (blk_set h1 0 (.slice a4 m4 c4)) 1 (.int .i64 m4)) 2 (.int .i64 (-1))) 3 (.bool false)
    rw [hJ0] at this
    rw [hJ0]
    simpa using this
  have FIN := Aside0.mk fin
  clear fin
  have hwM : IntKind.i64.wrap M = M := HWM.out
  cases k1 with
  | true =>
    simp only [if_true] at hk2 hm
    cases k2 with
    | true =>
      exfalso
      have := of_decide_eq_true hk2
      omega
    | false =>
      simp only [Bool.false_eq_true, if_false] at hm
      subst hm
      have hk3 : decide ((zs.length : Int) < s) = false := decide_eq_false (by omega)
      have hw3 : IntKind.i64.wrap s = J := by simpa using hw2
      go_enter Try.func20, Try.ntmps20
      go_wp2_with fail
      go_still (by kernel_rfl)
      go_wp2_with fail
      go_region_law (refine step_append_rw rfl (.tmp 29) (.tmp 40) 22 22 rfl 5 i0 (.int .u8 0) Try.underlying22 hi hz0 hz1 hz2 rfl (.slice (some ⟨w.heap.size, 0, none⟩) 0 0) (some w.heap.size) [] (by simp [Act.eval, Act.put]) (Rw.keep (emp w) (Nat.le_refl _) (fun _ _ _ => rfl)) (.slice ao J.toNat cap) _ (nums .u8 (zs.take J.toNat)) (by simp [Act.eval, Act.put]) (Ar.src (Ar.keep HAt.out (by simp) (fun hg => Below.heap_alloc _ _ _ hg))) HSB.out ?_; intro v3 w3 g3 r1 r2 r3; have HBL := Aside0.mk (first_below (w1 := w) ⟨r2.os, r2.tape, r2.output, r2.size, r2.block⟩); have Q3 := Aside0.mk (first_ge (w1 := w) r3); have Q1 := Aside0.mk r1; clear r2 r3; obtain ⟨a4, c4, rfl, hl', hm', ha'⟩ := r1.len; clear r1 hl' hm' ha'; have hb4 := Aside0.mk (blk_below HP.out HBL.out); have hc4 : w3.cell? ⟨p, 0, none⟩ = some (.slice ao zs.length cap) := (blk_cell hb4.out 0).trans rfl; have hf40 := blk_frozen hb4.out 0; have hc41 : w3.cell? ⟨p, 1, none⟩ = some (.int .i64 s) := (blk_cell hb4.out 1).trans rfl; have hf41 := blk_frozen hb4.out 1; have hc42 : w3.cell? ⟨p, 2, none⟩ = some (.int .i64 f) := (blk_cell hb4.out 2).trans rfl; have hf42 := blk_frozen hb4.out 2; have hc43 : w3.cell? ⟨p, 3, none⟩ = some (.bool d) := (blk_cell hb4.out 3).trans rfl; have hf43 := blk_frozen hb4.out 3)
      all_goals
        obtain ⟨m4, hm4⟩ : ∃ m4, (nums .u8 (zs.take J.toNat)).length = m4 := ⟨_, rfl⟩
        have HM4 := Aside0.mk (show m4 = J.toNat by rw [← hm4, nums_len, HLT.out])
        have Q2 := Q1.out
        simp only [List.nil_append] at Q2
        rw [hm4] at Q2 ⊢
        have Q4 := Aside0.mk Q2
        clear Q1 Q2 hm4
        go_wp2
        go_end0
        exact ⟨rfl, FIN.out w3 _ g3 a4 c4 m4 hb4.out HBL.out HM4.out Q4.out Q3.out rfl⟩
  | false =>
    simp only [Bool.false_eq_true, if_false] at hk2 hm
    cases k2 with
    | true =>
      simp only [if_true] at hm
      rw [hm] at hk2
      go_enter Try.func20, Try.ntmps20
      go_wp2_with fail
      go_still (by kernel_rfl)
      go_wp2_with fail
      refine wp_region_still_lit (by kernel_rfl) (by kernel_rfl) ?_
      show wpStill Try.prog _ (World.drew (World.drew w)) _ _ _
      repeat still_step
      refine wpStill_nil ?_
      go_wp2_with fail
      show Code.wp Try.prog _ _ _ (World.drew (World.drew w))
      go_region_law (refine step_append_rw rfl (.tmp 29) (.tmp 40) 22 22 rfl 5 i0 (.int .u8 0) Try.underlying22 hi hz0 hz1 hz2 rfl (.slice (some ⟨w.heap.size, 0, none⟩) 0 0) (some w.heap.size) [] (by simp [Act.eval, Act.put]) (Rw.keep (emp w) (Nat.le_refl _) (fun _ _ _ => rfl)) (.slice ao J.toNat cap) _ (nums .u8 (zs.take J.toNat)) (by simp [Act.eval, Act.put]) (Ar.src (Ar.keep HAt.out (by simp) (fun hg => Below.heap_alloc _ _ _ hg))) HSB.out ?_; intro v3 w3 g3 r1 r2 r3; have HBL := Aside0.mk (first_below (w1 := w) ⟨r2.os, r2.tape, r2.output, r2.size, r2.block⟩); have Q3 := Aside0.mk (first_ge (w1 := w) r3); have Q1 := Aside0.mk r1; clear r2 r3; obtain ⟨a4, c4, rfl, hl', hm', ha'⟩ := r1.len; clear r1 hl' hm' ha'; have hb4 := Aside0.mk (blk_below HP.out HBL.out); have hc4 : w3.cell? ⟨p, 0, none⟩ = some (.slice ao zs.length cap) := (blk_cell hb4.out 0).trans rfl; have hf40 := blk_frozen hb4.out 0; have hc41 : w3.cell? ⟨p, 1, none⟩ = some (.int .i64 s) := (blk_cell hb4.out 1).trans rfl; have hf41 := blk_frozen hb4.out 1; have hc42 : w3.cell? ⟨p, 2, none⟩ = some (.int .i64 f) := (blk_cell hb4.out 2).trans rfl; have hf42 := blk_frozen hb4.out 2; have hc43 : w3.cell? ⟨p, 3, none⟩ = some (.bool d) := (blk_cell hb4.out 3).trans rfl; have hf43 := blk_frozen hb4.out 3)
      all_goals
        obtain ⟨m4, hm4⟩ : ∃ m4, (nums .u8 (zs.take J.toNat)).length = m4 := ⟨_, rfl⟩
        have HM4 := Aside0.mk (show m4 = J.toNat by rw [← hm4, nums_len, HLT.out])
        have Q2 := Q1.out
        simp only [List.nil_append] at Q2
        rw [hm4] at Q2 ⊢
        have Q4 := Aside0.mk Q2
        clear Q1 Q2 hm4
        go_wp2
        go_end0
        exact ⟨rfl, FIN.out w3 _ g3 a4 c4 m4 hb4.out HBL.out HM4.out Q4.out Q3.out rfl⟩
    | false =>
      simp only [Bool.false_eq_true, if_false] at hm
      subst hm
      go_enter Try.func20, Try.ntmps20
      go_wp2_with fail
      go_still (by kernel_rfl)
      go_wp2_with fail
      go_region_law (refine step_append_rw rfl (.tmp 29) (.tmp 40) 22 22 rfl 5 i0 (.int .u8 0) Try.underlying22 hi hz0 hz1 hz2 rfl (.slice (some ⟨w.heap.size, 0, none⟩) 0 0) (some w.heap.size) [] (by simp [Act.eval, Act.put]) (Rw.keep (emp w) (Nat.le_refl _) (fun _ _ _ => rfl)) (.slice ao J.toNat cap) _ (nums .u8 (zs.take J.toNat)) (by simp [Act.eval, Act.put]) (Ar.src (Ar.keep HAt.out (by simp) (fun hg => Below.heap_alloc _ _ _ hg))) HSB.out ?_; intro v3 w3 g3 r1 r2 r3; have HBL := Aside0.mk (first_below (w1 := w) ⟨r2.os, r2.tape, r2.output, r2.size, r2.block⟩); have Q3 := Aside0.mk (first_ge (w1 := w) r3); have Q1 := Aside0.mk r1; clear r2 r3; obtain ⟨a4, c4, rfl, hl', hm', ha'⟩ := r1.len; clear r1 hl' hm' ha'; have hb4 := Aside0.mk (blk_below HP.out HBL.out); have hc4 : w3.cell? ⟨p, 0, none⟩ = some (.slice ao zs.length cap) := (blk_cell hb4.out 0).trans rfl; have hf40 := blk_frozen hb4.out 0; have hc41 : w3.cell? ⟨p, 1, none⟩ = some (.int .i64 s) := (blk_cell hb4.out 1).trans rfl; have hf41 := blk_frozen hb4.out 1; have hc42 : w3.cell? ⟨p, 2, none⟩ = some (.int .i64 f) := (blk_cell hb4.out 2).trans rfl; have hf42 := blk_frozen hb4.out 2; have hc43 : w3.cell? ⟨p, 3, none⟩ = some (.bool d) := (blk_cell hb4.out 3).trans rfl; have hf43 := blk_frozen hb4.out 3)
      all_goals
        obtain ⟨m4, hm4⟩ : ∃ m4, (nums .u8 (zs.take J.toNat)).length = m4 := ⟨_, rfl⟩
        have HM4 := Aside0.mk (show m4 = J.toNat by rw [← hm4, nums_len, HLT.out])
        have Q2 := Q1.out
        simp only [List.nil_append] at Q2
        rw [hm4] at Q2 ⊢
        have Q4 := Aside0.mk Q2
        clear Q1 Q2 hm4
        go_wp2
        go_end0
        exact ⟨rfl, FIN.out w3 _ g3 a4 c4 m4 hb4.out HBL.out HM4.out Q4.out Q3.out rfl⟩
end Go.Proofs.Ytnfnalalpligiaa.X
