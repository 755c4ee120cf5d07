/- json's reader.row (O): values with commas between. -/
import Derived.Test.YtifejhbochkifaaGreatDoorHNum
import Derived.Test.YtifejhbochkifaaGreatDoorHWords
namespace Go.Proofs.YtifejhbochkifaaGreatDoor.X
open Go.RowKit Go.Proofs.YtifejhbochkifaaGreatDoorW.PrintWords Go.Proofs.YtifejhbochkifaaGreatDoorW.PrintLast Go.Proofs.YtifejhbochkifaaGreatDoorW.PrintMore Go.Proofs.YtifejhbochkifaaGreatDoor.Spec
set_option linter.unusedVariables false
set_option linter.unusedSimpArgs false
--LEM
def VC (k : Nat) : Prop := ∀ (b : Nat) (s : List UInt8) (bad : Bool) (w w0 : World), Rs w b s bad → GOK w0 → Below w0.heap.size w0 w → w0.heap.size ≤ b → s.length ≤ 1000000 → 4 * s.length + 4 ≤ k →
  Calls Tryz.prog 23 #[.pointer (some ⟨b, 0, none⟩)] w (VOut w b s.length (if bad = true then none else readV k s))
def RC (k : Nat) (obj : Bool) : Prop := ∀ (b : Nat) (s : List UInt8) (w w0 : World), Rs w b s false → GOK w0 → Below w0.heap.size w0 w → w0.heap.size ≤ b → s.length ≤ 1000000 → 4 * s.length + 7 ≤ k →
  Calls Tryz.prog 41 #[.pointer (some ⟨b, 0, none⟩), .agg #[.int .i64 (kindc obj), .int .i64 0, .string ⟨#[]⟩, .slice none 0 0, .slice none 0 0], .string (ba [endc obj])] w (VOut w b s.length (readRow k obj s))
theorem gb_blk {w w' : World} {g b T : Nat} {cs : Array Value} (h : w.heap[g]? = some (.cells cs T (0, 0))) (hg : w.grownBy w' (some b)) (hn : g ≠ b) : w'.heap[g]? = some (.cells cs T (0, 0)) :=
 (hg.block g (blk_lt h) (fun e => by injection e with e; exact hn e)).trans h
theorem R_fresh {α : Type} {d : Kd α} {e : Nat} {w : World} {base : Nat} {ok : Nat → Prop} {v : Value} {xs : List α} (h : d.R e w base ok v xs) {k : Nat} (hk : w.heap.size ≤ k) : some k ≠ v.ownBlock := by
 intro he
 obtain ⟨inner, ho⟩ := Kd.R_own h
 have := own_lt ho k he.symm
 omega
theorem R_set5 {α : Type} {d : Kd α} {e g B B' : Nat} {w : World} {ok : Nat → Prop} {v : Value} {xs : List α} (h : d.R e w B ok v xs) (hok : ∀ k, ok k → B ≤ k) (hg : g < B) (hB : B' ≤ B) (u0 u1 u2 u3 u4 : Value) :
  d.R e (((((w.setCell ⟨g, 0, none⟩ u0).setCell ⟨g, 1, none⟩ u1).setCell ⟨g, 2, none⟩ u2).setCell ⟨g, 3, none⟩ u3).setCell ⟨g, 4, none⟩ u4) B' (fun k => B' ≤ k) v xs :=
 have hn : ∀ k, ok k → k ≠ g := fun k hk e => by have := hok k hk; omega
 Kd.R_mono (Kd.R_lower (Kd.R_far (p := ⟨g, 4, none⟩) (Kd.R_far (p := ⟨g, 3, none⟩) (Kd.R_far (p := ⟨g, 2, none⟩) (Kd.R_far (p := ⟨g, 1, none⟩) (Kd.R_far (p := ⟨g, 0, none⟩) h hn u0) hn u1) hn u2) hn u3) hn u4) hB) (fun k hk => Nat.le_trans hB (hok k hk))
def RM (b : Nat) (w : World) : Nat := match w.cell? ⟨b, 1, none⟩ with
  | some (.bool true) => 0
  | _ => match w.cell? ⟨b, 0, none⟩ with | some (.string s) => s.size + 1 | _ => 0
theorem RM_true {b : Nat} {w : World} {s : List UInt8} (h : Rs w b s true) : RM b w = 0 := by unfold RM; rw [h.c1]
theorem RM_false {b : Nat} {w : World} {s : List UInt8} (h : Rs w b s false) : RM b w = s.length + 1 := by unfold RM; rw [h.c1, h.c0]; simp
/-- behind a value -/
def aft (k : Nat) (obj : Bool) (ls : List V) (ks : List ByteArray) (r : List UInt8) : Option (V × List UInt8) :=
  if [endc obj] <+: r then some (⟨kindc obj, 0, ⟨#[]⟩, ls, ks⟩, r.drop 1) else if [44] <+: r then items k obj ls ks (r.drop 1) else none
theorem item_some {k : Nat} {obj : Bool} {ls : List V} {ks : List ByteArray} {s r : List UInt8} {x : V} (h : readV k s = some (x, r)) : item (k + 1) obj ls ks s = aft k obj (ls ++ [x]) ks r := by rw [item, h]; rfl
theorem item_none {k : Nat} {obj : Bool} {ls : List V} {ks : List ByteArray} {s : List UInt8} (h : readV k s = none) : item (k + 1) obj ls ks s = none := by rw [item, h]
theorem items_key {k : Nat} {ls : List V} {ks : List ByteArray} {s t r : List UInt8} (h : readQ s = some (t, r)) (hc : [58] <+: r) : items (k + 1) true ls ks s = item k true ls (ks ++ [ba t]) (r.drop 1) := by
 rw [items, h]; show (if [58] <+: r then _ else _) = _; rw [if_pos hc]
theorem items_nocol {k : Nat} {ls : List V} {ks : List ByteArray} {s t r : List UInt8} (h : readQ s = some (t, r)) (hc : ¬ [58] <+: r) : items (k + 1) true ls ks s = none := by
 rw [items, h]; show (if [58] <+: r then _ else _) = _; rw [if_neg hc]
theorem items_nokey {k : Nat} {ls : List V} {ks : List ByteArray} {s : List UInt8} (h : readQ s = none) : items (k + 1) true ls ks s = none := by rw [items, h]
theorem need_any (b : Nat) (s p : List UInt8) (bad : Bool) (w : World) (h : Rs w b s bad) :
  Calls Tryz.prog 60 #[.pointer (some ⟨b, 0, none⟩), .string (ba p)] w fun e w' => ∃ (s' : List UInt8) (bad' : Bool), e = .returned (.tuple #[]) ∧ Rs w' b s' bad' ∧ w.grownBy w' (some b) ∧ s'.length ≤ s.length ∧ (p <+: s → s' = s.drop p.length ∧ bad' = bad) ∧ (¬ p <+: s → bad' = true) := by
 by_cases hp : p <+: s
 ·exact (need_yes b s p bad w h hp).mono fun e w' ⟨h1, h2, h3⟩ => ⟨_, _, h1, h2, h3, by simp, fun _ => ⟨rfl, rfl⟩, fun hn => absurd hp hn⟩
 ·exact (need_no b s p bad w h hp).mono fun e w' ⟨h1, h2, h3⟩ => ⟨_, _, h1, h2, h3, Nat.le_refl _, fun hy => absurd hy hp, fun _ => rfl⟩
theorem Rs.far {w : World} {b : Nat} {s : List UInt8} {bad : Bool} (h : Rs w b s bad) {g j : Nat} (hn : b ≠ g) (v : Value) : Rs (w.setCell ⟨g, j, none⟩ v) b s bad := blk_far (p := ⟨g, j, none⟩) h hn v
theorem R_gb {α : Type} {d : Kd α} {e B b : Nat} {w w' : World} {P : Nat → Prop} {v : Value} {xs : List α} (h : d.R e w B (fun k_ => B ≤ k_ ∧ P k_) v xs) (hg : w.grownBy w' (some b)) (hb : b < B) : d.R e w' B (fun k_ => B ≤ k_ ∧ P k_) v xs :=
 Kd.R_grown h hg (fun k_ hk_ e_ => by injection e_ with e_; have := hk_.1; omega)
theorem R_fars {α : Type} {d : Kd α} {e B g j : Nat} {w : World} {P : Nat → Prop} {v : Value} {xs : List α} (h : d.R e w B (fun k_ => B ≤ k_ ∧ P k_) v xs) (hg : g < B) (u : Value) : d.R e (w.setCell ⟨g, j, none⟩ u) B (fun k_ => B ≤ k_ ∧ P k_) v xs :=
 Kd.R_far (p := ⟨g, j, none⟩) h (fun k_ hk_ e_ => by have := hk_.1; simp only [] at e_; omega) u
/-- What the loop holds. -/
def RowS (w : World) (b N k : Nat) (obj : Bool) (R0 : Option (V × List UInt8)) (wr : World) (ls : List V) (ks : List ByteArray) (s : List UInt8) (bad : Bool) (c3 c4 : Value) (kk : Nat) : Prop :=
  (bad = false → R0 = items kk obj ls ks s ∧ 4 * s.length + 6 ≤ kk ∧ ls.length + s.length ≤ N ∧ ks.length + s.length ≤ N) ∧ (bad = true → R0 = none) ∧ kk ≤ k ∧ s.length ≤ N
--LEM
set_option maxHeartbeats 16000000 in
set_option maxRecDepth 100000 in
theorem rowO_calls (k : Nat) (hval : ∀ j, j < k → VC j) : RC k true := by
 intro b s0 w w0 h hG hB hb0 hs hk
 obtain ⟨N, hN⟩ : ∃ N, s0.length = N := ⟨_, rfl⟩
 have hbw := h.lt
 show Calls _ _ #[.pointer (some ⟨b, 0, none⟩), .agg #[.int .i64 6, .int .i64 0, .string ⟨#[]⟩, .slice none 0 0, .slice none 0 0], .string (ba [125])] w _
 obtain ⟨k, rfl⟩ : ∃ k', k = k' + 1 := ⟨k - 1, by omega⟩
 obtain ⟨R0, hR0⟩ : ∃ R0, readRow (k + 1) true s0 = R0 := ⟨_, rfl⟩
 rw [hR0]
 have HVAL := Aside0.mk hval
 have HG := Aside0.mk hG
 have HB := Aside0.mk hB
 have H := Aside0.mk h
 have e1 : ((w.alloc (.cells #[.int .i64 6, .int .i64 0, .string ⟨#[]⟩, .slice none 0 0, .slice none 0 0] 25)).alloc (.cells #[.int .i64 0, .int .i64 0, .string ⟨#[]⟩, .slice none 0 0, .slice none 0 0] 25)).heap.size = w.heap.size + 2 := by simp
 have e2 := blk_alloc (blk_new w (.cells #[.int .i64 6, .int .i64 0, .string ⟨#[]⟩, .slice none 0 0, .slice none 0 0] 25)) (.cells #[.int .i64 0, .int .i64 0, .string ⟨#[]⟩, .slice none 0 0, .slice none 0 0] 25)
 have e3 := blk_new (w.alloc (.cells #[.int .i64 6, .int .i64 0, .string ⟨#[]⟩, .slice none 0 0, .slice none 0 0] 25)) (.cells #[.int .i64 0, .int .i64 0, .string ⟨#[]⟩, .slice none 0 0, .slice none 0 0] 25)
 rw [show (w.alloc (.cells #[.int .i64 6, .int .i64 0, .string ⟨#[]⟩, .slice none 0 0, .slice none 0 0] 25)).heap.size = w.heap.size + 1 by simp] at e3
 have e4 := (h.alloc (.cells #[.int .i64 6, .int .i64 0, .string ⟨#[]⟩, .slice none 0 0, .slice none 0 0] 25)).alloc (.cells #[.int .i64 0, .int .i64 0, .string ⟨#[]⟩, .slice none 0 0, .slice none 0 0] 25)
 have e5 := below_alloc (below_alloc (Below.refl _ w) (.cells #[.int .i64 6, .int .i64 0, .string ⟨#[]⟩, .slice none 0 0, .slice none 0 0] 25)) (.cells #[.int .i64 0, .int .i64 0, .string ⟨#[]⟩, .slice none 0 0, .slice none 0 0] 25)
 obtain ⟨W2, hW2⟩ : ∃ W, (w.alloc (.cells #[.int .i64 6, .int .i64 0, .string ⟨#[]⟩, .slice none 0 0, .slice none 0 0] 25)).alloc (.cells #[.int .i64 0, .int .i64 0, .string ⟨#[]⟩, .slice none 0 0, .slice none 0 0] 25) = W := ⟨_, rfl⟩
 rw [hW2] at e1 e2 e3 e4 e5
 have HW2 := Aside0.mk hW2
 have SZ2 := Aside0.mk e1
 have BK42 := Aside0.mk e2
 have BK62 := Aside0.mk e3
 have H2 := Aside0.mk e4
 have HB2 := Aside0.mk e5
 have ne4 : w.heap.size ≠ b := by omega
 have ne6 : w.heap.size + 1 ≠ b := by omega
 have HN := Aside0.mk hN
 have HR0 := Aside0.mk hR0
 have hs' : N ≤ 1000000 := by omega
 have hk' : 4 * N + 6 ≤ k := by omega
 clear h hG hB hval hs hk hN hR0 hW2 e1 e2 e3 e4 e5
 by_cases hend : [125] <+: s0
 ·have HE := Aside0.mk hend
  have HR := Aside0.mk (show R0 = some (⟨6, 0, ⟨#[]⟩, [], []⟩, s0.drop 1) by rw [← HR0.out, readRow]; show (if [125] <+: s0 then _ else _) = _; rw [if_pos hend]; rfl)
  clear hend
  go_enter Tryz.func41, Tryz.ntmps41
  go_wp2_with fail
  rw [HW2.out]
  refine (take_yes b s0 [125] false W2 H2.out HE.out).mono ?_
  rintro e w3 ⟨rfl, h3, g3⟩
  have H3 := Aside0.mk h3
  have BK43 := gb_blk BK42.out g3 ne4
  have BK63 := gb_blk BK62.out g3 ne6
  have GB3 := Aside0.mk ((grown_of_below HB2.out (some b)).trans g3)
  have BK63a := Aside0.mk BK63
  have k0 := (blk_cell BK43 0).trans (rfl : _ = some (Value.int .i64 6))
  have k1 := (blk_cell BK43 1).trans (rfl : _ = some (Value.int .i64 0))
  have k2 := (blk_cell BK43 2).trans (rfl : _ = some (Value.string ⟨#[]⟩))
  have k3 := (blk_cell BK43 3).trans (rfl : _ = some (Value.slice none 0 0))
  have k4 := (blk_cell BK43 4).trans (rfl : _ = some (Value.slice none 0 0))
  have m0 := (blk_cell BK63 0).trans (rfl : _ = some (Value.int .i64 0))
  have m1 := (blk_cell BK63 1).trans (rfl : _ = some (Value.int .i64 0))
  have m2 := (blk_cell BK63 2).trans (rfl : _ = some (Value.string ⟨#[]⟩))
  have m3 := (blk_cell BK63 3).trans (rfl : _ = some (Value.slice none 0 0))
  have m4 := (blk_cell BK63 4).trans (rfl : _ = some (Value.slice none 0 0))
  have i0 := blk_frozen BK63 0
  have i1 := blk_frozen BK63 1
  have i2 := blk_frozen BK63 2
  have i3 := blk_frozen BK63 3
  have i4 := blk_frozen BK63 4
  clear h3 g3 BK43 BK63
  go_wp2
  refine bodyPost_ret (results_cell_row rfl _ _ (w.heap.size + 1) 25 #[.int .i64 6, .int .i64 0, .string ⟨#[]⟩, .slice none 0 0, .slice none 0 0] (0, 0) _ rfl (fill5 BK63a.out) Tryz.underlying25 rfl (by kernel_rfl)) rfl ?_
  refine ⟨⟨6, 0, ⟨#[]⟩, [], []⟩, s0.drop 1, false, _, _, rfl, Kd.R_nil _ _ _ _ _, Kd.R_nil _ _ _ _ _, far5 H3.out (Ne.symm ne6), gb_new5 GB3.out (by omega), by simp, ?_, ?_⟩
  ·intro y r e
   rw [HR.out] at e
   simp only [Option.some.injEq, Prod.mk.injEq] at e
   obtain ⟨rfl, rfl⟩ := e
   exact ⟨rfl, rfl, rfl⟩
  ·intro e; rw [HR.out] at e; cases e
 ·have HE := Aside0.mk hend
  have HR := Aside0.mk (show R0 = items k true [] [] s0 by rw [← HR0.out, readRow]; show (if [125] <+: s0 then _ else _) = _; rw [if_neg hend])
  clear hend
  go_enter Tryz.func41, Tryz.ntmps41
  go_wp2_with fail
  rw [HW2.out]
  refine (take_no b s0 [125] false W2 H2.out HE.out).mono ?_
  rintro e w3 ⟨rfl, rfl⟩
  go_wp2
  go_loopw [] (fun wr => ∃ (ls : List V) (ks : List ByteArray) (s : List UInt8) (bad : Bool) (c3 c4 : Value) (kk : Nat), Aside0 (RowS w b N k true R0 wr ls ks s bad c3 c4 kk) ∧ Aside0 (Rs wr b s bad) ∧ Aside0 (w.grownBy wr (some b)) ∧ Aside0 (wr.heap[w.heap.size]? = some (.cells #[.int .i64 6, .int .i64 0, .string ⟨#[]⟩, c3, c4] 25 (0, 0))) ∧ Aside0 (wr.heap[w.heap.size + 1]? = some (.cells #[.int .i64 0, .int .i64 0, .string ⟨#[]⟩, .slice none 0 0, .slice none 0 0] 25 (0, 0))) ∧ Aside0 (Kd.R k25 25 wr (w.heap.size + 2) (fun k_ => w.heap.size + 2 ≤ k_ ∧ some k_ ≠ c4.ownBlock) c3 ls) ∧ Aside0 (Kd.R Kd.string 9 wr (w.heap.size + 2) (fun k_ => w.heap.size + 2 ≤ k_ ∧ some k_ ≠ c3.ownBlock) c4 ks) ∧ w.heap.size + 2 ≤ wr.heap.size) (fun wr => RM b wr)
  case atStart => exact ⟨[], [], s0, false, .slice none 0 0, .slice none 0 0, k, ⟨fun _ => ⟨HR.out, by have := HN.out; omega, by have := HN.out; simp only [List.length_nil]; omega, by have := HN.out; simp only [List.length_nil]; omega⟩, fun e => (by cases e), Nat.le_refl _, by have := HN.out; omega⟩, H2, ⟨grown_of_below HB2.out _⟩, BK42, BK62, ⟨Kd.R_nil _ _ _ _ _⟩, ⟨Kd.R_nil _ _ _ _ _⟩, by have := SZ2.out; omega⟩
  case round =>
   obtain ⟨ls, ks, s, bad, c3, c4, kk, HS, H3, GB, BK4, BK6, HL, HK, hwr⟩ := hrel
   clear HR H2 BK42 BK62 HB2 SZ2 HW2 HE
   have c1 := H3.out.c1
   cases bad with
   | true =>
    have HR := Aside0.mk (HS.out.2.1 rfl)
    have k0 := (blk_cell BK4.out 0).trans (rfl : _ = some (Value.int .i64 6))
    have k1 := (blk_cell BK4.out 1).trans (rfl : _ = some (Value.int .i64 0))
    have k2 := (blk_cell BK4.out 2).trans (rfl : _ = some (Value.string ⟨#[]⟩))
    have k3 := (blk_cell BK4.out 3).trans (rfl : _ = some c3)
    have k4 := (blk_cell BK4.out 4).trans (rfl : _ = some c4)
    have m0 := (blk_cell BK6.out 0).trans (rfl : _ = some (Value.int .i64 0))
    have m1 := (blk_cell BK6.out 1).trans (rfl : _ = some (Value.int .i64 0))
    have m2 := (blk_cell BK6.out 2).trans (rfl : _ = some (Value.string ⟨#[]⟩))
    have m3 := (blk_cell BK6.out 3).trans (rfl : _ = some (Value.slice none 0 0))
    have m4 := (blk_cell BK6.out 4).trans (rfl : _ = some (Value.slice none 0 0))
    have i0 := blk_frozen BK6.out 0
    have i1 := blk_frozen BK6.out 1
    have i2 := blk_frozen BK6.out 2
    have i3 := blk_frozen BK6.out 3
    have i4 := blk_frozen BK6.out 4
    obtain ⟨A3, q3, rfl⟩ := Kd.R_slice HL.out
    obtain ⟨A4, q4, rfl⟩ := Kd.R_slice HK.out
    go_wp2
    refine bodyPost_ret (results_cell_row rfl _ _ (w.heap.size + 1) 25 #[.int .i64 6, .int .i64 0, .string ⟨#[]⟩, .slice A3 ls.length q3, .slice A4 ks.length q4] (0, 0) _ rfl (fill5 BK6.out) Tryz.underlying25 rfl (by kernel_rfl)) rfl ?_
    refine ⟨⟨6, 0, ⟨#[]⟩, ls, ks⟩, s, true, _, _, rfl, R_set5 HL.out (fun _ hk_ => hk_.1) (by omega) (by omega) _ _ _ _ _, R_set5 HK.out (fun _ hk_ => hk_.1) (by omega) (by omega) _ _ _ _ _, far5 H3.out (Ne.symm ne6), gb_new5 GB.out (by omega), by have := HS.out.2.2.2; have := HN.out; omega, ?_, fun _ => rfl⟩
    intro y r e
    rw [HR.out] at e
    cases e
   | false =>
    obtain ⟨hp1, hp2, hpl, hpk⟩ := HS.out.1 rfl
    have HKK := Aside0.mk (show kk ≤ k from HS.out.2.2.1)
    obtain ⟨k2, rfl⟩ : ∃ k2, kk = k2 + 1 + 1 := ⟨kk - 2, by omega⟩
    have hkk := HKK.out
    have k0 := (blk_cell BK4.out 0).trans (rfl : _ = some (Value.int .i64 6))
    have HTX := Aside0.mk (text_calls b s wr.drew (H3.out.below (below_drew (Below.refl _ wr))) (by omega))
    have HP := Aside0.mk hp1
    clear hp1
    go_wp2
    refine start_ (n := 8) (S := fun w' => w'.cell? ⟨w.heap.size, 4, none⟩ = some c4) (ds := [7]) #[false, false, false, false, false, false, false, false] (by kernel_rfl) rfl rfl (((blk_cell BK4.out 4).trans rfl)) (fun hHeld => ?_)
    refine pure_ (i := 0) (N := some 19) (v := ?_) (a' := ?_) #[true, false, false, false, false, false, false, false] rfl rfl (by kernel_rfl) (fun _ _ _ h => h) (Or.inl ⟨by rfl, ?_⟩) ?_ ?_
    rotate_left
    ·intro w'
     go_simp
     with_reducible rfl
    rotate_left
    ·simp only [Act.put, List.setIfInBounds_toArray, List.set_cons_zero, List.set_cons_succ, i64_w, i32_w]
     rfl
    refine pure_ (i := 2) (N := some 21) (v := ?_) (a' := ?_) #[true, false, true, false, false, false, false, false] rfl rfl (by kernel_rfl) (fun _ _ _ h => h) (Or.inl ⟨by rfl, ?_⟩) ?_ ?_
    rotate_left
    ·intro w'
     go_simp
     with_reducible rfl
    rotate_left
    ·simp only [Act.put, List.setIfInBounds_toArray, List.set_cons_zero, List.set_cons_succ, i64_w, i32_w]
     rfl
    refine take_ (i := 1) (N := some 20) (v := ?_) (a' := ?_) #[true, true, true, false, false, false, false, false] rfl rfl (by kernel_rfl) (fun _ _ _ h => h) (Or.inl ⟨by rfl, ?_⟩) hHeld ?_ ?_
    rotate_left
    ·intro w' s0
     go_simp
     with_reducible rfl
    rotate_left
    ·simp only [Act.put, List.setIfInBounds_toArray, List.set_cons_zero, List.set_cons_succ, i64_w, i32_w]
     rfl
    refine one_ (i := 3) (N := some 22) #[true, true, true, true, false, false, false, false] rfl rfl (by kernel_rfl) (by decide) (fun K hK => ?_)
    refine goes_ Tryz.func40 (by kernel_rfl) rfl #[.pointer (some ⟨b, 0, none⟩)] (by rfl) rfl rfl (by simp only [List.map_toArray, List.map_cons, List.map_nil]; rfl) ?_
    with_reducible refine (HTX.out).mono ?_
    rintro e w8 ⟨t, s1, bad1, rfl, h8, g8, hl8, ht8, hs8, hn8⟩
    refine ⟨_, rfl, ?_⟩
    have H8 := Aside0.mk h8
    have G8 := Aside0.mk ((grown_of_below (below_drew (Below.refl _ wr)) (some b)).trans g8)
    have HX8 := Aside0.mk (And.intro hs8 hn8)
    clear h8 g8 hs8 hn8
    have BK48 := Aside0.mk (gb_blk BK4.out G8.out ne4)
    have BK68 := Aside0.mk (gb_blk BK6.out G8.out ne6)
    have HL8 := Aside0.mk (Kd.R_grown HL.out G8.out (fun k_ hk_ => by intro e_; injection e_ with e_; have := hk_.1; omega))
    have HK8 := Aside0.mk (Kd.R_grown HK.out G8.out (fun k_ hk_ => by intro e_; injection e_ with e_; have := hk_.1; omega))
    have hz8 : w.heap.size + 2 ≤ w8.heap.size := Nat.le_trans hwr G8.out.size
    clear BK4 BK6 HL HK
    refine hK.out _ _ (((blk_cell BK48.out 4).trans rfl)) (fun hHeld => ?_)
    clear hK K
    refine norm_ (a' := ?_) ?_ ?_
    rotate_left
    ·show Act.put _ (some 22) _ = _
     simp only [Act.put, List.setIfInBounds_toArray, List.set_cons_zero, List.set_cons_succ, i64_w, i32_w]
     rfl
    refine one_ (i := 4) (N := some 23) #[true, true, true, true, true, false, false, false] rfl rfl (by kernel_rfl) (by decide) (fun K hK => ?_)
    refine value_ (w1 := ?_) (v := ?_) (by rfl) rfl ?_ ?_
    rotate_left 2
    ·go_simp
     constructor
     ·rfl
     ·rfl
    refine hK.out _ _ (((blk_cell (blk_alloc BK48.out _) 4).trans rfl)) (fun hHeld => ?_)
    clear hK K
    refine norm_ (a' := ?_) ?_ ?_
    rotate_left
    ·show Act.put _ (some 23) _ = _
     simp only [Act.put, List.setIfInBounds_toArray, List.set_cons_zero, List.set_cons_succ, i64_w, i32_w]
     rfl
    refine one_ (i := 5) (N := some 24) #[true, true, true, true, true, true, false, false] rfl rfl (by kernel_rfl) (by decide) (fun K hK => ?_)
    refine Kd.R_append_step Kd.string (w0 := w8) (w.heap.size + 2) (by rfl) (.tmp 20) (.tmp 23) 23 9 (.string ⟨#[]⟩) 16 rfl Tryz.underlying23 info9 rfl (by decide) (by omega) c4 ks (ba t) [.string (ba t)] (fun k_ => w.heap.size + 2 ≤ k_ ∧ some k_ ≠ c3.ownBlock) (fun _ => False) rfl rfl ?aP (fun _ hk => hk.elim) ?aF ?aO ?aB ?aS ?aL ?_
    (case aP => exact rfl)
    (case aB => exact Below.refl _ _)
    (case aF => exact (fun k_ hk_ => ⟨by omega, R_fresh HL8.out hk_⟩))
    (case aO => exact HK8.out)
    (case aS => omega)
    (case aL => omega)
    intro v1 w9 ho hb hg hat
    obtain ⟨A1, q1, e1_⟩ := Kd.R_slice ho
    generalize (ks ++ [ba t]).length = n1 at e1_
    subst e1_
    have HK9 := Aside0.mk ho
    have HL9 := Aside0.mk (Kd.R_after (ok := fun k_ => w.heap.size + 2 ≤ k_) HL8.out hg hat)
    have BK49 := Aside0.mk ((hb.block w.heap.size (by omega)).trans BK48.out)
    have BK69 := Aside0.mk ((hb.block (w.heap.size + 1) (by omega)).trans BK68.out)
    have H9 := Aside0.mk (H8.out.belowB hb (by omega))
    have GB9 := Aside0.mk (gb_below (GB.out.trans G8.out) hb (by omega) hz8)
    have hz9 : w.heap.size + 2 ≤ w9.heap.size := Nat.le_trans hz8 hb.size
    have f4_ := blk_frozen BK49.out 4
    clear ho hb hg hat HL8 HK8 BK48 BK68 H8
    refine hK.out _ _ (((blk_cell BK49.out 4).trans rfl)) (fun hHeld => ?_)
    clear hK K
    refine norm_ (a' := ?_) ?_ ?_
    rotate_left
    ·show Act.put _ (some 24) _ = _
     simp only [Act.put, List.setIfInBounds_toArray, List.set_cons_zero, List.set_cons_succ, i64_w, i32_w]
     rfl
    refine pure_ (i := 6) (N := some 25) (v := ?_) (a' := ?_) #[true, true, true, true, true, true, true, false] rfl rfl (by kernel_rfl) (fun _ _ _ h => h) (Or.inl ⟨by rfl, ?_⟩) ?_ ?_
    rotate_left
    ·intro w'
     go_simp
     with_reducible rfl
    rotate_left
    ·simp only [Act.put, List.setIfInBounds_toArray, List.set_cons_zero, List.set_cons_succ, i64_w, i32_w]
     rfl
    refine last_ (i := 7) (N := none) #[true, true, true, true, true, true, true, true] rfl rfl (by kernel_rfl) (by decide) (fun K hK => ?_)
    refine skip_ (w1 := ?_) (by rfl) rfl ?_ ?_
    rotate_left
    ·go_simp
     rfl
    refine hK.out _ _ ?_
    clear hK K
    refine done_ (by kernel_rfl) ?_

    have bk410 : (w9.setCell ⟨w.heap.size, 4, none⟩ (.slice A1 n1 q1)).heap[w.heap.size]? = some (.cells #[.int .i64 6, .int .i64 0, .string ⟨#[]⟩, c3, .slice A1 n1 q1] 25 (0, 0)) := blk_set BK49.out 4 _
    have bk610 := blk_far (p := ⟨w.heap.size, 4, none⟩) BK69.out (show w.heap.size + 1 ≠ w.heap.size by omega) (.slice A1 n1 q1)
    have h10 := H9.out.far (j := 4) (Ne.symm ne4) (.slice A1 n1 q1)
    have hl10 := R_fars (g := w.heap.size) (j := 4) HL9.out (by omega) (.slice A1 n1 q1)
    have hk10 := R_fars (g := w.heap.size) (j := 4) HK9.out (by omega) (.slice A1 n1 q1)
    have gb10 := gb_new GB9.out (Nat.le_refl _) 4 (.slice A1 n1 q1)
    have hz10 : w.heap.size + 2 ≤ (w9.setCell ⟨w.heap.size, 4, none⟩ (.slice A1 n1 q1)).heap.size := by simpa using hz9
    generalize w9.setCell ⟨w.heap.size, 4, none⟩ (.slice A1 n1 q1) = W10 at bk410 bk610 h10 hl10 hk10 gb10 hz10 ⊢
    obtain ⟨d4, hd4⟩ : ∃ d4, Value.slice A1 n1 q1 = d4 := ⟨_, rfl⟩
    rw [hd4] at bk410 hl10 hk10
    have HX10 := Aside0.mk (show (∀ t' r, readQ s = some (t', r) → t = t' ∧ s1 = r ∧ bad1 = false) ∧ (readQ s = none → bad1 = true) from HX8.out)
    have HBK410 := Aside0.mk bk410
    have HBK610 := Aside0.mk bk610
    have H10 := Aside0.mk h10
    have HL10 := Aside0.mk hl10
    have HK10 := Aside0.mk hk10
    have GB10 := Aside0.mk gb10
    clear bk410 bk610 h10 hl10 hk10 gb10 hd4 hHeld BK49 BK69 H9 HL9 HK9 GB9 f4_ HX8 k0 c1 HTX
    go_wp2_with fail
    refine (need_any b s1 [58] bad1 W10 H10.out).mono ?_
    rintro e w11 ⟨s2, bad2, rfl, h11, g11, hl2, hy2, hn2⟩
    have H11 := Aside0.mk h11
    have BK411 := Aside0.mk (gb_blk HBK410.out g11 ne4)
    have BK611 := Aside0.mk (gb_blk HBK610.out g11 ne6)
    have HL11 := Aside0.mk (R_gb HL10.out g11 (by omega))
    have HK11 := Aside0.mk (R_gb HK10.out g11 (by omega))
    have GB11 := Aside0.mk (GB10.out.trans g11)
    have hz11 : w.heap.size + 2 ≤ w11.heap.size := Nat.le_trans hz10 g11.size
    have hls2 : s2.length ≤ s.length := by omega
    obtain ⟨ks2, hks2⟩ : ∃ ks2, ks ++ [ba t] = ks2 := ⟨_, rfl⟩
    have HS2 := Aside0.mk (show (bad2 = false → R0 = item (k2 + 1) true ls ks2 s2 ∧ ks2.length + s2.length ≤ N) ∧ (bad2 = true → R0 = none) by
     rw [← hks2]
     cases hq : readQ s with
     | none =>
      have hb1 := HX10.out.2 hq
      have hb2 : bad2 = true := by
       by_cases hc : [58] <+: s1
       ·rw [(hy2 hc).2, hb1]
       ·exact hn2 hc
      exact ⟨fun e => (by rw [hb2] at e; cases e), fun _ => (by rw [HP.out, items_nokey hq])⟩
     | some p =>
      obtain ⟨t', r'⟩ := p
      obtain ⟨rfl, rfl, rfl⟩ := HX10.out.1 t' r' hq
      have hlq := readQ_len hq
      by_cases hc : [58] <+: s1
      ·obtain ⟨rfl, rfl⟩ := hy2 hc
       refine ⟨fun _ => ⟨by rw [HP.out, items_key hq hc]; rfl, ?_⟩, fun e => (by cases e)⟩
       rw [List.length_append]
       show ks.length + 1 + _ ≤ N
       omega
      ·exact ⟨fun e => (by rw [hn2 hc] at e; cases e), fun _ => (by rw [HP.out, items_nocol hq hc])⟩)
    rw [hks2] at HK11
    clear h11 g11 hks2 HBK410 HBK610 H10 HL10 HK10 GB10 hy2 hn2 HX10 HP hz10 hz9 hz8 G8

    have HVL := Aside0.mk (HVAL.out k2 (by omega) b s2 bad2 w11.drew w0 (H11.out.below (below_drew (Below.refl _ w11))) HG.out (below_drew (HB.out.grown GB11.out HB.out.size (fun k e => by injection e with e; omega))) hb0 (by omega) (by omega))
    go_wp2
    refine start_ (n := 8) (S := fun w' => w'.cell? ⟨w.heap.size, 3, none⟩ = some c3) (ds := [7]) #[false, false, false, false, false, false, false, false] (by kernel_rfl) rfl rfl (((blk_cell BK411.out 3).trans rfl)) (fun hHeld => ?_)
    refine pure_ (i := 0) (N := some 28) (v := ?_) (a' := ?_) #[true, false, false, false, false, false, false, false] rfl rfl (by kernel_rfl) (fun _ _ _ h => h) (Or.inl ⟨by rfl, ?_⟩) ?_ ?_
    rotate_left
    ·intro w'
     go_simp
     with_reducible rfl
    rotate_left
    ·simp only [Act.put, List.setIfInBounds_toArray, List.set_cons_zero, List.set_cons_succ, i64_w, i32_w]
     rfl
    refine pure_ (i := 2) (N := some 30) (v := ?_) (a' := ?_) #[true, false, true, false, false, false, false, false] rfl rfl (by kernel_rfl) (fun _ _ _ h => h) (Or.inl ⟨by rfl, ?_⟩) ?_ ?_
    rotate_left
    ·intro w'
     go_simp
     with_reducible rfl
    rotate_left
    ·simp only [Act.put, List.setIfInBounds_toArray, List.set_cons_zero, List.set_cons_succ, i64_w, i32_w]
     rfl
    refine take_ (i := 1) (N := some 29) (v := ?_) (a' := ?_) #[true, true, true, false, false, false, false, false] rfl rfl (by kernel_rfl) (fun _ _ _ h => h) (Or.inl ⟨by rfl, ?_⟩) hHeld ?_ ?_
    rotate_left
    ·intro w' s0
     go_simp
     with_reducible rfl
    rotate_left
    ·simp only [Act.put, List.setIfInBounds_toArray, List.set_cons_zero, List.set_cons_succ, i64_w, i32_w]
     rfl
    refine one_ (i := 3) (N := some 31) #[true, true, true, true, false, false, false, false] rfl rfl (by kernel_rfl) (by decide) (fun K hK => ?_)
    refine goes_ Tryz.func23 (by kernel_rfl) rfl #[.pointer (some ⟨b, 0, none⟩)] (by rfl) rfl rfl (by simp only [List.map_toArray, List.map_cons, List.map_nil]; rfl) ?_
    with_reducible refine (HVL.out).mono ?_
    rintro e w12 ⟨x, s3, bad3, x3, x4, rfl, hx3, hx4, h12, g12, hl12, hs12, hn12⟩
    refine ⟨_, rfl, ?_⟩
    have H12 := Aside0.mk h12
    have G12 := Aside0.mk ((grown_of_below (below_drew (Below.refl _ w11)) (some b)).trans g12)
    have HX12 := Aside0.mk (And.intro hs12 hn12)
    clear h12 g12 hs12 hn12
    have HX3 := Aside0.mk hx3
    have HX4 := Aside0.mk hx4
    clear hx3 hx4
    have BK412 := Aside0.mk (gb_blk BK411.out G12.out ne4)
    have BK612 := Aside0.mk (gb_blk BK611.out G12.out ne6)
    have HL12 := Aside0.mk (Kd.R_grown HL11.out G12.out (fun k_ hk_ => by intro e_; injection e_ with e_; have := hk_.1; omega))
    have HK12 := Aside0.mk (Kd.R_grown HK11.out G12.out (fun k_ hk_ => by intro e_; injection e_ with e_; have := hk_.1; omega))
    have hz12 : w11.heap.size ≤ w12.heap.size := G12.out.size
    have hz12' : w.heap.size + 2 ≤ w12.heap.size := Nat.le_trans hz11 hz12
    refine hK.out _ _ (((blk_cell BK412.out 3).trans rfl)) (fun hHeld => ?_)
    clear hK K
    refine norm_ (a' := ?_) ?_ ?_
    rotate_left
    ·show Act.put _ (some 31) _ = _
     simp only [Act.put, List.setIfInBounds_toArray, List.set_cons_zero, List.set_cons_succ, i64_w, i32_w]
     rfl
    refine one_ (i := 4) (N := some 32) #[true, true, true, true, true, false, false, false] rfl rfl (by kernel_rfl) (by decide) (fun K hK => ?_)
    refine value_ (w1 := ?_) (v := ?_) (by rfl) rfl ?_ ?_
    rotate_left 2
    ·go_simp
     constructor
     ·rfl
     ·rfl
    refine hK.out _ _ (((blk_cell (blk_alloc BK412.out _) 3).trans rfl)) (fun hHeld => ?_)
    clear hK K
    refine norm_ (a' := ?_) ?_ ?_
    rotate_left
    ·show Act.put _ (some 32) _ = _
     simp only [Act.put, List.setIfInBounds_toArray, List.set_cons_zero, List.set_cons_succ, i64_w, i32_w]
     rfl
    refine one_ (i := 5) (N := some 33) #[true, true, true, true, true, true, false, false] rfl rfl (by kernel_rfl) (by decide) (fun K hK => ?_)
    refine Kd.R_append_step k25 (w0 := w12) (w.heap.size + 2) (by rfl) (.tmp 29) (.tmp 32) 22 25 (.agg #[.int .i64 0, .int .i64 0, .string ⟨#[]⟩, .slice none 0 0, .slice none 0 0]) 80 rfl Tryz.underlying22 info25 rfl (by decide) (by omega) c3 ls x [.int .i64 x.f0, .int .i64 x.f1, .string x.f2, x3, x4] (fun k_ => w.heap.size + 2 ≤ k_ ∧ some k_ ≠ d4.ownBlock) (fun k_ => w11.heap.size ≤ k_) rfl rfl ?aP (fun k_ hk_ => ⟨⟨Nat.le_trans hz11 hk_, R_fresh HK11.out hk_⟩, R_fresh HL11.out hk_⟩) ?aF ?aO ?aB ?aS ?aL ?_
    (case aP => exact k25_mkM w12 _ _ x (Kd.R_lower HX3.out (show w.heap.size + 2 ≤ w11.drew.heap.size from hz11)) (Kd.R_lower HX4.out (show w.heap.size + 2 ≤ w11.drew.heap.size from hz11)))
    (case aB => exact Below.refl _ _)
    (case aF => exact (fun k_ hk_ => ⟨by omega, R_fresh HK12.out hk_⟩))
    (case aO => exact HL12.out)
    (case aS => omega)
    (case aL => omega)
    intro v2 w13 ho hb hg hat
    obtain ⟨A2, q2, e2_⟩ := Kd.R_slice ho
    generalize (ls ++ [x]).length = n2 at e2_
    subst e2_
    have HL13 := Aside0.mk ho
    have HK13 := Aside0.mk (Kd.R_after (ok := fun k_ => w.heap.size + 2 ≤ k_) HK12.out hg hat)
    have BK413 := Aside0.mk ((hb.block w.heap.size (by omega)).trans BK412.out)
    have BK613 := Aside0.mk ((hb.block (w.heap.size + 1) (by omega)).trans BK612.out)
    have H13 := Aside0.mk (H12.out.belowB hb (by omega))
    have GB13 := Aside0.mk (gb_below (GB11.out.trans G12.out) hb (by omega) hz12')
    have hz13 : w.heap.size + 2 ≤ w13.heap.size := Nat.le_trans hz12' hb.size
    have f3_ := blk_frozen BK413.out 3
    clear ho hb hg hat HL12 HK12 BK412 BK612 H12
    refine hK.out _ _ (((blk_cell BK413.out 3).trans rfl)) (fun hHeld => ?_)
    clear hK K
    refine norm_ (a' := ?_) ?_ ?_
    rotate_left
    ·show Act.put _ (some 33) _ = _
     simp only [Act.put, List.setIfInBounds_toArray, List.set_cons_zero, List.set_cons_succ, i64_w, i32_w]
     rfl
    refine pure_ (i := 6) (N := some 34) (v := ?_) (a' := ?_) #[true, true, true, true, true, true, true, false] rfl rfl (by kernel_rfl) (fun _ _ _ h => h) (Or.inl ⟨by rfl, ?_⟩) ?_ ?_
    rotate_left
    ·intro w'
     go_simp
     with_reducible rfl
    rotate_left
    ·simp only [Act.put, List.setIfInBounds_toArray, List.set_cons_zero, List.set_cons_succ, i64_w, i32_w]
     rfl
    refine last_ (i := 7) (N := none) #[true, true, true, true, true, true, true, true] rfl rfl (by kernel_rfl) (by decide) (fun K hK => ?_)
    refine skip_ (w1 := ?_) (by rfl) rfl ?_ ?_
    rotate_left
    ·go_simp
     rfl
    refine hK.out _ _ ?_
    clear hK K
    refine done_ (by kernel_rfl) ?_

    have bk414 : (w13.setCell ⟨w.heap.size, 3, none⟩ (.slice A2 n2 q2)).heap[w.heap.size]? = some (.cells #[.int .i64 6, .int .i64 0, .string ⟨#[]⟩, .slice A2 n2 q2, d4] 25 (0, 0)) := blk_set BK413.out 3 _
    have bk614 := blk_far (p := ⟨w.heap.size, 3, none⟩) BK613.out (show w.heap.size + 1 ≠ w.heap.size by omega) (.slice A2 n2 q2)
    have h14 := H13.out.far (j := 3) (Ne.symm ne4) (.slice A2 n2 q2)
    have hl14 := R_fars (g := w.heap.size) (j := 3) HL13.out (by omega) (.slice A2 n2 q2)
    have hk14 := R_fars (g := w.heap.size) (j := 3) HK13.out (by omega) (.slice A2 n2 q2)
    have gb14 := gb_new GB13.out (Nat.le_refl _) 3 (.slice A2 n2 q2)
    have hz14 : w.heap.size + 2 ≤ (w13.setCell ⟨w.heap.size, 3, none⟩ (.slice A2 n2 q2)).heap.size := by simpa using hz13
    generalize w13.setCell ⟨w.heap.size, 3, none⟩ (.slice A2 n2 q2) = W14 at bk414 bk614 h14 hl14 hk14 gb14 hz14 ⊢
    obtain ⟨d3, hd3⟩ : ∃ d3, Value.slice A2 n2 q2 = d3 := ⟨_, rfl⟩
    rw [hd3] at bk414 hl14 hk14
    have HS3 := Aside0.mk (show (bad3 = false → R0 = aft k2 true (ls ++ [x]) ks2 s3 ∧ ks2.length + s2.length ≤ N) ∧ (bad3 = true → R0 = none) by
     have hx := HX12.out
     rcases Bool.eq_false_or_eq_true bad2 with hb | hb
     ·have hr : R0 = none := by first | exact HS2.out.2 hb | cases hb
      have h3 := hx.2 (if_pos hb)
      exact ⟨fun e => (by rw [h3] at e; cases e), fun _ => hr⟩
     ·obtain ⟨hr, hlen⟩ := HS2.out.1 (by first | exact hb | trivial)
      have hne : ¬ bad2 = true := by rw [hb]; decide
      rw [if_neg hne] at hx
      cases hv : readV k2 s2 with
      | none => exact ⟨fun e => (by rw [hx.2 hv] at e; cases e), fun _ => (by rw [hr, item_none hv])⟩
      | some p =>
       obtain ⟨y, r⟩ := p
       obtain ⟨rfl, rfl, h3⟩ := hx.1 y r hv
       exact ⟨fun _ => ⟨by rw [hr, item_some hv], hlen⟩, fun e => (by rw [h3] at e; cases e)⟩)
    have HBK414 := Aside0.mk bk414
    have HBK614 := Aside0.mk bk614
    have H14 := Aside0.mk h14
    have HL14 := Aside0.mk hl14
    have HK14 := Aside0.mk hk14
    have GB14 := Aside0.mk gb14
    have hls3 : s3.length ≤ s.length := by omega
    clear bk414 bk614 h14 hl14 hk14 gb14 hd3 hHeld BK413 BK613 H13 HL13 HK13 GB13 f3_ HX12 HVL HS2 HX3 HX4 hz13 hz12 hz12' hz11 H11 BK411 BK611 HL11 HK11 GB11
    by_cases he : [125] <+: s3
    ·have HE3 := Aside0.mk he
     clear he
     go_wp2_with fail
     refine (take_yes b s3 [125] bad3 W14 H14.out HE3.out).mono ?_
     rintro e w15 ⟨rfl, h15, g15⟩
     have H15 := Aside0.mk h15
     have BK415 := Aside0.mk (gb_blk HBK414.out g15 ne4)
     have BK615 := Aside0.mk (gb_blk HBK614.out g15 ne6)
     have HL15 := Aside0.mk (R_gb HL14.out g15 (by omega))
     have HK15 := Aside0.mk (R_gb HK14.out g15 (by omega))
     have GB15 := Aside0.mk (GB14.out.trans g15)
     obtain ⟨A3, q3, rfl⟩ := Kd.R_slice HL15.out
     obtain ⟨A4, q4, rfl⟩ := Kd.R_slice HK15.out
     obtain ⟨m3, hm3⟩ : ∃ m3, (ls ++ [x]).length = m3 := ⟨_, rfl⟩
     rw [hm3] at HL15 HK15 BK415 HBK414 HL14 HK14
     have k0 := (blk_cell BK415.out 0).trans (rfl : _ = some (Value.int .i64 6))
     have k1 := (blk_cell BK415.out 1).trans (rfl : _ = some (Value.int .i64 0))
     have k2_ := (blk_cell BK415.out 2).trans (rfl : _ = some (Value.string ⟨#[]⟩))
     have k3 := (blk_cell BK415.out 3).trans (rfl : _ = some (Value.slice A3 m3 q3))
     have k4 := (blk_cell BK415.out 4).trans (rfl : _ = some (Value.slice A4 ks2.length q4))
     have m0 := (blk_cell BK615.out 0).trans (rfl : _ = some (Value.int .i64 0))
     have m1 := (blk_cell BK615.out 1).trans (rfl : _ = some (Value.int .i64 0))
     have m2 := (blk_cell BK615.out 2).trans (rfl : _ = some (Value.string ⟨#[]⟩))
     have m3_ := (blk_cell BK615.out 3).trans (rfl : _ = some (Value.slice none 0 0))
     have m4 := (blk_cell BK615.out 4).trans (rfl : _ = some (Value.slice none 0 0))
     have i0 := blk_frozen BK615.out 0
     have i1 := blk_frozen BK615.out 1
     have i2 := blk_frozen BK615.out 2
     have i3 := blk_frozen BK615.out 3
     have i4 := blk_frozen BK615.out 4
     have HM3 := Aside0.mk hm3
     clear h15 g15 hm3
     go_wp2
     refine bodyPost_ret (results_cell_row rfl _ _ (w.heap.size + 1) 25 #[.int .i64 6, .int .i64 0, .string ⟨#[]⟩, .slice A3 m3 q3, .slice A4 ks2.length q4] (0, 0) _ rfl (fill5 BK615.out) Tryz.underlying25 rfl (by kernel_rfl)) rfl ?_
     refine ⟨⟨6, 0, ⟨#[]⟩, ls ++ [x], ks2⟩, s3.drop 1, bad3, _, _, rfl, R_set5 HL15.out (fun _ hk_ => hk_.1) (by omega) (by omega) _ _ _ _ _, R_set5 HK15.out (fun _ hk_ => hk_.1) (by omega) (by omega) _ _ _ _ _, far5 H15.out (Ne.symm ne6), gb_new5 GB15.out (by omega), by rw [List.length_drop]; have := HS.out.2.2.2; have := HN.out; omega, ?_, ?_⟩
     ·intro y r e
      rcases Bool.eq_false_or_eq_true bad3 with hb | hb
      ·rw [HS3.out.2 hb] at e; cases e
      ·rw [(HS3.out.1 hb).1] at e
       unfold aft at e
       rw [if_pos (show [endc true] <+: s3 from HE3.out)] at e
       simp only [Option.some.injEq, Prod.mk.injEq] at e
       obtain ⟨rfl, rfl⟩ := e
       exact ⟨rfl, rfl, hb⟩
     ·intro e
      rcases Bool.eq_false_or_eq_true bad3 with hb | hb
      ·exact hb
      ·rw [(HS3.out.1 hb).1] at e
       unfold aft at e
       rw [if_pos (show [endc true] <+: s3 from HE3.out)] at e
       cases e
    ·have HE3 := Aside0.mk he
     clear he
     go_wp2_with fail
     refine (take_no b s3 [125] bad3 W14 H14.out HE3.out).mono ?_
     rintro e w15 ⟨rfl, rfl⟩
     go_wp2_with fail
     refine (need_any b s3 [44] bad3 w15 H14.out).mono ?_
     rintro e w16 ⟨s4, bad4, rfl, h16, g16, hl4, hy4, hn4⟩
     have H16 := Aside0.mk h16
     have BK416 := Aside0.mk (gb_blk HBK414.out g16 ne4)
     have BK616 := Aside0.mk (gb_blk HBK614.out g16 ne6)
     have HL16 := Aside0.mk (R_gb HL14.out g16 (by omega))
     have HK16 := Aside0.mk (R_gb HK14.out g16 (by omega))
     have GB16 := Aside0.mk (GB14.out.trans g16)
     have hz16 : w.heap.size + 2 ≤ w16.heap.size := Nat.le_trans hz14 g16.size
     have hsh : bad4 = false → s4.length < s.length := fun e => by
      by_cases hc : [44] <+: s3
      ·have h1 := hc.length_le
       obtain ⟨rfl, _⟩ := hy4 hc
       rw [List.length_drop]
       simp only [List.length_cons, List.length_nil] at h1 ⊢
       omega
      ·rw [hn4 hc] at e; cases e
     have HS4 := Aside0.mk (show RowS w b N k true R0 w16 (ls ++ [x]) ks2 s4 bad4 d3 d4 k2 by
      refine ⟨?_, ?_, by omega, by have := HS.out.2.2.2; omega⟩
      ·intro e
       have hlt := hsh e
       by_cases hc : [44] <+: s3
       ·obtain ⟨rfl, rfl⟩ := hy4 hc
        obtain ⟨hr, hlen⟩ := HS3.out.1 e
        refine ⟨?_, by omega, by rw [List.length_append, List.length_cons, List.length_nil]; omega, by omega⟩
        rw [hr]; unfold aft
        rw [if_neg (show ¬ [endc true] <+: s3 from HE3.out), if_pos hc]; rfl
       ·rw [hn4 hc] at e; cases e
      ·intro e
       by_cases hc : [44] <+: s3
       ·obtain ⟨rfl, rfl⟩ := hy4 hc
        exact HS3.out.2 e
       ·rcases Bool.eq_false_or_eq_true bad3 with hb | hb
        ·exact HS3.out.2 hb
        ·rw [(HS3.out.1 hb).1]; unfold aft
         rw [if_neg (show ¬ [endc true] <+: s3 from HE3.out), if_neg hc])
     have HM := Aside0.mk (show RM b w16 < RM b wr by
      rw [RM_false H3.out]
      rcases Bool.eq_false_or_eq_true bad4 with hb | hb
      ·rw [RM_true (hb ▸ H16.out)]; omega
      ·rw [RM_false (hb ▸ H16.out)]; have := hsh hb; omega)
     clear h16 g16 hy4 hn4 hsh
     go_wp2
     go_roundw
     case rel => exact ⟨ls ++ [x], ks2, s4, bad4, d3, d4, k2, HS4, H16, GB16, BK416, BK616, HL16, HK16, hz16⟩
     case measure => exact HM.out

end Go.Proofs.YtifejhbochkifaaGreatDoor.X
