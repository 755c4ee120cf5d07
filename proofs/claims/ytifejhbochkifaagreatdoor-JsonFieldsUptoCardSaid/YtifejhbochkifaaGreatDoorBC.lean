import Derived.Test.YtifejhbochkifaaGreatDoorHNum
import Derived.Test.YtifejhbochkifaaGreatDoorBB
import Derived.Test.YtifejhbochkifaaGreatDoorBD
/-! HRowO -/
namespace Go.Proofs.YtifejhbochkifaaGreatDoor.X
open Go.RowKit Go.Proofs.YtifejhbochkifaaGreatDoorW.PrintWords Go.Proofs.YtifejhbochkifaaGreatDoorW.PrintLast Go.Proofs.YtifejhbochkifaaGreatDoorW.PrintMore Go.Proofs.YtifejhbochkifaaGreatDoor.Spec
set_option linter.unusedVariables false
set_option linter.unusedSimpArgs false
--LEM
def VC (k : Nat) : Prop := ∀ (b : Nat) (s : List UInt8) (bad : Bool) (w w0 : World), Rs w b s bad → GOK w0 → Below w0.heap.size w0 w → w0.heap.size ≤ b → s.length ≤ 1000000 → 4 * s.length + 4 ≤ k →
  Calls Tryz.prog 23 #[.pointer (some ⟨b, 0, none⟩)] w (VOut w b s.length (if bad = true then none else readV k s))
def RC (k : Nat) (obj : Bool) : Prop := ∀ (b : Nat) (s : List UInt8) (w w0 : World), Rs w b s false → GOK w0 → Below w0.heap.size w0 w → w0.heap.size ≤ b → s.length ≤ 1000000 → 4 * s.length + 7 ≤ k →
  Calls Tryz.prog 41 #[.pointer (some ⟨b, 0, none⟩), .agg #[.int .i64 (kindc obj), .int .i64 0, .string ⟨#[]⟩, .slice none 0 0, .slice none 0 0], .string (ba [endc obj])] w (VOut w b s.length (readRow k obj s))
theorem gb_blk {w w' : World} {g b T : Nat} {cs : Array Value} (h : w.heap[g]? = some (.cells cs T (0, 0))) (hg : w.grownBy w' (some b)) (hn : g ≠ b) : w'.heap[g]? = some (.cells cs T (0, 0)) :=
 (hg.block g (blk_lt h) (fun e => by injection e with e; exact hn e)).trans h
theorem R_fresh {α : Type} {d : Kd α} {e : Nat} {w : World} {base : Nat} {ok : Nat → Prop} {v : Value} {xs : List α} (h : d.R e w base ok v xs) {k : Nat} (hk : w.heap.size ≤ k) : some k ≠ v.ownBlock := by
 intro he
 obtain ⟨inner, ho⟩ := Kd.R_own h
 have := own_lt ho k he.symm
 omega
theorem R_set5 {α : Type} {d : Kd α} {e g B B' : Nat} {w : World} {ok : Nat → Prop} {v : Value} {xs : List α} (h : d.R e w B ok v xs) (hok : ∀ k, ok k → B ≤ k) (hg : g < B) (hB : B' ≤ B) (u0 u1 u2 u3 u4 : Value) :
  d.R e (((((w.setCell ⟨g, 0, none⟩ u0).setCell ⟨g, 1, none⟩ u1).setCell ⟨g, 2, none⟩ u2).setCell ⟨g, 3, none⟩ u3).setCell ⟨g, 4, none⟩ u4) B' (fun k => B' ≤ k) v xs :=
 have hn : ∀ k, ok k → k ≠ g := fun k hk e => by have := hok k hk; omega
 Kd.R_mono (Kd.R_lower (Kd.R_far (p := ⟨g, 4, none⟩) (Kd.R_far (p := ⟨g, 3, none⟩) (Kd.R_far (p := ⟨g, 2, none⟩) (Kd.R_far (p := ⟨g, 1, none⟩) (Kd.R_far (p := ⟨g, 0, none⟩) h hn u0) hn u1) hn u2) hn u3) hn u4) hB) (fun k hk => Nat.le_trans hB (hok k hk))
def RM (b : Nat) (w : World) : Nat := match w.cell? ⟨b, 1, none⟩ with
  | some (.bool true) => 0
  | _ => match w.cell? ⟨b, 0, none⟩ with | some (.string s) => s.size + 1 | _ => 0
theorem RM_true {b : Nat} {w : World} {s : List UInt8} (h : Rs w b s true) : RM b w = 0 := by unfold RM; rw [h.c1]
theorem RM_false {b : Nat} {w : World} {s : List UInt8} (h : Rs w b s false) : RM b w = s.length + 1 := by unfold RM; rw [h.c1, h.c0]; simp
/-- behind a value -/
def aft (k : Nat) (obj : Bool) (ls : List V) (ks : List ByteArray) (r : List UInt8) : Option (V × List UInt8) :=
  if [endc obj] <+: r then some (⟨kindc obj, 0, ⟨#[]⟩, ls, ks⟩, r.drop 1) else if [44] <+: r then items k obj ls ks (r.drop 1) else none
theorem item_some {k : Nat} {obj : Bool} {ls : List V} {ks : List ByteArray} {s r : List UInt8} {x : V} (h : readV k s = some (x, r)) : item (k + 1) obj ls ks s = aft k obj (ls ++ [x]) ks r := by rw [item, h]; rfl
theorem item_none {k : Nat} {obj : Bool} {ls : List V} {ks : List ByteArray} {s : List UInt8} (h : readV k s = none) : item (k + 1) obj ls ks s = none := by rw [item, h]
theorem items_key {k : Nat} {ls : List V} {ks : List ByteArray} {s t r : List UInt8} (h : readQ s = some (t, r)) (hc : [58] <+: r) : items (k + 1) true ls ks s = item k true ls (ks ++ [ba t]) (r.drop 1) := by
 rw [items, h]; show (if [58] <+: r then _ else _) = _; rw [if_pos hc]
theorem items_nocol {k : Nat} {ls : List V} {ks : List ByteArray} {s t r : List UInt8} (h : readQ s = some (t, r)) (hc : ¬ [58] <+: r) : items (k + 1) true ls ks s = none := by
 rw [items, h]; show (if [58] <+: r then _ else _) = _; rw [if_neg hc]
theorem items_nokey {k : Nat} {ls : List V} {ks : List ByteArray} {s : List UInt8} (h : readQ s = none) : items (k + 1) true ls ks s = none := by rw [items, h]
theorem need_any (b : Nat) (s p : List UInt8) (bad : Bool) (w : World) (h : Rs w b s bad) :
  Calls Tryz.prog 60 #[.pointer (some ⟨b, 0, none⟩), .string (ba p)] w fun e w' => ∃ (s' : List UInt8) (bad' : Bool), e = .returned (.tuple #[]) ∧ Rs w' b s' bad' ∧ w.grownBy w' (some b) ∧ s'.length ≤ s.length ∧ (p <+: s → s' = s.drop p.length ∧ bad' = bad) ∧ (¬ p <+: s → bad' = true) := by
 by_cases hp : p <+: s
 ·exact (need_yes b s p bad w h hp).mono fun e w' ⟨h1, h2, h3⟩ => ⟨_, _, h1, h2, h3, by simp, fun _ => ⟨rfl, rfl⟩, fun hn => absurd hp hn⟩
 ·exact (need_no b s p bad w h hp).mono fun e w' ⟨h1, h2, h3⟩ => ⟨_, _, h1, h2, h3, Nat.le_refl _, fun hy => absurd hy hp, fun _ => rfl⟩
theorem Rs.far {w : World} {b : Nat} {s : List UInt8} {bad : Bool} (h : Rs w b s bad) {g j : Nat} (hn : b ≠ g) (v : Value) : Rs (w.setCell ⟨g, j, none⟩ v) b s bad := blk_far (p := ⟨g, j, none⟩) h hn v
theorem R_gb {α : Type} {d : Kd α} {e B b : Nat} {w w' : World} {P : Nat → Prop} {v : Value} {xs : List α} (h : d.R e w B (fun k_ => B ≤ k_ ∧ P k_) v xs) (hg : w.grownBy w' (some b)) (hb : b < B) : d.R e w' B (fun k_ => B ≤ k_ ∧ P k_) v xs :=
 Kd.R_grown h hg (fun k_ hk_ e_ => by injection e_ with e_; have := hk_.1; omega)
theorem R_fars {α : Type} {d : Kd α} {e B g j : Nat} {w : World} {P : Nat → Prop} {v : Value} {xs : List α} (h : d.R e w B (fun k_ => B ≤ k_ ∧ P k_) v xs) (hg : g < B) (u : Value) : d.R e (w.setCell ⟨g, j, none⟩ u) B (fun k_ => B ≤ k_ ∧ P k_) v xs :=
 Kd.R_far (p := ⟨g, j, none⟩) h (fun k_ hk_ e_ => by have := hk_.1; simp only [] at e_; omega) u
/-- What the loop holds. -/
def RowS (w : World) (b N k : Nat) (obj : Bool) (R0 : Option (V × List UInt8)) (wr : World) (ls : List V) (ks : List ByteArray) (s : List UInt8) (bad : Bool) (c3 c4 : Value) (kk : Nat) : Prop :=
  (bad = false → R0 = items kk obj ls ks s ∧ 4 * s.length + 6 ≤ kk ∧ ls.length + s.length ≤ N ∧ ks.length + s.length ≤ N) ∧ (bad = true → R0 = none) ∧ kk ≤ k ∧ s.length ≤ N
--LEM
set_option maxHeartbeats 16000000 in
set_option maxRecDepth 100000 in
theorem rowO_calls (k : Nat) (hval : ∀ j, j < k → VC j) : RC k true := by
 intro b s0 w w0 h hG hB hb0 hs hk
 obtain ⟨N, hN⟩ : ∃ N, s0.length = N := ⟨_, rfl⟩
 have hbw := h.lt
 show Calls _ _ #[.pointer (some ⟨b, 0, none⟩), .agg #[.int .i64 6, .int .i64 0, .string ⟨#[]⟩, .slice none 0 0, .slice none 0 0], .string (ba [125])] w _
 obtain ⟨k, rfl⟩ : ∃ k', k = k' + 1 := ⟨k - 1, by omega⟩
 obtain ⟨R0, hR0⟩ : ∃ R0, readRow (k + 1) true s0 = R0 := ⟨_, rfl⟩
 rw [hR0]
 have HVAL := Aside0.mk hval
 have HG := Aside0.mk hG
 have HB := Aside0.mk hB
 have H := Aside0.mk h
 have e1 : ((w.alloc (.cells #[.int .i64 6, .int .i64 0, .string ⟨#[]⟩, .slice none 0 0, .slice none 0 0] 25)).alloc (.cells #[.int .i64 0, .int .i64 0, .string ⟨#[]⟩, .slice none 0 0, .slice none 0 0] 25)).heap.size = w.heap.size + 2 := by simp
 have e2 := blk_alloc (blk_new w (.cells #[.int .i64 6, .int .i64 0, .string ⟨#[]⟩, .slice none 0 0, .slice none 0 0] 25)) (.cells #[.int .i64 0, .int .i64 0, .string ⟨#[]⟩, .slice none 0 0, .slice none 0 0] 25)
 have e3 := blk_new (w.alloc (.cells #[.int .i64 6, .int .i64 0, .string ⟨#[]⟩, .slice none 0 0, .slice none 0 0] 25)) (.cells #[.int .i64 0, .int .i64 0, .string ⟨#[]⟩, .slice none 0 0, .slice none 0 0] 25)
 rw [show (w.alloc (.cells #[.int .i64 6, .int .i64 0, .string ⟨#[]⟩, .slice none 0 0, .slice none 0 0] 25)).heap.size = w.heap.size + 1 by simp] at e3
 have e4 := (h.alloc (.cells #[.int .i64 6, .int .i64 0, .string ⟨#[]⟩, .slice none 0 0, .slice none 0 0] 25)).alloc (.cells #[.int .i64 0, .int .i64 0, .string ⟨#[]⟩, .slice none 0 0, .slice none 0 0] 25)
 have e5 := below_alloc (below_alloc (Below.refl _ w) (.cells #[.int .i64 6, .int .i64 0, .string ⟨#[]⟩, .slice none 0 0, .slice none 0 0] 25)) (.cells #[.int .i64 0, .int .i64 0, .string ⟨#[]⟩, .slice none 0 0, .slice none 0 0] 25)
 obtain ⟨W2, hW2⟩ : ∃ W, (w.alloc (.cells #[.int .i64 6, .int .i64 0, .string ⟨#[]⟩, .slice none 0 0, .slice none 0 0] 25)).alloc (.cells #[.int .i64 0, .int .i64 0, .string ⟨#[]⟩, .slice none 0 0, .slice none 0 0] 25) = W := ⟨_, rfl⟩
 rw [hW2] at e1 e2 e3 e4 e5
 have HW2 := Aside0.mk hW2
 have SZ2 := Aside0.mk e1
 have BK42 := Aside0.mk e2
 have BK62 := Aside0.mk e3
 have H2 := Aside0.mk e4
 have HB2 := Aside0.mk e5
 have ne4 : w.heap.size ≠ b := by omega
 have ne6 : w.heap.size + 1 ≠ b := by omega
 have HN := Aside0.mk hN
 have HR0 := Aside0.mk hR0
 have hs' : N ≤ 1000000 := by omega
 have hk' : 4 * N + 6 ≤ k := by omega
 clear h hG hB hval hs hk hN hR0 hW2 e1 e2 e3 e4 e5
 by_cases hend : [125] <+: s0
 ·have HE := Aside0.mk hend
  have HR := Aside0.mk (show R0 = some (⟨6, 0, ⟨#[]⟩, [], []⟩, s0.drop 1) by rw [← HR0.out, readRow]; show (if [125] <+: s0 then _ else _) = _; rw [if_pos hend]; rfl)
  clear hend
  go_enter Tryz.func41, Tryz.ntmps41
  go_wp2_with fail
  rw [HW2.out]
  refine (take_yes b s0 [125] false W2 H2.out HE.out).mono ?_
  rintro e w3 ⟨rfl, h3, g3⟩
  have H3 := Aside0.mk h3
  have BK43 := gb_blk BK42.out g3 ne4
  have BK63 := gb_blk BK62.out g3 ne6
  have GB3 := Aside0.mk ((grown_of_below HB2.out (some b)).trans g3)
  have BK63a := Aside0.mk BK63
  have k0 := (blk_cell BK43 0).trans (rfl : _ = some (Value.int .i64 6))
  have k1 := (blk_cell BK43 1).trans (rfl : _ = some (Value.int .i64 0))
  have k2 := (blk_cell BK43 2).trans (rfl : _ = some (Value.string ⟨#[]⟩))
  have k3 := (blk_cell BK43 3).trans (rfl : _ = some (Value.slice none 0 0))
  have k4 := (blk_cell BK43 4).trans (rfl : _ = some (Value.slice none 0 0))
  have m0 := (blk_cell BK63 0).trans (rfl : _ = some (Value.int .i64 0))
  have m1 := (blk_cell BK63 1).trans (rfl : _ = some (Value.int .i64 0))
  have m2 := (blk_cell BK63 2).trans (rfl : _ = some (Value.string ⟨#[]⟩))
  have m3 := (blk_cell BK63 3).trans (rfl : _ = some (Value.slice none 0 0))
  have m4 := (blk_cell BK63 4).trans (rfl : _ = some (Value.slice none 0 0))
  have i0 := blk_frozen BK63 0
  have i1 := blk_frozen BK63 1
  have i2 := blk_frozen BK63 2
  have i3 := blk_frozen BK63 3
  have i4 := blk_frozen BK63 4
  clear h3 g3 BK43 BK63
  go_wp2
  refine bodyPost_ret (results_cell_row rfl _ _ (w.heap.size + 1) 25 #[.int .i64 6, .int .i64 0, .string ⟨#[]⟩, .slice none 0 0, .slice none 0 0] (0, 0) _ rfl (fill5 BK63a.out) Tryz.underlying25 rfl (by kernel_rfl)) rfl ?_
  refine ⟨⟨6, 0, ⟨#[]⟩, [], []⟩, s0.drop 1, false, _, _, rfl, Kd.R_nil _ _ _ _ _, Kd.R_nil _ _ _ _ _, far5 H3.out (Ne.symm ne6), gb_new5 GB3.out (by omega), by simp, ?_, ?_⟩
  ·intro y r e
   rw [HR.out] at e
   simp only [Option.some.injEq, Prod.mk.injEq] at e
   obtain ⟨rfl, rfl⟩ := e
   exact ⟨rfl, rfl, rfl⟩
  ·intro e; rw [HR.out] at e; cases e
 ·have HE := Aside0.mk hend
  have HR := Aside0.mk (show R0 = items k true [] [] s0 by rw [← HR0.out, readRow]; show (if [125] <+: s0 then _ else _) = _; rw [if_neg hend])
  clear hend
  go_enter Tryz.func41, Tryz.ntmps41
  go_wp2_with fail
  rw [HW2.out]
  refine (take_no b s0 [125] false W2 H2.out HE.out).mono ?_
  rintro e w3 ⟨rfl, rfl⟩
  go_wp2
  go_loopw [] (fun wr => ∃ (ls : List V) (ks : List ByteArray) (s : List UInt8) (bad : Bool) (c3 c4 : Value) (kk : Nat), Aside0 (RowS w b N k true R0 wr ls ks s bad c3 c4 kk) ∧ Aside0 (Rs wr b s bad) ∧ Aside0 (w.grownBy wr (some b)) ∧ Aside0 (wr.heap[w.heap.size]? = some (.cells #[.int .i64 6, .int .i64 0, .string ⟨#[]⟩, c3, c4] 25 (0, 0))) ∧ Aside0 (wr.heap[w.heap.size + 1]? = some (.cells #[.int .i64 0, .int .i64 0, .string ⟨#[]⟩, .slice none 0 0, .slice none 0 0] 25 (0, 0))) ∧ Aside0 (Kd.R k25 25 wr (w.heap.size + 2) (fun k_ => w.heap.size + 2 ≤ k_ ∧ some k_ ≠ c4.ownBlock) c3 ls) ∧ Aside0 (Kd.R Kd.string 9 wr (w.heap.size + 2) (fun k_ => w.heap.size + 2 ≤ k_ ∧ some k_ ≠ c3.ownBlock) c4 ks) ∧ w.heap.size + 2 ≤ wr.heap.size) (fun wr => RM b wr)
  case atStart => exact ⟨[], [], s0, false, .slice none 0 0, .slice none 0 0, k, ⟨fun _ => ⟨HR.out, by have := HN.out; omega, by have := HN.out; simp only [List.length_nil]; omega, by have := HN.out; simp only [List.length_nil]; omega⟩, fun e => (by cases e), Nat.le_refl _, by have := HN.out; omega⟩, H2, ⟨grown_of_below HB2.out _⟩, BK42, BK62, ⟨Kd.R_nil _ _ _ _ _⟩, ⟨Kd.R_nil _ _ _ _ _⟩, by have := SZ2.out; omega⟩
  case round =>
   obtain ⟨ls, ks, s, bad, c3, c4, kk, HS, H3, GB, BK4, BK6, HL, HK, hwr⟩ := hrel
   clear HR H2 BK42 BK62 HB2 SZ2 HW2 HE
   have c1 := H3.out.c1
   cases bad with
   | true =>
    have HR := Aside0.mk (HS.out.2.1 rfl)
    have k0 := (blk_cell BK4.out 0).trans (rfl : _ = some (Value.int .i64 6))
    have k1 := (blk_cell BK4.out 1).trans (rfl : _ = some (Value.int .i64 0))
    have k2 := (blk_cell BK4.out 2).trans (rfl : _ = some (Value.string ⟨#[]⟩))
    have k3 := (blk_cell BK4.out 3).trans (rfl : _ = some c3)
    have k4 := (blk_cell BK4.out 4).trans (rfl : _ = some c4)
    have m0 := (blk_cell BK6.out 0).trans (rfl : _ = some (Value.int .i64 0))
    have m1 := (blk_cell BK6.out 1).trans (rfl : _ = some (Value.int .i64 0))
    have m2 := (blk_cell BK6.out 2).trans (rfl : _ = some (Value.string ⟨#[]⟩))
    have m3 := (blk_cell BK6.out 3).trans (rfl : _ = some (Value.slice none 0 0))
    have m4 := (blk_cell BK6.out 4).trans (rfl : _ = some (Value.slice none 0 0))
    have i0 := blk_frozen BK6.out 0
    have i1 := blk_frozen BK6.out 1
    have i2 := blk_frozen BK6.out 2
    have i3 := blk_frozen BK6.out 3
    have i4 := blk_frozen BK6.out 4
    obtain ⟨A3, q3, rfl⟩ := Kd.R_slice HL.out
    obtain ⟨A4, q4, rfl⟩ := Kd.R_slice HK.out
    go_wp2
    refine bodyPost_ret (results_cell_row rfl _ _ (w.heap.size + 1) 25 #[.int .i64 6, .int .i64 0, .string ⟨#[]⟩, .slice A3 ls.length q3, .slice A4 ks.length q4] (0, 0) _ rfl (fill5 BK6.out) Tryz.underlying25 rfl (by kernel_rfl)) rfl ?_
    refine ⟨⟨6, 0, ⟨#[]⟩, ls, ks⟩, s, true, _, _, rfl, R_set5 HL.out (fun _ hk_ => hk_.1) (by omega) (by omega) _ _ _ _ _, R_set5 HK.out (fun _ hk_ => hk_.1) (by omega) (by omega) _ _ _ _ _, far5 H3.out (Ne.symm ne6), gb_new5 GB.out (by omega), by have := HS.out.2.2.2; have := HN.out; omega, ?_, fun _ => rfl⟩
    intro y r e
    rw [HR.out] at e
    cases e
   | false =>
    obtain ⟨hp1, hp2, hpl, hpk⟩ := HS.out.1 rfl
    have HKK := Aside0.mk (show kk ≤ k from HS.out.2.2.1)
    obtain ⟨k2, rfl⟩ : ∃ k2, kk = k2 + 1 + 1 := ⟨kk - 2, by omega⟩
    have hkk := HKK.out
    have k0 := (blk_cell BK4.out 0).trans (rfl : _ = some (Value.int .i64 6))
    have HTX := Aside0.mk (text_calls b s wr.drew (H3.out.below (below_drew (Below.refl _ wr))) (by omega))
    have HP := Aside0.mk hp1
    clear hp1
    go_wp2
    refine start_ (n := 8) (S := fun w' => w'.cell? ⟨w.heap.size, 4, none⟩ = some c4) (ds := [7]) #[false, false, false, false, false, false, false, false] (by kernel_rfl) rfl rfl (((blk_cell BK4.out 4).trans rfl)) (fun hHeld => ?_)
    refine pure_ (i := 0) (N := some 19) (v := ?_) (a' := ?_) #[true, false, false, false, false, false, false, false] rfl rfl (by kernel_rfl) (fun _ _ _ h => h) (Or.inl ⟨by rfl, ?_⟩) ?_ ?_
    rotate_left
    ·intro w'
     go_simp
     with_reducible rfl
    rotate_left
    ·simp only [Act.put, List.setIfInBounds_toArray, List.set_cons_zero, List.set_cons_succ, i64_w, i32_w]
     rfl
    refine pure_ (i := 2) (N := some 21) (v := ?_) (a' := ?_) #[true, false, true, false, false, false, false, false] rfl rfl (by kernel_rfl) (fun _ _ _ h => h) (Or.inl ⟨by rfl, ?_⟩) ?_ ?_
    rotate_left
    ·intro w'
     go_simp
     with_reducible rfl
    rotate_left
    ·simp only [Act.put, List.setIfInBounds_toArray, List.set_cons_zero, List.set_cons_succ, i64_w, i32_w]
     rfl
    refine take_ (i := 1) (N := some 20) (v := ?_) (a' := ?_) #[true, true, true, false, false, false, false, false] rfl rfl (by kernel_rfl) (fun _ _ _ h => h) (Or.inl ⟨by rfl, ?_⟩) hHeld ?_ ?_
    rotate_left
    ·intro w' s0
     go_simp
     with_reducible rfl
    rotate_left
    ·simp only [Act.put, List.setIfInBounds_toArray, List.set_cons_zero, List.set_cons_succ, i64_w, i32_w]
     rfl
    refine one_ (i := 3) (N := some 22) #[true, true, true, true, false, false, false, false] rfl rfl (by kernel_rfl) (by decide) (fun K hK => ?_)
    refine goes_ Tryz.func40 (by kernel_rfl) rfl #[.pointer (some ⟨b, 0, none⟩)] (by rfl) rfl rfl (by simp only [List.map_toArray, List.map_cons, List.map_nil]; rfl) ?_
    with_reducible refine (HTX.out).mono ?_
    rintro e w8 ⟨t, s1, bad1, rfl, h8, g8, hl8, ht8, hs8, hn8⟩
    refine ⟨_, rfl, ?_⟩
    have H8 := Aside0.mk h8
    have G8 := Aside0.mk ((grown_of_below (below_drew (Below.refl _ wr)) (some b)).trans g8)
    have HX8 := Aside0.mk (And.intro hs8 hn8)
    clear h8 g8 hs8 hn8
    have BK48 := Aside0.mk (gb_blk BK4.out G8.out ne4)
    have BK68 := Aside0.mk (gb_blk BK6.out G8.out ne6)
    have HL8 := Aside0.mk (Kd.R_grown HL.out G8.out (fun k_ hk_ => by intro e_; injection e_ with e_; have := hk_.1; omega))
    have HK8 := Aside0.mk (Kd.R_grown HK.out G8.out (fun k_ hk_ => by intro e_; injection e_ with e_; have := hk_.1; omega))
    have hz8 : w.heap.size + 2 ≤ w8.heap.size := Nat.le_trans hwr G8.out.size
    clear BK4 BK6 HL HK
    refine hK.out _ _ (((blk_cell BK48.out 4).trans rfl)) (fun hHeld => ?_)
    clear hK K
    refine norm_ (a' := ?_) ?_ ?_
    rotate_left
    ·show Act.put _ (some 22) _ = _
     simp only [Act.put, List.setIfInBounds_toArray, List.set_cons_zero, List.set_cons_succ, i64_w, i32_w]
     rfl
    refine one_ (i := 4) (N := some 23) #[true, true, true, true, true, false, false, false] rfl rfl (by kernel_rfl) (by decide) (fun K hK => ?_)
    refine value_ (w1 := ?_) (v := ?_) (by rfl) rfl ?_ ?_
    rotate_left 2
    ·go_simp
     constructor
     ·rfl
     ·rfl
    refine hK.out _ _ (((blk_cell (blk_alloc BK48.out _) 4).trans rfl)) (fun hHeld => ?_)
    clear hK K
    refine norm_ (a' := ?_) ?_ ?_
    rotate_left
    ·show Act.put _ (some 23) _ = _
     simp only [Act.put, List.setIfInBounds_toArray, List.set_cons_zero, List.set_cons_succ, i64_w, i32_w]
     rfl
    refine one_ (i := 5) (N := some 24) #[true, true, true, true, true, true, false, false] rfl rfl (by kernel_rfl) (by decide) (fun K hK => ?_)
    refine Kd.R_append_step Kd.string (w0 := w8) (w.heap.size + 2) (by rfl) (.tmp 20) (.tmp 23) 23 9 (.string ⟨#[]⟩) 16 rfl Tryz.underlying23 info9 rfl (by decide) (by omega) c4 ks (ba t) [.string (ba t)] (fun k_ => w.heap.size + 2 ≤ k_ ∧ some k_ ≠ c3.ownBlock) (fun _ => False) rfl rfl ?aP (fun _ hk => hk.elim) ?aF ?aO ?aB ?aS ?aL ?_
    (case aP => exact rfl)
    (case aB => exact Below.refl _ _)
    (case aF => exact (fun k_ hk_ => ⟨by omega, R_fresh HL8.out hk_⟩))
    (case aO => exact HK8.out)
    (case aS => omega)
    (case aL => omega)
    intro v1 w9 ho hb hg hat
    obtain ⟨A1, q1, e1_⟩ := Kd.R_slice ho
    generalize (ks ++ [ba t]).length = n1 at e1_
    subst e1_
    have HK9 := Aside0.mk ho
    have HL9 := Aside0.mk (Kd.R_after (ok := fun k_ => w.heap.size + 2 ≤ k_) HL8.out hg hat)
    have BK49 := Aside0.mk ((hb.block w.heap.size (by omega)).trans BK48.out)
    have BK69 := Aside0.mk ((hb.block (w.heap.size + 1) (by omega)).trans BK68.out)
    have H9 := Aside0.mk (H8.out.belowB hb (by omega))
    have GB9 := Aside0.mk (gb_below (GB.out.trans G8.out) hb (by omega) hz8)
    have hz9 : w.heap.size + 2 ≤ w9.heap.size := Nat.le_trans hz8 hb.size
    have f4_ := blk_frozen BK49.out 4
    clear ho hb hg hat HL8 HK8 BK48 BK68 H8
    refine hK.out _ _ (((blk_cell BK49.out 4).trans rfl)) (fun hHeld => ?_)
    clear hK K
    refine norm_ (a' := ?_) ?_ ?_
    rotate_left
    ·show Act.put _ (some 24) _ = _
     simp only [Act.put, List.setIfInBounds_toArray, List.set_cons_zero, List.set_cons_succ, i64_w, i32_w]
     rfl
    refine pure_ (i := 6) (N := some 25) (v := ?_) (a' := ?_) #[true, true, true, true, true, true, true, false] rfl rfl (by kernel_rfl) (fun _ _ _ h => h) (Or.inl ⟨by rfl, ?_⟩) ?_ ?_
    rotate_left
    ·intro w'
     go_simp
     with_reducible rfl
    rotate_left
    ·simp only [Act.put, List.setIfInBounds_toArray, List.set_cons_zero, List.set_cons_succ, i64_w, i32_w]
     rfl
    refine last_ (i := 7) (N := none) #[true, true, true, true, true, true, true, true] rfl rfl (by kernel_rfl) (by decide) (fun K hK => ?_)
    refine skip_ (w1 := ?_) (by rfl) rfl ?_ ?_
    rotate_left
    ·go_simp
     rfl
    refine hK.out _ _ ?_
    clear hK K
    refine done_ (by kernel_rfl) ?_

    have bk410 : (w9.setCell ⟨w.heap.size, 4, none⟩ (.slice A1 n1 q1)).heap[w.heap.size]? = some (.cells #[.int .i64 6, .int .i64 0, .string ⟨#[]⟩, c3, .slice A1 n1 q1] 25 (0, 0)) := blk_set BK49.out 4 _
    have bk610 := blk_far (p := ⟨w.heap.size, 4, none⟩) BK69.out (show w.heap.size + 1 ≠ w.heap.size by omega) (.slice A1 n1 q1)
    have h10 := H9.out.far (j := 4) (Ne.symm ne4) (.slice A1 n1 q1)
    have hl10 := R_fars (g := w.heap.size) (j := 4) HL9.out (by omega) (.slice A1 n1 q1)
    have hk10 := R_fars (g := w.heap.size) (j := 4) HK9.out (by omega) (.slice A1 n1 q1)
    have gb10 := gb_new GB9.out (Nat.le_refl _) 4 (.slice A1 n1 q1)
    have hz10 : w.heap.size + 2 ≤ (w9.setCell ⟨w.heap.size, 4, none⟩ (.slice A1 n1 q1)).heap.size := by simpa using hz9
    generalize w9.setCell ⟨w.heap.size, 4, none⟩ (.slice A1 n1 q1) = W10 at bk410 bk610 h10 hl10 hk10 gb10 hz10 ⊢
    obtain ⟨d4, hd4⟩ : ∃ d4, Value.slice A1 n1 q1 = d4 := ⟨_, rfl⟩
    rw [hd4] at bk410 hl10 hk10
    have HX10 := Aside0.mk (show (∀ t' r, readQ s = some (t', r) → t = t' ∧ s1 = r ∧ bad1 = false) ∧ (readQ s = none → bad1 = true) from HX8.out)
    have HBK410 := Aside0.mk bk410
    have HBK610 := Aside0.mk bk610
    have H10 := Aside0.mk h10
    have HL10 := Aside0.mk hl10
    have HK10 := Aside0.mk hk10
    have GB10 := Aside0.mk gb10
    clear bk410 bk610 h10 hl10 hk10 gb10 hd4 hHeld BK49 BK69 H9 HL9 HK9 GB9 f4_ HX8 k0 c1 HTX
    go_wp2_with fail
    refine (need_any b s1 [58] bad1 W10 H10.out).mono ?_
    rintro e w11 ⟨s2, bad2, rfl, h11, g11, hl2, hy2, hn2⟩
    have H11 := Aside0.mk h11
    have BK411 := Aside0.mk (gb_blk HBK410.out g11 ne4)
    have BK611 := Aside0.mk (gb_blk HBK610.out g11 ne6)
    have HL11 := Aside0.mk (R_gb HL10.out g11 (by omega))
    have HK11 := Aside0.mk (R_gb HK10.out g11 (by omega))
    have GB11 := Aside0.mk (GB10.out.trans g11)
    have hz11 : w.heap.size + 2 ≤ w11.heap.size := Nat.le_trans hz10 g11.size
    have hls2 : s2.length ≤ s.length := by omega
    obtain ⟨ks2, hks2⟩ : ∃ ks2, ks ++ [ba t] = ks2 := ⟨_, rfl⟩
    have HS2 := Aside0.mk (show (bad2 = false → R0 = item (k2 + 1) true ls ks2 s2 ∧ ks2.length + s2.length ≤ N) ∧ (bad2 = true → R0 = none) by
     rw [← hks2]
     cases hq : readQ s with
     | none =>
      have hb1 := HX10.out.2 hq
      have hb2 : bad2 = true := by
       by_cases hc : [58] <+: s1
       ·rw [(hy2 hc).2, hb1]
       ·exact hn2 hc
      exact ⟨fun e => (by rw [hb2] at e; cases e), fun _ => (by rw [HP.out, items_nokey hq])⟩
     | some p =>
      obtain ⟨t', r'⟩ := p
      obtain ⟨rfl, rfl, rfl⟩ := HX10.out.1 t' r' hq
      have hlq := readQ_len hq
      by_cases hc : [58] <+: s1
      ·obtain ⟨rfl, rfl⟩ := hy2 hc
       refine ⟨fun _ => ⟨by rw [HP.out, items_key hq hc]; rfl, ?_⟩, fun e => (by cases e)⟩
       rw [List.length_append]
       show ks.length + 1 + _ ≤ N
       omega
      ·exact ⟨fun e => (by rw [hn2 hc] at e; cases e), fun _ => (by rw [HP.out, items_nocol hq hc])⟩)
    rw [hks2] at HK11
    clear h11 g11 hks2 HBK410 HBK610 H10 HL10 HK10 GB10 hy2 hn2 HX10 HP hz10 hz9 hz8 G8

    have HVL := Aside0.mk (HVAL.out k2 (by omega) b s2 bad2 w11.drew w0 (H11.out.below (below_drew (Below.refl _ w11))) HG.out (below_drew (HB.out.grown GB11.out HB.out.size (fun k e => by injection e with e; omega))) hb0 (by omega) (by omega))
    go_wp2
    refine start_ (n := 8) (S := fun w' => w'.cell? ⟨w.heap.size, 3, none⟩ = some c3) (ds := [7]) #[false, false, false, false, false, false, false, false] (by kernel_rfl) rfl rfl (((blk_cell BK411.out 3).trans rfl)) (fun hHeld => ?_)
    refine pure_ (i := 0) (N := some 28) (v := ?_) (a' := ?_) #[true, false, false, false, false, false, false, false] rfl rfl (by kernel_rfl) (fun _ _ _ h => h) (Or.inl ⟨by rfl, ?_⟩) ?_ ?_
    rotate_left
    ·intro w'
     go_simp
     with_reducible rfl
    rotate_left
    ·simp only [Act.put, List.setIfInBounds_toArray, List.set_cons_zero, List.set_cons_succ, i64_w, i32_w]
     rfl
    refine pure_ (i := 2) (N := some 30) (v := ?_) (a' := ?_) #[true, false, true, false, false, false, false, false] rfl rfl (by kernel_rfl) (fun _ _ _ h => h) (Or.inl ⟨by rfl, ?_⟩) ?_ ?_
    rotate_left
    ·intro w'
     go_simp
     with_reducible rfl
    rotate_left
    ·simp only [Act.put, List.setIfInBounds_toArray, List.set_cons_zero, List.set_cons_succ, i64_w, i32_w]
     rfl
    refine take_ (i := 1) (N := some 29) (v := ?_) (a' := ?_) #[true, true, true, false, false, false, false, false] rfl rfl (by kernel_rfl) (fun _ _ _ h => h) (Or.inl ⟨by rfl, ?_⟩) hHeld ?_ ?_
    rotate_left
    ·intro w' s0
     go_simp
     with_reducible rfl
    rotate_left
    ·simp only [Act.put, List.setIfInBounds_toArray, List.set_cons_zero, List.set_cons_succ, i64_w, i32_w]
     rfl
    refine one_ (i := 3) (N := some 31) #[true, true, true, true, false, false, false, false] rfl rfl (by kernel_rfl) (by decide) (fun K hK => ?_)
    refine goes_ Tryz.func23 (by kernel_rfl) rfl #[.pointer (some ⟨b, 0, none⟩)] (by rfl) rfl rfl (by simp only [List.map_toArray, List.map_cons, List.map_nil]; rfl) ?_
    with_reducible refine (HVL.out).mono ?_
    rintro e w12 ⟨x, s3, bad3, x3, x4, rfl, hx3, hx4, h12, g12, hl12, hs12, hn12⟩
    refine ⟨_, rfl, ?_⟩
    have H12 := Aside0.mk h12
    have G12 := Aside0.mk ((grown_of_below (below_drew (Below.refl _ w11)) (some b)).trans g12)
    have HX12 := Aside0.mk (And.intro hs12 hn12)
    clear h12 g12 hs12 hn12
    have HX3 := Aside0.mk hx3
    have HX4 := Aside0.mk hx4
    clear hx3 hx4
    have BK412 := Aside0.mk (gb_blk BK411.out G12.out ne4)
    have BK612 := Aside0.mk (gb_blk BK611.out G12.out ne6)
    have HL12 := Aside0.mk (Kd.R_grown HL11.out G12.out (fun k_ hk_ => by intro e_; injection e_ with e_; have := hk_.1; omega))
    have HK12 := Aside0.mk (Kd.R_grown HK11.out G12.out (fun k_ hk_ => by intro e_; injection e_ with e_; have := hk_.1; omega))
    have hz12 : w11.heap.size ≤ w12.heap.size := G12.out.size
    have hz12' : w.heap.size + 2 ≤ w12.heap.size := Nat.le_trans hz11 hz12
    refine hK.out _ _ (((blk_cell BK412.out 3).trans rfl)) (fun hHeld => ?_)
    clear hK K
    refine norm_ (a' := ?_) ?_ ?_
    rotate_left
    ·show Act.put _ (some 31) _ = _
     simp only [Act.put, List.setIfInBounds_toArray, List.set_cons_zero, List.set_cons_succ, i64_w, i32_w]
     rfl
    refine one_ (i := 4) (N := some 32) #[true, true, true, true, true, false, false, false] rfl rfl (by kernel_rfl) (by decide) (fun K hK => ?_)
    refine value_ (w1 := ?_) (v := ?_) (by rfl) rfl ?_ ?_
    rotate_left 2
    ·go_simp
     constructor
     ·rfl
     ·rfl
    refine hK.out _ _ (((blk_cell (blk_alloc BK412.out _) 3).trans rfl)) (fun hHeld => ?_)
    clear hK K
    refine norm_ (a' := ?_) ?_ ?_
    rotate_left
    ·show Act.put _ (some 32) _ = _
     simp only [Act.put, List.setIfInBounds_toArray, List.set_cons_zero, List.set_cons_succ, i64_w, i32_w]
     rfl
    refine one_ (i := 5) (N := some 33) #[true, true, true, true, true, true, false, false] rfl rfl (by kernel_rfl) (by decide) (fun K hK => ?_)
    refine Kd.R_append_step k25 (w0 := w12) (w.heap.size + 2) (by rfl) (.tmp 29) (.tmp 32) 22 25 (.agg #[.int .i64 0, .int .i64 0, .string ⟨#[]⟩, .slice none 0 0, .slice none 0 0]) 80 rfl Tryz.underlying22 info25 rfl (by decide) (by omega) c3 ls x [.int .i64 x.f0, .int .i64 x.f1, .string x.f2, x3, x4] (fun k_ => w.heap.size + 2 ≤ k_ ∧ some k_ ≠ d4.ownBlock) (fun k_ => w11.heap.size ≤ k_) rfl rfl ?aP (fun k_ hk_ => ⟨⟨Nat.le_trans hz11 hk_, R_fresh HK11.out hk_⟩, R_fresh HL11.out hk_⟩) ?aF ?aO ?aB ?aS ?aL ?_
    (case aP => exact k25_mkM w12 _ _ x (Kd.R_lower HX3.out (show w.heap.size + 2 ≤ w11.drew.heap.size from hz11)) (Kd.R_lower HX4.out (show w.heap.size + 2 ≤ w11.drew.heap.size from hz11)))
    (case aB => exact Below.refl _ _)
    (case aF => exact (fun k_ hk_ => ⟨by omega, R_fresh HK12.out hk_⟩))
    (case aO => exact HL12.out)
    (case aS => omega)
    (case aL => omega)
    intro v2 w13 ho hb hg hat
    obtain ⟨A2, q2, e2_⟩ := Kd.R_slice ho
    generalize (ls ++ [x]).length = n2 at e2_
    subst e2_
    have HL13 := Aside0.mk ho
    have HK13 := Aside0.mk (Kd.R_after (ok := fun k_ => w.heap.size + 2 ≤ k_) HK12.out hg hat)
    have BK413 := Aside0.mk ((hb.block w.heap.size (by omega)).trans BK412.out)
    have BK613 := Aside0.mk ((hb.block (w.heap.size + 1) (by omega)).trans BK612.out)
    have H13 := Aside0.mk (H12.out.belowB hb (by omega))
    have GB13 := Aside0.mk (gb_below (GB11.out.trans G12.out) hb (by omega) hz12')
    have hz13 : w.heap.size + 2 ≤ w13.heap.size := Nat.le_trans hz12' hb.size
    have f3_ := blk_frozen BK413.out 3
    clear ho hb hg hat HL12 HK12 BK412 BK612 H12
    refine hK.out _ _ (((blk_cell BK413.out 3).trans rfl)) (fun hHeld => ?_)
    clear hK K
    refine norm_ (a' := ?_) ?_ ?_
    rotate_left
    ·show Act.put _ (some 33) _ = _
     simp only [Act.put, List.setIfInBounds_toArray, List.set_cons_zero, List.set_cons_succ, i64_w, i32_w]
     rfl
    refine pure_ (i := 6) (N := some 34) (v := ?_) (a' := ?_) #[true, true, true, true, true, true, true, false] rfl rfl (by kernel_rfl) (fun _ _ _ h => h) (Or.inl ⟨by rfl, ?_⟩) ?_ ?_
    rotate_left
    ·intro w'
     go_simp
     with_reducible rfl
    rotate_left
    ·simp only [Act.put, List.setIfInBounds_toArray, List.set_cons_zero, List.set_cons_succ, i64_w, i32_w]
     rfl
    refine last_ (i := 7) (N := none) #[true, true, true, true, true, true, true, true] rfl rfl (by kernel_rfl) (by decide) (fun K hK => ?_)
    refine skip_ (w1 := ?_) (by rfl) rfl ?_ ?_
    rotate_left
    ·go_simp
     rfl
    refine hK.out _ _ ?_
    clear hK K
    refine done_ (by kernel_rfl) ?_

    have bk414 : (w13.setCell ⟨w.heap.size, 3, none⟩ (.slice A2 n2 q2)).heap[w.heap.size]? = some (.cells #[.int .i64 6, .int .i64 0, .string ⟨#[]⟩, .slice A2 n2 q2, d4] 25 (0, 0)) := blk_set BK413.out 3 _
    have bk614 := blk_far (p := ⟨w.heap.size, 3, none⟩) BK613.out (show w.heap.size + 1 ≠ w.heap.size by omega) (.slice A2 n2 q2)
    have h14 := H13.out.far (j := 3) (Ne.symm ne4) (.slice A2 n2 q2)
    have hl14 := R_fars (g := w.heap.size) (j := 3) HL13.out (by omega) (.slice A2 n2 q2)
    have hk14 := R_fars (g := w.heap.size) (j := 3) HK13.out (by omega) (.slice A2 n2 q2)
    have gb14 := gb_new GB13.out (Nat.le_refl _) 3 (.slice A2 n2 q2)
    have hz14 : w.heap.size + 2 ≤ (w13.setCell ⟨w.heap.size, 3, none⟩ (.slice A2 n2 q2)).heap.size := by simpa using hz13
    generalize w13.setCell ⟨w.heap.size, 3, none⟩ (.slice A2 n2 q2) = W14 at bk414 bk614 h14 hl14 hk14 gb14 hz14 ⊢
    obtain ⟨d3, hd3⟩ : ∃ d3, Value.slice A2 n2 q2 = d3 := ⟨_, rfl⟩
    rw [hd3] at bk414 hl14 hk14
    have HS3 := Aside0.mk (show (bad3 = false → R0 = aft k2 true (ls ++ [x]) ks2 s3 ∧ ks2.length + s2.length ≤ N) ∧ (bad3 = true → R0 = none) by
     have hx := HX12.out
     rcases Bool.eq_false_or_eq_true bad2 with hb | hb
     ·have hr : R0 = none := by first | exact HS2.out.2 hb | cases hb
      have h3 := hx.2 (if_pos hb)
      exact ⟨fun e => (by rw [h3] at e; cases e), fun _ => hr⟩
     ·obtain ⟨hr, hlen⟩ := HS2.out.1 (by first | exact hb | trivial)
      have hne : ¬ bad2 = true := by rw [hb]; decide
      rw [if_neg hne] at hx
      cases hv : readV k2 s2 with
      | none => exact ⟨fun e => (by rw [hx.2 hv] at e; cases e), fun _ => (by rw [hr, item_none hv])⟩
      | some p =>
       obtain ⟨y, r⟩ := p
       obtain ⟨rfl, rfl, h3⟩ := hx.1 y r hv
       exact ⟨fun _ => ⟨by rw [hr, item_some hv], hlen⟩, fun e => (by rw [h3] at e; cases e)⟩)
    have HBK414 := Aside0.mk bk414
    have HBK614 := Aside0.mk bk614
    have H14 := Aside0.mk h14
    have HL14 := Aside0.mk hl14
    have HK14 := Aside0.mk hk14
    have GB14 := Aside0.mk gb14
    have hls3 : s3.length ≤ s.length := by omega
    clear bk414 bk614 h14 hl14 hk14 gb14 hd3 hHeld BK413 BK613 H13 HL13 HK13 GB13 f3_ HX12 HVL HS2 HX3 HX4 hz13 hz12 hz12' hz11 H11 BK411 BK611 HL11 HK11 GB11
    by_cases he : [125] <+: s3
    ·have HE3 := Aside0.mk he
     clear he
     go_wp2_with fail
     refine (take_yes b s3 [125] bad3 W14 H14.out HE3.out).mono ?_
     rintro e w15 ⟨rfl, h15, g15⟩
     have H15 := Aside0.mk h15
     have BK415 := Aside0.mk (gb_blk HBK414.out g15 ne4)
     have BK615 := Aside0.mk (gb_blk HBK614.out g15 ne6)
     have HL15 := Aside0.mk (R_gb HL14.out g15 (by omega))
     have HK15 := Aside0.mk (R_gb HK14.out g15 (by omega))
     have GB15 := Aside0.mk (GB14.out.trans g15)
     obtain ⟨A3, q3, rfl⟩ := Kd.R_slice HL15.out
     obtain ⟨A4, q4, rfl⟩ := Kd.R_slice HK15.out
     obtain ⟨m3, hm3⟩ : ∃ m3, (ls ++ [x]).length = m3 := ⟨_, rfl⟩
     rw [hm3] at HL15 HK15 BK415 HBK414 HL14 HK14
     have k0 := (blk_cell BK415.out 0).trans (rfl : _ = some (Value.int .i64 6))
     have k1 := (blk_cell BK415.out 1).trans (rfl : _ = some (Value.int .i64 0))
     have k2_ := (blk_cell BK415.out 2).trans (rfl : _ = some (Value.string ⟨#[]⟩))
     have k3 := (blk_cell BK415.out 3).trans (rfl : _ = some (Value.slice A3 m3 q3))
     have k4 := (blk_cell BK415.out 4).trans (rfl : _ = some (Value.slice A4 ks2.length q4))
     have m0 := (blk_cell BK615.out 0).trans (rfl : _ = some (Value.int .i64 0))
     have m1 := (blk_cell BK615.out 1).trans (rfl : _ = some (Value.int .i64 0))
     have m2 := (blk_cell BK615.out 2).trans (rfl : _ = some (Value.string ⟨#[]⟩))
     have m3_ := (blk_cell BK615.out 3).trans (rfl : _ = some (Value.slice none 0 0))
     have m4 := (blk_cell BK615.out 4).trans (rfl : _ = some (Value.slice none 0 0))
     have i0 := blk_frozen BK615.out 0
     have i1 := blk_frozen BK615.out 1
     have i2 := blk_frozen BK615.out 2
     have i3 := blk_frozen BK615.out 3
     have i4 := blk_frozen BK615.out 4
     have HM3 := Aside0.mk hm3
     clear h15 g15 hm3
     go_wp2
     refine bodyPost_ret (results_cell_row rfl _ _ (w.heap.size + 1) 25 #[.int .i64 6, .int .i64 0, .string ⟨#[]⟩, .slice A3 m3 q3, .slice A4 ks2.length q4] (0, 0) _ rfl (fill5 BK615.out) Tryz.underlying25 rfl (by kernel_rfl)) rfl ?_
     refine ⟨⟨6, 0, ⟨#[]⟩, ls ++ [x], ks2⟩, s3.drop 1, bad3, _, _, rfl, R_set5 HL15.out (fun _ hk_ => hk_.1) (by omega) (by omega) _ _ _ _ _, R_set5 HK15.out (fun _ hk_ => hk_.1) (by omega) (by omega) _ _ _ _ _, far5 H15.out (Ne.symm ne6), gb_new5 GB15.out (by omega), by rw [List.length_drop]; have := HS.out.2.2.2; have := HN.out; omega, ?_, ?_⟩
     ·intro y r e
      rcases Bool.eq_false_or_eq_true bad3 with hb | hb
      ·rw [HS3.out.2 hb] at e; cases e
      ·rw [(HS3.out.1 hb).1] at e
       unfold aft at e
       rw [if_pos (show [endc true] <+: s3 from HE3.out)] at e
       simp only [Option.some.injEq, Prod.mk.injEq] at e
       obtain ⟨rfl, rfl⟩ := e
       exact ⟨rfl, rfl, hb⟩
     ·intro e
      rcases Bool.eq_false_or_eq_true bad3 with hb | hb
      ·exact hb
      ·rw [(HS3.out.1 hb).1] at e
       unfold aft at e
       rw [if_pos (show [endc true] <+: s3 from HE3.out)] at e
       cases e
    ·have HE3 := Aside0.mk he
     clear he
     go_wp2_with fail
     refine (take_no b s3 [125] bad3 W14 H14.out HE3.out).mono ?_
     rintro e w15 ⟨rfl, rfl⟩
     go_wp2_with fail
     refine (need_any b s3 [44] bad3 w15 H14.out).mono ?_
     rintro e w16 ⟨s4, bad4, rfl, h16, g16, hl4, hy4, hn4⟩
     have H16 := Aside0.mk h16
     have BK416 := Aside0.mk (gb_blk HBK414.out g16 ne4)
     have BK616 := Aside0.mk (gb_blk HBK614.out g16 ne6)
     have HL16 := Aside0.mk (R_gb HL14.out g16 (by omega))
     have HK16 := Aside0.mk (R_gb HK14.out g16 (by omega))
     have GB16 := Aside0.mk (GB14.out.trans g16)
     have hz16 : w.heap.size + 2 ≤ w16.heap.size := Nat.le_trans hz14 g16.size
     have hsh : bad4 = false → s4.length < s.length := fun e => by
      by_cases hc : [44] <+: s3
      ·have h1 := hc.length_le
       obtain ⟨rfl, _⟩ := hy4 hc
       rw [List.length_drop]
       simp only [List.length_cons, List.length_nil] at h1 ⊢
       omega
      ·rw [hn4 hc] at e; cases e
     have HS4 := Aside0.mk (show RowS w b N k true R0 w16 (ls ++ [x]) ks2 s4 bad4 d3 d4 k2 by
      refine ⟨?_, ?_, by omega, by have := HS.out.2.2.2; omega⟩
      ·intro e
       have hlt := hsh e
       by_cases hc : [44] <+: s3
       ·obtain ⟨rfl, rfl⟩ := hy4 hc
        obtain ⟨hr, hlen⟩ := HS3.out.1 e
        refine ⟨?_, by omega, by rw [List.length_append, List.length_cons, List.length_nil]; omega, by omega⟩
        rw [hr]; unfold aft
        rw [if_neg (show ¬ [endc true] <+: s3 from HE3.out), if_pos hc]; rfl
       ·rw [hn4 hc] at e; cases e
      ·intro e
       by_cases hc : [44] <+: s3
       ·obtain ⟨rfl, rfl⟩ := hy4 hc
        exact HS3.out.2 e
       ·rcases Bool.eq_false_or_eq_true bad3 with hb | hb
        ·exact HS3.out.2 hb
        ·rw [(HS3.out.1 hb).1]; unfold aft
         rw [if_neg (show ¬ [endc true] <+: s3 from HE3.out), if_neg hc])
     have HM := Aside0.mk (show RM b w16 < RM b wr by
      rw [RM_false H3.out]
      rcases Bool.eq_false_or_eq_true bad4 with hb | hb
      ·rw [RM_true (hb ▸ H16.out)]; omega
      ·rw [RM_false (hb ▸ H16.out)]; have := hsh hb; omega)
     clear h16 g16 hy4 hn4 hsh
     go_wp2
     go_roundw
     case rel => exact ⟨ls ++ [x], ks2, s4, bad4, d3, d4, k2, HS4, H16, GB16, BK416, BK616, HL16, HK16, hz16⟩
     case measure => exact HM.out

end Go.Proofs.YtifejhbochkifaaGreatDoor.X

/-! HRowL -/
namespace Go.Proofs.YtifejhbochkifaaGreatDoor.X
open Go.RowKit Go.Proofs.YtifejhbochkifaaGreatDoorW.PrintWords Go.Proofs.YtifejhbochkifaaGreatDoorW.PrintLast Go.Proofs.YtifejhbochkifaaGreatDoorW.PrintMore Go.Proofs.YtifejhbochkifaaGreatDoor.Spec
set_option linter.unusedVariables false
set_option linter.unusedSimpArgs false
set_option maxHeartbeats 16000000 in
set_option maxRecDepth 100000 in
theorem rowL_calls (k : Nat) (hval : ∀ j, j < k → VC j) : RC k false := by
 intro b s0 w w0 h hG hB hb0 hs hk
 obtain ⟨N, hN⟩ : ∃ N, s0.length = N := ⟨_, rfl⟩
 have hbw := h.lt
 show Calls _ _ #[.pointer (some ⟨b, 0, none⟩), .agg #[.int .i64 5, .int .i64 0, .string ⟨#[]⟩, .slice none 0 0, .slice none 0 0], .string (ba [93])] w _
 obtain ⟨k, rfl⟩ : ∃ k', k = k' + 1 := ⟨k - 1, by omega⟩
 obtain ⟨R0, hR0⟩ : ∃ R0, readRow (k + 1) false s0 = R0 := ⟨_, rfl⟩
 rw [hR0]
 have HVAL := Aside0.mk hval
 have HG := Aside0.mk hG
 have HB := Aside0.mk hB
 have H := Aside0.mk h
 have e1 : ((w.alloc (.cells #[.int .i64 5, .int .i64 0, .string ⟨#[]⟩, .slice none 0 0, .slice none 0 0] 25)).alloc (.cells #[.int .i64 0, .int .i64 0, .string ⟨#[]⟩, .slice none 0 0, .slice none 0 0] 25)).heap.size = w.heap.size + 2 := by simp
 have e2 := blk_alloc (blk_new w (.cells #[.int .i64 5, .int .i64 0, .string ⟨#[]⟩, .slice none 0 0, .slice none 0 0] 25)) (.cells #[.int .i64 0, .int .i64 0, .string ⟨#[]⟩, .slice none 0 0, .slice none 0 0] 25)
 have e3 := blk_new (w.alloc (.cells #[.int .i64 5, .int .i64 0, .string ⟨#[]⟩, .slice none 0 0, .slice none 0 0] 25)) (.cells #[.int .i64 0, .int .i64 0, .string ⟨#[]⟩, .slice none 0 0, .slice none 0 0] 25)
 rw [show (w.alloc (.cells #[.int .i64 5, .int .i64 0, .string ⟨#[]⟩, .slice none 0 0, .slice none 0 0] 25)).heap.size = w.heap.size + 1 by simp] at e3
 have e4 := (h.alloc (.cells #[.int .i64 5, .int .i64 0, .string ⟨#[]⟩, .slice none 0 0, .slice none 0 0] 25)).alloc (.cells #[.int .i64 0, .int .i64 0, .string ⟨#[]⟩, .slice none 0 0, .slice none 0 0] 25)
 have e5 := below_alloc (below_alloc (Below.refl _ w) (.cells #[.int .i64 5, .int .i64 0, .string ⟨#[]⟩, .slice none 0 0, .slice none 0 0] 25)) (.cells #[.int .i64 0, .int .i64 0, .string ⟨#[]⟩, .slice none 0 0, .slice none 0 0] 25)
 obtain ⟨W2, hW2⟩ : ∃ W, (w.alloc (.cells #[.int .i64 5, .int .i64 0, .string ⟨#[]⟩, .slice none 0 0, .slice none 0 0] 25)).alloc (.cells #[.int .i64 0, .int .i64 0, .string ⟨#[]⟩, .slice none 0 0, .slice none 0 0] 25) = W := ⟨_, rfl⟩
 rw [hW2] at e1 e2 e3 e4 e5
 have HW2 := Aside0.mk hW2
 have SZ2 := Aside0.mk e1
 have BK42 := Aside0.mk e2
 have BK62 := Aside0.mk e3
 have H2 := Aside0.mk e4
 have HB2 := Aside0.mk e5
 have ne4 : w.heap.size ≠ b := by omega
 have ne6 : w.heap.size + 1 ≠ b := by omega
 have HN := Aside0.mk hN
 have HR0 := Aside0.mk hR0
 have hs' : N ≤ 1000000 := by omega
 have hk' : 4 * N + 6 ≤ k := by omega
 clear h hG hB hval hs hk hN hR0 hW2 e1 e2 e3 e4 e5
 by_cases hend : [93] <+: s0
 ·have HE := Aside0.mk hend
  have HR := Aside0.mk (show R0 = some (⟨5, 0, ⟨#[]⟩, [], []⟩, s0.drop 1) by rw [← HR0.out, readRow]; show (if [93] <+: s0 then _ else _) = _; rw [if_pos hend]; rfl)
  clear hend
  go_enter Tryz.func41, Tryz.ntmps41
  go_wp2_with fail
  rw [HW2.out]
  refine (take_yes b s0 [93] false W2 H2.out HE.out).mono ?_
  rintro e w3 ⟨rfl, h3, g3⟩
  have H3 := Aside0.mk h3
  have BK43 := gb_blk BK42.out g3 ne4
  have BK63 := gb_blk BK62.out g3 ne6
  have GB3 := Aside0.mk ((grown_of_below HB2.out (some b)).trans g3)
  have BK63a := Aside0.mk BK63
  have k0 := (blk_cell BK43 0).trans (rfl : _ = some (Value.int .i64 5))
  have k1 := (blk_cell BK43 1).trans (rfl : _ = some (Value.int .i64 0))
  have k2 := (blk_cell BK43 2).trans (rfl : _ = some (Value.string ⟨#[]⟩))
  have k3 := (blk_cell BK43 3).trans (rfl : _ = some (Value.slice none 0 0))
  have k4 := (blk_cell BK43 4).trans (rfl : _ = some (Value.slice none 0 0))
  have m0 := (blk_cell BK63 0).trans (rfl : _ = some (Value.int .i64 0))
  have m1 := (blk_cell BK63 1).trans (rfl : _ = some (Value.int .i64 0))
  have m2 := (blk_cell BK63 2).trans (rfl : _ = some (Value.string ⟨#[]⟩))
  have m3 := (blk_cell BK63 3).trans (rfl : _ = some (Value.slice none 0 0))
  have m4 := (blk_cell BK63 4).trans (rfl : _ = some (Value.slice none 0 0))
  have i0 := blk_frozen BK63 0
  have i1 := blk_frozen BK63 1
  have i2 := blk_frozen BK63 2
  have i3 := blk_frozen BK63 3
  have i4 := blk_frozen BK63 4
  clear h3 g3 BK43 BK63
  go_wp2
  refine bodyPost_ret (results_cell_row rfl _ _ (w.heap.size + 1) 25 #[.int .i64 5, .int .i64 0, .string ⟨#[]⟩, .slice none 0 0, .slice none 0 0] (0, 0) _ rfl (fill5 BK63a.out) Tryz.underlying25 rfl (by kernel_rfl)) rfl ?_
  refine ⟨⟨5, 0, ⟨#[]⟩, [], []⟩, s0.drop 1, false, _, _, rfl, Kd.R_nil _ _ _ _ _, Kd.R_nil _ _ _ _ _, far5 H3.out (Ne.symm ne6), gb_new5 GB3.out (by omega), by simp, ?_, ?_⟩
  ·intro y r e
   rw [HR.out] at e
   simp only [Option.some.injEq, Prod.mk.injEq] at e
   obtain ⟨rfl, rfl⟩ := e
   exact ⟨rfl, rfl, rfl⟩
  ·intro e; rw [HR.out] at e; cases e
 ·have HE := Aside0.mk hend
  have HR := Aside0.mk (show R0 = items k false [] [] s0 by rw [← HR0.out, readRow]; show (if [93] <+: s0 then _ else _) = _; rw [if_neg hend])
  clear hend
  go_enter Tryz.func41, Tryz.ntmps41
  go_wp2_with fail
  rw [HW2.out]
  refine (take_no b s0 [93] false W2 H2.out HE.out).mono ?_
  rintro e w3 ⟨rfl, rfl⟩
  go_wp2
  go_loopw [] (fun wr => ∃ (ls : List V) (ks : List ByteArray) (s : List UInt8) (bad : Bool) (c3 c4 : Value) (kk : Nat), Aside0 (RowS w b N k false R0 wr ls ks s bad c3 c4 kk) ∧ Aside0 (Rs wr b s bad) ∧ Aside0 (w.grownBy wr (some b)) ∧ Aside0 (wr.heap[w.heap.size]? = some (.cells #[.int .i64 5, .int .i64 0, .string ⟨#[]⟩, c3, c4] 25 (0, 0))) ∧ Aside0 (wr.heap[w.heap.size + 1]? = some (.cells #[.int .i64 0, .int .i64 0, .string ⟨#[]⟩, .slice none 0 0, .slice none 0 0] 25 (0, 0))) ∧ Aside0 (Kd.R k25 25 wr (w.heap.size + 2) (fun k_ => w.heap.size + 2 ≤ k_ ∧ some k_ ≠ c4.ownBlock) c3 ls) ∧ Aside0 (Kd.R Kd.string 9 wr (w.heap.size + 2) (fun k_ => w.heap.size + 2 ≤ k_ ∧ some k_ ≠ c3.ownBlock) c4 ks) ∧ w.heap.size + 2 ≤ wr.heap.size) (fun wr => RM b wr)
  case atStart => exact ⟨[], [], s0, false, .slice none 0 0, .slice none 0 0, k, ⟨fun _ => ⟨HR.out, by have := HN.out; omega, by have := HN.out; simp only [List.length_nil]; omega, by have := HN.out; simp only [List.length_nil]; omega⟩, fun e => (by cases e), Nat.le_refl _, by have := HN.out; omega⟩, H2, ⟨grown_of_below HB2.out _⟩, BK42, BK62, ⟨Kd.R_nil _ _ _ _ _⟩, ⟨Kd.R_nil _ _ _ _ _⟩, by have := SZ2.out; omega⟩
  case round =>
   obtain ⟨ls, ks, s, bad, c3, c4, kk, HS, H3, GB, BK4, BK6, HL, HK, hwr⟩ := hrel
   clear HR H2 BK42 BK62 HB2 SZ2 HW2 HE
   have c1 := H3.out.c1
   cases bad with
   | true =>
    have HR := Aside0.mk (HS.out.2.1 rfl)
    have k0 := (blk_cell BK4.out 0).trans (rfl : _ = some (Value.int .i64 5))
    have k1 := (blk_cell BK4.out 1).trans (rfl : _ = some (Value.int .i64 0))
    have k2 := (blk_cell BK4.out 2).trans (rfl : _ = some (Value.string ⟨#[]⟩))
    have k3 := (blk_cell BK4.out 3).trans (rfl : _ = some c3)
    have k4 := (blk_cell BK4.out 4).trans (rfl : _ = some c4)
    have m0 := (blk_cell BK6.out 0).trans (rfl : _ = some (Value.int .i64 0))
    have m1 := (blk_cell BK6.out 1).trans (rfl : _ = some (Value.int .i64 0))
    have m2 := (blk_cell BK6.out 2).trans (rfl : _ = some (Value.string ⟨#[]⟩))
    have m3 := (blk_cell BK6.out 3).trans (rfl : _ = some (Value.slice none 0 0))
    have m4 := (blk_cell BK6.out 4).trans (rfl : _ = some (Value.slice none 0 0))
    have i0 := blk_frozen BK6.out 0
    have i1 := blk_frozen BK6.out 1
    have i2 := blk_frozen BK6.out 2
    have i3 := blk_frozen BK6.out 3
    have i4 := blk_frozen BK6.out 4
    obtain ⟨A3, q3, rfl⟩ := Kd.R_slice HL.out
    obtain ⟨A4, q4, rfl⟩ := Kd.R_slice HK.out
    go_wp2
    refine bodyPost_ret (results_cell_row rfl _ _ (w.heap.size + 1) 25 #[.int .i64 5, .int .i64 0, .string ⟨#[]⟩, .slice A3 ls.length q3, .slice A4 ks.length q4] (0, 0) _ rfl (fill5 BK6.out) Tryz.underlying25 rfl (by kernel_rfl)) rfl ?_
    refine ⟨⟨5, 0, ⟨#[]⟩, ls, ks⟩, s, true, _, _, rfl, R_set5 HL.out (fun _ hk_ => hk_.1) (by omega) (by omega) _ _ _ _ _, R_set5 HK.out (fun _ hk_ => hk_.1) (by omega) (by omega) _ _ _ _ _, far5 H3.out (Ne.symm ne6), gb_new5 GB.out (by omega), by have := HS.out.2.2.2; have := HN.out; omega, ?_, fun _ => rfl⟩
    intro y r e
    rw [HR.out] at e
    cases e
   | false =>
    obtain ⟨hp1, hp2, hpl, hpk⟩ := HS.out.1 rfl
    have HKK := Aside0.mk (show kk ≤ k from HS.out.2.2.1)
    obtain ⟨k2, rfl⟩ : ∃ k2, kk = k2 + 1 + 1 := ⟨kk - 2, by omega⟩
    have hkk := HKK.out
    have k0 := (blk_cell BK4.out 0).trans (rfl : _ = some (Value.int .i64 5))
    have HS2 := Aside0.mk (show (false = false → R0 = item (k2 + 1) false ls ks s ∧ ks.length + s.length ≤ N) ∧ (false = true → R0 = none) from ⟨fun _ => ⟨by rw [hp1, items], hpk⟩, fun e => (by cases e)⟩)
    have H11 := H3
    have BK411 := BK4
    have BK611 := BK6
    have HL11 := HL
    have HK11 := HK
    have GB11 := GB
    have hz11 := hwr
    clear hp1

    have HVL := Aside0.mk (HVAL.out k2 (by omega) b s false wr.drew w0 (H11.out.below (below_drew (Below.refl _ wr))) HG.out (below_drew (HB.out.grown GB11.out HB.out.size (fun k e => by injection e with e; omega))) hb0 (by omega) (by omega))
    go_wp2
    refine start_ (n := 8) (S := fun w' => w'.cell? ⟨w.heap.size, 3, none⟩ = some c3) (ds := [7]) #[false, false, false, false, false, false, false, false] (by kernel_rfl) rfl rfl (((blk_cell BK411.out 3).trans rfl)) (fun hHeld => ?_)
    refine pure_ (i := 0) (N := some 28) (v := ?_) (a' := ?_) #[true, false, false, false, false, false, false, false] rfl rfl (by kernel_rfl) (fun _ _ _ h => h) (Or.inl ⟨by rfl, ?_⟩) ?_ ?_
    rotate_left
    ·intro w'
     go_simp
     with_reducible rfl
    rotate_left
    ·simp only [Act.put, List.setIfInBounds_toArray, List.set_cons_zero, List.set_cons_succ, i64_w, i32_w]
     rfl
    refine pure_ (i := 2) (N := some 30) (v := ?_) (a' := ?_) #[true, false, true, false, false, false, false, false] rfl rfl (by kernel_rfl) (fun _ _ _ h => h) (Or.inl ⟨by rfl, ?_⟩) ?_ ?_
    rotate_left
    ·intro w'
     go_simp
     with_reducible rfl
    rotate_left
    ·simp only [Act.put, List.setIfInBounds_toArray, List.set_cons_zero, List.set_cons_succ, i64_w, i32_w]
     rfl
    refine take_ (i := 1) (N := some 29) (v := ?_) (a' := ?_) #[true, true, true, false, false, false, false, false] rfl rfl (by kernel_rfl) (fun _ _ _ h => h) (Or.inl ⟨by rfl, ?_⟩) hHeld ?_ ?_
    rotate_left
    ·intro w' s0
     go_simp
     with_reducible rfl
    rotate_left
    ·simp only [Act.put, List.setIfInBounds_toArray, List.set_cons_zero, List.set_cons_succ, i64_w, i32_w]
     rfl
    refine one_ (i := 3) (N := some 31) #[true, true, true, true, false, false, false, false] rfl rfl (by kernel_rfl) (by decide) (fun K hK => ?_)
    refine goes_ Tryz.func23 (by kernel_rfl) rfl #[.pointer (some ⟨b, 0, none⟩)] (by rfl) rfl rfl (by simp only [List.map_toArray, List.map_cons, List.map_nil]; rfl) ?_
    with_reducible refine (HVL.out).mono ?_
    rintro e w12 ⟨x, s3, bad3, x3, x4, rfl, hx3, hx4, h12, g12, hl12, hs12, hn12⟩
    refine ⟨_, rfl, ?_⟩
    have H12 := Aside0.mk h12
    have G12 := Aside0.mk ((grown_of_below (below_drew (Below.refl _ wr)) (some b)).trans g12)
    have HX12 := Aside0.mk (And.intro hs12 hn12)
    clear h12 g12 hs12 hn12
    have HX3 := Aside0.mk hx3
    have HX4 := Aside0.mk hx4
    clear hx3 hx4
    have BK412 := Aside0.mk (gb_blk BK411.out G12.out ne4)
    have BK612 := Aside0.mk (gb_blk BK611.out G12.out ne6)
    have HL12 := Aside0.mk (Kd.R_grown HL11.out G12.out (fun k_ hk_ => by intro e_; injection e_ with e_; have := hk_.1; omega))
    have HK12 := Aside0.mk (Kd.R_grown HK11.out G12.out (fun k_ hk_ => by intro e_; injection e_ with e_; have := hk_.1; omega))
    have hz12 : wr.heap.size ≤ w12.heap.size := G12.out.size
    have hz12' : w.heap.size + 2 ≤ w12.heap.size := Nat.le_trans hz11 hz12
    refine hK.out _ _ (((blk_cell BK412.out 3).trans rfl)) (fun hHeld => ?_)
    clear hK K
    refine norm_ (a' := ?_) ?_ ?_
    rotate_left
    ·show Act.put _ (some 31) _ = _
     simp only [Act.put, List.setIfInBounds_toArray, List.set_cons_zero, List.set_cons_succ, i64_w, i32_w]
     rfl
    refine one_ (i := 4) (N := some 32) #[true, true, true, true, true, false, false, false] rfl rfl (by kernel_rfl) (by decide) (fun K hK => ?_)
    refine value_ (w1 := ?_) (v := ?_) (by rfl) rfl ?_ ?_
    rotate_left 2
    ·go_simp
     constructor
     ·rfl
     ·rfl
    refine hK.out _ _ (((blk_cell (blk_alloc BK412.out _) 3).trans rfl)) (fun hHeld => ?_)
    clear hK K
    refine norm_ (a' := ?_) ?_ ?_
    rotate_left
    ·show Act.put _ (some 32) _ = _
     simp only [Act.put, List.setIfInBounds_toArray, List.set_cons_zero, List.set_cons_succ, i64_w, i32_w]
     rfl
    refine one_ (i := 5) (N := some 33) #[true, true, true, true, true, true, false, false] rfl rfl (by kernel_rfl) (by decide) (fun K hK => ?_)
    refine Kd.R_append_step k25 (w0 := w12) (w.heap.size + 2) (by rfl) (.tmp 29) (.tmp 32) 22 25 (.agg #[.int .i64 0, .int .i64 0, .string ⟨#[]⟩, .slice none 0 0, .slice none 0 0]) 80 rfl Tryz.underlying22 info25 rfl (by decide) (by omega) c3 ls x [.int .i64 x.f0, .int .i64 x.f1, .string x.f2, x3, x4] (fun k_ => w.heap.size + 2 ≤ k_ ∧ some k_ ≠ c4.ownBlock) (fun k_ => wr.heap.size ≤ k_) rfl rfl ?aP (fun k_ hk_ => ⟨⟨Nat.le_trans hz11 hk_, R_fresh HK11.out hk_⟩, R_fresh HL11.out hk_⟩) ?aF ?aO ?aB ?aS ?aL ?_
    (case aP => exact k25_mkM w12 _ _ x (Kd.R_lower HX3.out (show w.heap.size + 2 ≤ wr.drew.heap.size from hz11)) (Kd.R_lower HX4.out (show w.heap.size + 2 ≤ wr.drew.heap.size from hz11)))
    (case aB => exact Below.refl _ _)
    (case aF => exact (fun k_ hk_ => ⟨by omega, R_fresh HK12.out hk_⟩))
    (case aO => exact HL12.out)
    (case aS => omega)
    (case aL => omega)
    intro v2 w13 ho hb hg hat
    obtain ⟨A2, q2, e2_⟩ := Kd.R_slice ho
    generalize (ls ++ [x]).length = n2 at e2_
    subst e2_
    have HL13 := Aside0.mk ho
    have HK13 := Aside0.mk (Kd.R_after (ok := fun k_ => w.heap.size + 2 ≤ k_) HK12.out hg hat)
    have BK413 := Aside0.mk ((hb.block w.heap.size (by omega)).trans BK412.out)
    have BK613 := Aside0.mk ((hb.block (w.heap.size + 1) (by omega)).trans BK612.out)
    have H13 := Aside0.mk (H12.out.belowB hb (by omega))
    have GB13 := Aside0.mk (gb_below (GB11.out.trans G12.out) hb (by omega) hz12')
    have hz13 : w.heap.size + 2 ≤ w13.heap.size := Nat.le_trans hz12' hb.size
    have f3_ := blk_frozen BK413.out 3
    clear ho hb hg hat HL12 HK12 BK412 BK612 H12
    refine hK.out _ _ (((blk_cell BK413.out 3).trans rfl)) (fun hHeld => ?_)
    clear hK K
    refine norm_ (a' := ?_) ?_ ?_
    rotate_left
    ·show Act.put _ (some 33) _ = _
     simp only [Act.put, List.setIfInBounds_toArray, List.set_cons_zero, List.set_cons_succ, i64_w, i32_w]
     rfl
    refine pure_ (i := 6) (N := some 34) (v := ?_) (a' := ?_) #[true, true, true, true, true, true, true, false] rfl rfl (by kernel_rfl) (fun _ _ _ h => h) (Or.inl ⟨by rfl, ?_⟩) ?_ ?_
    rotate_left
    ·intro w'
     go_simp
     with_reducible rfl
    rotate_left
    ·simp only [Act.put, List.setIfInBounds_toArray, List.set_cons_zero, List.set_cons_succ, i64_w, i32_w]
     rfl
    refine last_ (i := 7) (N := none) #[true, true, true, true, true, true, true, true] rfl rfl (by kernel_rfl) (by decide) (fun K hK => ?_)
    refine skip_ (w1 := ?_) (by rfl) rfl ?_ ?_
    rotate_left
    ·go_simp
     rfl
    refine hK.out _ _ ?_
    clear hK K
    refine done_ (by kernel_rfl) ?_

    have bk414 : (w13.setCell ⟨w.heap.size, 3, none⟩ (.slice A2 n2 q2)).heap[w.heap.size]? = some (.cells #[.int .i64 5, .int .i64 0, .string ⟨#[]⟩, .slice A2 n2 q2, c4] 25 (0, 0)) := blk_set BK413.out 3 _
    have bk614 := blk_far (p := ⟨w.heap.size, 3, none⟩) BK613.out (show w.heap.size + 1 ≠ w.heap.size by omega) (.slice A2 n2 q2)
    have h14 := H13.out.far (j := 3) (Ne.symm ne4) (.slice A2 n2 q2)
    have hl14 := R_fars (g := w.heap.size) (j := 3) HL13.out (by omega) (.slice A2 n2 q2)
    have hk14 := R_fars (g := w.heap.size) (j := 3) HK13.out (by omega) (.slice A2 n2 q2)
    have gb14 := gb_new GB13.out (Nat.le_refl _) 3 (.slice A2 n2 q2)
    have hz14 : w.heap.size + 2 ≤ (w13.setCell ⟨w.heap.size, 3, none⟩ (.slice A2 n2 q2)).heap.size := by simpa using hz13
    generalize w13.setCell ⟨w.heap.size, 3, none⟩ (.slice A2 n2 q2) = W14 at bk414 bk614 h14 hl14 hk14 gb14 hz14 ⊢
    obtain ⟨d3, hd3⟩ : ∃ d3, Value.slice A2 n2 q2 = d3 := ⟨_, rfl⟩
    rw [hd3] at bk414 hl14 hk14
    have HS3 := Aside0.mk (show (bad3 = false → R0 = aft k2 false (ls ++ [x]) ks s3 ∧ ks.length + s.length ≤ N) ∧ (bad3 = true → R0 = none) by
     have hx := HX12.out
     rcases Bool.eq_false_or_eq_true false with hb | hb
     ·have hr : R0 = none := by first | exact HS2.out.2 hb | cases hb
      have h3 := hx.2 (if_pos hb)
      exact ⟨fun e => (by rw [h3] at e; cases e), fun _ => hr⟩
     ·obtain ⟨hr, hlen⟩ := HS2.out.1 (by first | exact hb | trivial)
      have hne : ¬ false = true := by rw [hb]; decide
      rw [if_neg hne] at hx
      cases hv : readV k2 s with
      | none => exact ⟨fun e => (by rw [hx.2 hv] at e; cases e), fun _ => (by rw [hr, item_none hv])⟩
      | some p =>
       obtain ⟨y, r⟩ := p
       obtain ⟨rfl, rfl, h3⟩ := hx.1 y r hv
       exact ⟨fun _ => ⟨by rw [hr, item_some hv], hlen⟩, fun e => (by rw [h3] at e; cases e)⟩)
    have HBK414 := Aside0.mk bk414
    have HBK614 := Aside0.mk bk614
    have H14 := Aside0.mk h14
    have HL14 := Aside0.mk hl14
    have HK14 := Aside0.mk hk14
    have GB14 := Aside0.mk gb14
    have hls3 : s3.length ≤ s.length := by omega
    clear bk414 bk614 h14 hl14 hk14 gb14 hd3 hHeld BK413 BK613 H13 HL13 HK13 GB13 f3_ HX12 HVL HS2 HX3 HX4 hz13 hz12 hz12' hz11 H11 BK411 BK611 HL11 HK11 GB11
    by_cases he : [93] <+: s3
    ·have HE3 := Aside0.mk he
     clear he
     go_wp2_with fail
     refine (take_yes b s3 [93] bad3 W14 H14.out HE3.out).mono ?_
     rintro e w15 ⟨rfl, h15, g15⟩
     have H15 := Aside0.mk h15
     have BK415 := Aside0.mk (gb_blk HBK414.out g15 ne4)
     have BK615 := Aside0.mk (gb_blk HBK614.out g15 ne6)
     have HL15 := Aside0.mk (R_gb HL14.out g15 (by omega))
     have HK15 := Aside0.mk (R_gb HK14.out g15 (by omega))
     have GB15 := Aside0.mk (GB14.out.trans g15)
     obtain ⟨A3, q3, rfl⟩ := Kd.R_slice HL15.out
     obtain ⟨A4, q4, rfl⟩ := Kd.R_slice HK15.out
     obtain ⟨m3, hm3⟩ : ∃ m3, (ls ++ [x]).length = m3 := ⟨_, rfl⟩
     rw [hm3] at HL15 HK15 BK415 HBK414 HL14 HK14
     have k0 := (blk_cell BK415.out 0).trans (rfl : _ = some (Value.int .i64 5))
     have k1 := (blk_cell BK415.out 1).trans (rfl : _ = some (Value.int .i64 0))
     have k2_ := (blk_cell BK415.out 2).trans (rfl : _ = some (Value.string ⟨#[]⟩))
     have k3 := (blk_cell BK415.out 3).trans (rfl : _ = some (Value.slice A3 m3 q3))
     have k4 := (blk_cell BK415.out 4).trans (rfl : _ = some (Value.slice A4 ks.length q4))
     have m0 := (blk_cell BK615.out 0).trans (rfl : _ = some (Value.int .i64 0))
     have m1 := (blk_cell BK615.out 1).trans (rfl : _ = some (Value.int .i64 0))
     have m2 := (blk_cell BK615.out 2).trans (rfl : _ = some (Value.string ⟨#[]⟩))
     have m3_ := (blk_cell BK615.out 3).trans (rfl : _ = some (Value.slice none 0 0))
     have m4 := (blk_cell BK615.out 4).trans (rfl : _ = some (Value.slice none 0 0))
     have i0 := blk_frozen BK615.out 0
     have i1 := blk_frozen BK615.out 1
     have i2 := blk_frozen BK615.out 2
     have i3 := blk_frozen BK615.out 3
     have i4 := blk_frozen BK615.out 4
     have HM3 := Aside0.mk hm3
     clear h15 g15 hm3
     go_wp2
     refine bodyPost_ret (results_cell_row rfl _ _ (w.heap.size + 1) 25 #[.int .i64 5, .int .i64 0, .string ⟨#[]⟩, .slice A3 m3 q3, .slice A4 ks.length q4] (0, 0) _ rfl (fill5 BK615.out) Tryz.underlying25 rfl (by kernel_rfl)) rfl ?_
     refine ⟨⟨5, 0, ⟨#[]⟩, ls ++ [x], ks⟩, s3.drop 1, bad3, _, _, rfl, R_set5 HL15.out (fun _ hk_ => hk_.1) (by omega) (by omega) _ _ _ _ _, R_set5 HK15.out (fun _ hk_ => hk_.1) (by omega) (by omega) _ _ _ _ _, far5 H15.out (Ne.symm ne6), gb_new5 GB15.out (by omega), by rw [List.length_drop]; have := HS.out.2.2.2; have := HN.out; omega, ?_, ?_⟩
     ·intro y r e
      rcases Bool.eq_false_or_eq_true bad3 with hb | hb
      ·rw [HS3.out.2 hb] at e; cases e
      ·rw [(HS3.out.1 hb).1] at e
       unfold aft at e
       rw [if_pos (show [endc false] <+: s3 from HE3.out)] at e
       simp only [Option.some.injEq, Prod.mk.injEq] at e
       obtain ⟨rfl, rfl⟩ := e
       exact ⟨rfl, rfl, hb⟩
     ·intro e
      rcases Bool.eq_false_or_eq_true bad3 with hb | hb
      ·exact hb
      ·rw [(HS3.out.1 hb).1] at e
       unfold aft at e
       rw [if_pos (show [endc false] <+: s3 from HE3.out)] at e
       cases e
    ·have HE3 := Aside0.mk he
     clear he
     go_wp2_with fail
     refine (take_no b s3 [93] bad3 W14 H14.out HE3.out).mono ?_
     rintro e w15 ⟨rfl, rfl⟩
     go_wp2_with fail
     refine (need_any b s3 [44] bad3 w15 H14.out).mono ?_
     rintro e w16 ⟨s4, bad4, rfl, h16, g16, hl4, hy4, hn4⟩
     have H16 := Aside0.mk h16
     have BK416 := Aside0.mk (gb_blk HBK414.out g16 ne4)
     have BK616 := Aside0.mk (gb_blk HBK614.out g16 ne6)
     have HL16 := Aside0.mk (R_gb HL14.out g16 (by omega))
     have HK16 := Aside0.mk (R_gb HK14.out g16 (by omega))
     have GB16 := Aside0.mk (GB14.out.trans g16)
     have hz16 : w.heap.size + 2 ≤ w16.heap.size := Nat.le_trans hz14 g16.size
     have hsh : bad4 = false → s4.length < s.length := fun e => by
      by_cases hc : [44] <+: s3
      ·have h1 := hc.length_le
       obtain ⟨rfl, _⟩ := hy4 hc
       rw [List.length_drop]
       simp only [List.length_cons, List.length_nil] at h1 ⊢
       omega
      ·rw [hn4 hc] at e; cases e
     have HS4 := Aside0.mk (show RowS w b N k false R0 w16 (ls ++ [x]) ks s4 bad4 d3 c4 k2 by
      refine ⟨?_, ?_, by omega, by have := HS.out.2.2.2; omega⟩
      ·intro e
       have hlt := hsh e
       by_cases hc : [44] <+: s3
       ·obtain ⟨rfl, rfl⟩ := hy4 hc
        obtain ⟨hr, hlen⟩ := HS3.out.1 e
        refine ⟨?_, by omega, by rw [List.length_append, List.length_cons, List.length_nil]; omega, by omega⟩
        rw [hr]; unfold aft
        rw [if_neg (show ¬ [endc false] <+: s3 from HE3.out), if_pos hc]; rfl
       ·rw [hn4 hc] at e; cases e
      ·intro e
       by_cases hc : [44] <+: s3
       ·obtain ⟨rfl, rfl⟩ := hy4 hc
        exact HS3.out.2 e
       ·rcases Bool.eq_false_or_eq_true bad3 with hb | hb
        ·exact HS3.out.2 hb
        ·rw [(HS3.out.1 hb).1]; unfold aft
         rw [if_neg (show ¬ [endc false] <+: s3 from HE3.out), if_neg hc])
     have HM := Aside0.mk (show RM b w16 < RM b wr by
      rw [RM_false H3.out]
      rcases Bool.eq_false_or_eq_true bad4 with hb | hb
      ·rw [RM_true (hb ▸ H16.out)]; omega
      ·rw [RM_false (hb ▸ H16.out)]; have := hsh hb; omega)
     clear h16 g16 hy4 hn4 hsh
     go_wp2
     go_roundw
     case rel => exact ⟨ls ++ [x], ks, s4, bad4, d3, c4, k2, HS4, H16, GB16, BK416, BK616, HL16, HK16, hz16⟩
     case measure => exact HM.out

end Go.Proofs.YtifejhbochkifaaGreatDoor.X

/-! HVal -/
namespace Go.Proofs.YtifejhbochkifaaGreatDoor.X
open Go Go.RowKit Go.ChangeMaps Go.Proofs.YtifejhbochkifaaGreatDoorW.PrintWords Go.Proofs.YtifejhbochkifaaGreatDoorW.PrintLast Go.Proofs.YtifejhbochkifaaGreatDoorW.PrintMore Go.Proofs.YtifejhbochkifaaGreatDoor.Spec
set_option linter.unusedVariables false
set_option linter.unusedSimpArgs false
theorem has_prefix (s p : ByteArray) (w : World) :
  Calls Tryz.prog 39 #[.string s, .string p] w fun e w' => e = .returned (.bool (Lib.hasPrefix s.data.toList p.data.toList)) ∧ w' = w := by
 rw [← Lib.hasPrefix_of_take, ← Lib.size_eq, ← Lib.size_eq]
 go_enter Tryz.func39, Tryz.ntmps39
 go_wp2
 ·rename_i h
  go_ret
  refine ⟨?_, rfl⟩
  show Ending.returned (Value.bool ((s.extract 0 p.size).toList == p.toList)) = _
  rw [Lib.extract_toList, Lib.toList_data]
  simp [h]
 ·rename_i h
  go_ret
  refine ⟨?_, rfl⟩
  show Ending.returned (Value.bool false) = _
  simp [h]
theorem has_34 (s : List UInt8) (q : Bool) (h : ([34] <+: s) ↔ q = true) (w : World) : Calls Tryz.prog 39 #[.string (ba s), .string ⟨#[34]⟩] w fun e w' => e = .returned (.bool q) ∧ w' = w := by
 refine (has_prefix (ba s) ⟨#[34]⟩ w).mono ?_
 rintro e w' ⟨rfl, rfl⟩
 refine ⟨?_, rfl⟩
 have e1 : Lib.hasPrefix (ba s).data.toList (⟨#[34]⟩ : ByteArray).data.toList = q := by
  show Lib.hasPrefix s [34] = q
  unfold Lib.hasPrefix
  rw [Bool.eq_iff_iff, List.isPrefixOf_iff_prefix]
  exact h
 rw [e1]
theorem blk_alloc_ {w : World} {k : Nat} {o : Obj} (h : w.heap[k]? = some o) (o' : Obj) : (w.alloc o').heap[k]? = some o := (Go.heap_alloc_old w o' (Array.getElem?_eq_some_iff.1 h).1).trans h
theorem Rs.grown' {w w' : World} {b : Nat} {s : List UInt8} {bad : Bool} (h : Rs w b s bad) (hg : w.grownBy w' (some b)) (hk : w'.heap[b]? = w.heap[b]? := by rcases hwn with rfl | rfl <;> rfl) : Rs w' b s bad := hk.trans h
theorem gb_setBlock {w w1 : World} {row : Option Nat} (h : w.grownBy w1 row) {r : Nat} (hr : w.heap.size ≤ r) (o : Obj) : w.grownBy (setBlock w1 r o) row :=
 ⟨h.os, h.tape, h.output, by simpa [setBlock] using h.size, fun i hi hn => by
  have hne : r ≠ i := by omega
  have := h.block i hi hn
  simp only [setBlock]
  rw [Array.getElem?_setIfInBounds_ne hne]
  exact this⟩
theorem setBlock_far {w : World} {r k : Nat} (h : k ≠ r) (o : Obj) : (setBlock w r o).heap[k]? = w.heap[k]? := by
 simp only [setBlock]
 rw [Array.getElem?_setIfInBounds_ne (Ne.symm h)]
theorem setBlock_size (w : World) (r : Nat) (o : Obj) : (setBlock w r o).heap.size = w.heap.size := by simp [setBlock]
theorem iterSeen_of {w : World} {r s c : Nat} {m : Option Nat} {q : Array Nat} (h : w.heap[r]? = some (.mapIter m s q c)) : w.iterSeen r = q := by
 unfold World.iterSeen; rw [h]
/-- the bytes of a map's key -/
def keyL (x : MapEntry) : List UInt8 := match x.key with | .string k => bl k | _ => []
theorem wEnts_cases {x : MapEntry} (h : x ∈ wEnts.toList) : x = ⟨.string ⟨#[110, 117, 108, 108]⟩, wVal 1 0, 0⟩ ∨ x = ⟨.string ⟨#[116, 114, 117, 101]⟩, wVal 2 1, 1⟩ ∨ x = ⟨.string ⟨#[102, 97, 108, 115, 101]⟩, wVal 2 0, 2⟩ := by
 simpa [wEnts] using h
theorem wEnts_word {x : MapEntry} (h : x ∈ wEnts.toList) (k : Nat) (s : List UInt8) : ∃ (l : List UInt8) (a c : Int), keyL x = l ∧ x = ⟨.string (ba l), .agg #[.int .i64 a, .int .i64 c, .string ⟨#[]⟩, .slice none 0 0, .slice none 0 0], x.born⟩ ∧ (l <+: s → readV (k + 1) s = some (⟨a, c, ⟨#[]⟩, [], []⟩, s.drop l.length)) := by
 have hne : ∀ {a b : UInt8} {p q r : List UInt8}, a ≠ b → (a :: p) <+: r → ¬ (b :: q) <+: r := fun {a b p q r} hab h1 h2 => by
  cases r with
  | nil => simp at h1
  | cons c r =>
   rw [List.cons_prefix_cons] at h1 h2
   exact hab (h1.1.trans h2.1.symm)
 rcases wEnts_cases h with rfl | rfl | rfl
 ·exact ⟨w_null, 1, 0, rfl, rfl, fun hp => by rw [readV, if_pos hp]; rfl⟩
 ·exact ⟨w_true, 2, 1, rfl, rfl, fun hp => by rw [readV, if_neg (show ¬ w_null <+: s from hne (show (116 : UInt8) ≠ 110 by decide) hp), if_pos hp]; rfl⟩
 ·exact ⟨w_false, 2, 0, rfl, rfl, fun hp => by rw [readV, if_neg (show ¬ w_null <+: s from hne (show (102 : UInt8) ≠ 110 by decide) hp), if_neg (show ¬ w_true <+: s from hne (show (102 : UInt8) ≠ 116 by decide) hp), if_pos hp]; rfl⟩
set_option maxHeartbeats 16000000 in
set_option maxRecDepth 100000 in
theorem value_calls (k : Nat) (hrow : ∀ j, j < k → ∀ obj, RC j obj) : VC k := by
 intro b s bad w w0 h hG hB hb0 hs hk
 have hbw := h.lt
 have HG := Aside0.mk hG
 have HB := Aside0.mk hB
 have e2 := blk_new w (.cells #[.int .i64 0, .int .i64 0, .string ⟨#[]⟩, .slice none 0 0, .slice none 0 0] 25)
 have e4 := h.alloc (.cells #[.int .i64 0, .int .i64 0, .string ⟨#[]⟩, .slice none 0 0, .slice none 0 0] 25)
 have e5 := below_alloc (Below.refl _ w) (.cells #[.int .i64 0, .int .i64 0, .string ⟨#[]⟩, .slice none 0 0, .slice none 0 0] 25)
 have e1 : (w.alloc (.cells #[.int .i64 0, .int .i64 0, .string ⟨#[]⟩, .slice none 0 0, .slice none 0 0] 25)).heap.size = w.heap.size + 1 := by simp
 obtain ⟨W1, hW1⟩ : ∃ W, w.alloc (.cells #[.int .i64 0, .int .i64 0, .string ⟨#[]⟩, .slice none 0 0, .slice none 0 0] 25) = W := ⟨_, rfl⟩
 rw [hW1] at e1 e2 e4 e5
 have HW1 := Aside0.mk hW1
 have SZ1 := Aside0.mk e1
 have BK1 := Aside0.mk e2
 have H1 := Aside0.mk e4
 have HB1 := Aside0.mk e5
 have ne2 : w.heap.size ≠ b := by omega
 have ne2' : b ≠ w.heap.size := by omega
 have c1 := e4.c1
 cases bad with
 | true =>
  have m0 := (blk_cell e2 0).trans (rfl : _ = some (Value.int .i64 0))
  have m1 := (blk_cell e2 1).trans (rfl : _ = some (Value.int .i64 0))
  have m2 := (blk_cell e2 2).trans (rfl : _ = some (Value.string ⟨#[]⟩))
  have m3 := (blk_cell e2 3).trans (rfl : _ = some (Value.slice none 0 0))
  have m4 := (blk_cell e2 4).trans (rfl : _ = some (Value.slice none 0 0))
  have i0 := blk_frozen e2 0
  have i1 := blk_frozen e2 1
  have i2 := blk_frozen e2 2
  have i3 := blk_frozen e2 3
  have i4 := blk_frozen e2 4
  clear h hG hB hrow hs hk hW1 e1 e2 e4 e5
  go_enter Tryz.func23, Tryz.ntmps23
  go_wp2_with (rw [HW1.out])
  refine bodyPost_ret (results_cell_row rfl _ _ w.heap.size 25 #[.int .i64 0, .int .i64 0, .string ⟨#[]⟩, .slice none 0 0, .slice none 0 0] (0, 0) _ rfl (fill5 BK1.out) Tryz.underlying25 rfl (by kernel_rfl)) rfl ?_
  exact ⟨⟨0, 0, ⟨#[]⟩, [], []⟩, s, true, _, _, rfl, Kd.R_nil _ _ _ _ _, Kd.R_nil _ _ _ _ _, far5 H1.out ne2', gb_new5 (grown_of_below HB1.out _) (Nat.le_refl _), Nat.le_refl _, fun y r e => (by simp at e), fun _ => rfl⟩
 | false =>
  obtain ⟨k, rfl⟩ : ∃ k', k = k' + 1 := ⟨k - 1, by omega⟩
  obtain ⟨R0, hR0⟩ : ∃ R0, readV (k + 1) s = R0 := ⟨_, rfl⟩
  rw [if_neg (by decide), hR0]
  have HR0 := Aside0.mk hR0
  have HROW := Aside0.mk hrow
  clear h hG hB hrow hW1 e1 e2 e4 e5 hR0
  go_enter Tryz.func23, Tryz.ntmps23
  go_wp2_with (rw [HW1.out])
  refine (words_calls W1).mono ?_
  rintro e w2 ⟨rfl, hm2, hb2⟩
  have hrg := run_range_map (P := Tryz.prog) w2 59 9 25 W1.heap.size wEnts 3 Tryz.underlying59 hm2
  have hr3 : (w2.alloc (.mapIter (some W1.heap.size) 3 #[] 3)).heap[w2.heap.size]? = some (.mapIter (some W1.heap.size) 3 #[] 3) := Go.heap_alloc_new w2 _
  have hm3 : (w2.alloc (.mapIter (some W1.heap.size) 3 #[] 3)).heap[W1.heap.size]? = some (.map wEnts 3) := blk_alloc_ hm2 _
  have hz2 : W1.heap.size < w2.heap.size := (Array.getElem?_eq_some_iff.1 hm2).1
  have H3 := Aside0.mk ((H1.out.below hb2).alloc (.mapIter (some W1.heap.size) 3 #[] 3))
  have BK3 := Aside0.mk (blk_alloc (blk_below BK1.out hb2) (.mapIter (some W1.heap.size) 3 #[] 3))
  have GB3 := Aside0.mk (grown_of_below (below_alloc (below_then HB1.out HB1.out.size hb2) (.mapIter (some W1.heap.size) 3 #[] 3)) (some b))
  have HRM := Aside0.mk (And.intro hr3 hm3)
  generalize hbm : W1.heap.size = bm at hrg HRM H3 BK3 GB3 hz2 ⊢
  have SZ := Aside0.mk (show w.heap.size < bm ∧ bm < w2.heap.size by have := SZ1.out; omega)
  clear hm2 hb2 hr3 hm3 hz2 hbm
  go_wp2
  go_loopw [] (fun wr => ∃ (seen : Array Nat) (c0 : Nat), Aside0 (3 ≤ c0 ∧ wr.heap[w2.heap.size]? = some (.mapIter (some bm) 3 seen c0) ∧ wr.heap[bm]? = some (.map wEnts 3)) ∧ Aside0 (Rs wr b s false) ∧ Aside0 (wr.heap[w.heap.size]? = some (.cells #[.int .i64 0, .int .i64 0, .string ⟨#[]⟩, .slice none 0 0, .slice none 0 0] 25 (0, 0))) ∧ Aside0 (w.grownBy wr (some b)) ∧ Aside0 (∀ x ∈ wEnts.toList, seen.contains x.born = true → ¬ keyL x <+: s)) (fun wr => (leftOf wEnts (wr.iterSeen w2.heap.size)).size)
  case atStart => exact ⟨#[], 3, ⟨Nat.le_refl _, HRM.out.1, HRM.out.2⟩, H3, BK3, GB3, ⟨fun x _ hx => by simp at hx⟩⟩
  case round =>
   obtain ⟨seen, c0, HI, H4, BK4, GB4, HSN⟩ := hrel
   clear HRM H3 BK3 GB3 H1 BK1 HB1 SZ1 HW1 hrg
   have hold : ∀ x ∈ wEnts.toList, x.born < 3 := by decide
   have hnod : (wEnts.toList.map (·.born)).Nodup := by decide
   rcases run_next_at (P := Tryz.prog) wr 0 w2.heap.size bm 3 c0 seen wEnts 3 HI.out.2.1 HI.out.2.2 hold HI.out.1 with ⟨hz, hrun⟩ | ⟨e, he, wn, hwn, hrun⟩
   ·have hnx : ∀ ty, (Instr.next (.pointer (some ⟨w2.heap.size, 0, none⟩)) false ty).run Tryz.prog wr = _ := fun _ => hrun
    have HNO := Aside0.mk (show ∀ x ∈ wEnts.toList, ¬ keyL x <+: s from fun x hx => HSN.out x hx (all_seen wEnts seen hz x hx))
    clear hrun hz
    have c0_ := H4.out.c0
    by_cases h34 : [34] <+: s
    ·have n1_ : ¬ w_null <+: s := HNO.out _ (List.mem_cons_self ..)
     have n2_ : ¬ w_true <+: s := HNO.out _ (List.mem_cons_of_mem _ (List.mem_cons_self ..))
     have n3_ : ¬ w_false <+: s := HNO.out _ (List.mem_cons_of_mem _ (List.mem_cons_of_mem _ (List.mem_cons_self ..)))
     have HP := Aside0.mk h34
     have HR := Aside0.mk (show R0 = (readQ s).map (fun p => ((⟨4, 0, ba p.1, [], []⟩ : V), p.2)) by rw [← HR0.out, readV, if_neg n1_, if_neg n2_, if_neg n3_, if_pos h34])
     clear h34 n1_ n2_ n3_
     go_wp2_with fail
     refine (has_34 s true ⟨fun h => rfl, fun h => HP.out⟩ wr).mono ?_
     rintro e w5 ⟨rfl, rfl⟩
     go_wp2_with fail
     refine (text_calls b s w5 H4.out hs).mono ?_
     rintro e w7 ⟨t, s1, bad1, rfl, h7, g7, hl7, ht7, hs7, hn7⟩
     have H7 := Aside0.mk h7
     have BK7 := Aside0.mk (gb_blk BK4.out g7 ne2)
     have GB7 := Aside0.mk (GB4.out.trans g7)
     have HX := Aside0.mk (And.intro hl7 (And.intro hs7 hn7))
     clear h7 g7 hl7 ht7 hs7 hn7
     have m0 := (blk_cell BK7.out 0).trans (rfl : _ = some (Value.int .i64 0))
     have m1 := (blk_cell BK7.out 1).trans (rfl : _ = some (Value.int .i64 0))
     have m2 := (blk_cell BK7.out 2).trans (rfl : _ = some (Value.string ⟨#[]⟩))
     have m3 := (blk_cell BK7.out 3).trans (rfl : _ = some (Value.slice none 0 0))
     have m4 := (blk_cell BK7.out 4).trans (rfl : _ = some (Value.slice none 0 0))
     have i0 := blk_frozen BK7.out 0
     have i1 := blk_frozen BK7.out 1
     have i2 := blk_frozen BK7.out 2
     have i3 := blk_frozen BK7.out 3
     have i4 := blk_frozen BK7.out 4
     go_wp2
     refine bodyPost_ret (results_cell_row rfl _ _ w.heap.size 25 #[.int .i64 4, .int .i64 0, .string (ba t), .slice none 0 0, .slice none 0 0] (0, 0) _ rfl (fill5 BK7.out) Tryz.underlying25 rfl (by kernel_rfl)) rfl ?_
     refine ⟨⟨4, 0, ba t, [], []⟩, s1, bad1, _, _, rfl, Kd.R_nil _ _ _ _ _, Kd.R_nil _ _ _ _ _, far5 H7.out ne2', gb_new5 GB7.out (Nat.le_refl _), HX.out.1, ?_, ?_⟩
     ·intro y r e
      rw [HR.out] at e
      cases hq : readQ s with
      | none => rw [hq] at e; cases e
      | some p =>
       obtain ⟨t', r'⟩ := p
       rw [hq] at e
       simp only [Option.map_some, Option.some.injEq, Prod.mk.injEq] at e
       obtain ⟨rfl, rfl⟩ := e
       obtain ⟨rfl, rfl, h3⟩ := HX.out.2.1 t' r' hq
       exact ⟨rfl, rfl, h3⟩
     ·intro e
      rw [HR.out] at e
      exact HX.out.2.2 (by cases hq : readQ s with | none => rfl | some p => rw [hq] at e; cases e)
    by_cases hc : [91] <+: s
    ·have n1_ : ¬ w_null <+: s := HNO.out _ (List.mem_cons_self ..)
     have n2_ : ¬ w_true <+: s := HNO.out _ (List.mem_cons_of_mem _ (List.mem_cons_self ..))
     have n3_ : ¬ w_false <+: s := HNO.out _ (List.mem_cons_of_mem _ (List.mem_cons_of_mem _ (List.mem_cons_self ..)))
     have HN34 := Aside0.mk h34
     have HP := Aside0.mk hc
     have hl1 := hc.length_le
     simp only [List.length_cons, List.length_nil] at hl1
     have HR := Aside0.mk (show R0 = readRow k false (s.drop 1) by rw [← HR0.out, readV, if_neg n1_, if_neg n2_, if_neg n3_, if_neg h34, if_pos hc])
     clear h34 hc n1_ n2_ n3_
     go_wp2_with fail
     refine (has_34 s false ⟨fun h => absurd h HN34.out, fun h => (by cases h)⟩ wr).mono ?_
     rintro e w5 ⟨rfl, rfl⟩
     go_wp2_with fail
     refine (take_yes b s [91] false w5 H4.out HP.out).mono ?_
     rintro e w6 ⟨rfl, h6, g6⟩
     have H6 := Aside0.mk h6
     have BK6 := Aside0.mk (gb_blk BK4.out g6 ne2)
     have GB6 := Aside0.mk (GB4.out.trans g6)
     have hzz : w.heap.size < w6.heap.size := blk_lt BK6.out
     have HRC := Aside0.mk (show Calls Tryz.prog 41 #[.pointer (some ⟨b, 0, none⟩), .agg #[.int .i64 5, .int .i64 0, .string ⟨#[]⟩, .slice none 0 0, .slice none 0 0], .string ⟨#[93]⟩] w6 (VOut w6 b (s.drop 1).length (readRow k false (s.drop 1))) from HROW.out k (by omega) false b (s.drop 1) w6 w0 H6.out HG.out (HB.out.grown GB6.out HB.out.size (fun k e => by injection e with e; omega)) hb0 (by rw [List.length_drop]; omega) (by rw [List.length_drop]; omega))
     clear h6 g6
     go_wp2_with fail
     refine HRC.out.mono ?_
     rintro e w7 ⟨x, s', bad', c3, c4, rfl, hx3, hx4, h7, g7, hl7, hs7, hn7⟩
     obtain ⟨A3, q3, rfl⟩ := Kd.R_slice hx3
     obtain ⟨A4, q4, rfl⟩ := Kd.R_slice hx4
     have HX3 := Aside0.mk hx3
     have HX4 := Aside0.mk hx4
     have H7 := Aside0.mk h7
     have BK7 := Aside0.mk (gb_blk BK6.out g7 ne2)
     have GB7 := Aside0.mk (GB6.out.trans g7)
     have HX := Aside0.mk (And.intro hl7 (And.intro hs7 hn7))
     clear hx3 hx4 h7 g7 hl7 hs7 hn7
     have m0 := (blk_cell BK7.out 0).trans (rfl : _ = some (Value.int .i64 0))
     have m1 := (blk_cell BK7.out 1).trans (rfl : _ = some (Value.int .i64 0))
     have m2 := (blk_cell BK7.out 2).trans (rfl : _ = some (Value.string ⟨#[]⟩))
     have m3 := (blk_cell BK7.out 3).trans (rfl : _ = some (Value.slice none 0 0))
     have m4 := (blk_cell BK7.out 4).trans (rfl : _ = some (Value.slice none 0 0))
     have i0 := blk_frozen BK7.out 0
     have i1 := blk_frozen BK7.out 1
     have i2 := blk_frozen BK7.out 2
     have i3 := blk_frozen BK7.out 3
     have i4 := blk_frozen BK7.out 4
     go_wp2
     refine bodyPost_ret (results_cell_row rfl _ _ w.heap.size 25 #[.int .i64 x.f0, .int .i64 x.f1, .string x.f2, .slice A3 x.f3.length q3, .slice A4 x.f4.length q4] (0, 0) _ rfl (fill5 BK7.out) Tryz.underlying25 rfl (by kernel_rfl)) rfl ?_
     refine ⟨x, s', bad', _, _, rfl, R_set5 HX3.out (fun _ hk_ => hk_) hzz (Nat.le_of_lt hzz) _ _ _ _ _, R_set5 HX4.out (fun _ hk_ => hk_) hzz (Nat.le_of_lt hzz) _ _ _ _ _, far5 H7.out ne2', gb_new5 GB7.out (Nat.le_refl _), by have h_ := HX.out.1; rw [List.length_drop] at h_; omega, ?_, ?_⟩
     ·intro y r e; rw [HR.out] at e; exact HX.out.2.1 y r e
     ·intro e; rw [HR.out] at e; exact HX.out.2.2 e
    have HN91 := Aside0.mk hc
    have hn91 := hc
    clear hc
    by_cases hc : [123] <+: s
    ·clear c1
     have n1_ : ¬ w_null <+: s := HNO.out _ (List.mem_cons_self ..)
     have n2_ : ¬ w_true <+: s := HNO.out _ (List.mem_cons_of_mem _ (List.mem_cons_self ..))
     have n3_ : ¬ w_false <+: s := HNO.out _ (List.mem_cons_of_mem _ (List.mem_cons_of_mem _ (List.mem_cons_self ..)))
     have HN34 := Aside0.mk h34
     have HP := Aside0.mk hc
     have hl1 := hc.length_le
     simp only [List.length_cons, List.length_nil] at hl1
     have HR := Aside0.mk (show R0 = readRow k true (s.drop 1) by rw [← HR0.out, readV, if_neg n1_, if_neg n2_, if_neg n3_, if_neg h34, if_neg hn91, if_pos hc])
     clear h34 hc n1_ n2_ n3_
     go_wp2_with fail
     refine (has_34 s false ⟨fun h => absurd h HN34.out, fun h => (by cases h)⟩ wr).mono ?_
     rintro e w5 ⟨rfl, rfl⟩
     go_wp2_with fail
     refine (take_no b s [91] false w5 H4.out HN91.out).mono ?_
     rintro e w5' ⟨rfl, rfl⟩
     go_wp2_with fail
     refine (take_yes b s [123] false w5' H4.out HP.out).mono ?_
     rintro e w6 ⟨rfl, h6, g6⟩
     have H6 := Aside0.mk h6
     have BK6 := Aside0.mk (gb_blk BK4.out g6 ne2)
     have GB6 := Aside0.mk (GB4.out.trans g6)
     have hzz : w.heap.size < w6.heap.size := blk_lt BK6.out
     have HRC := Aside0.mk (show Calls Tryz.prog 41 #[.pointer (some ⟨b, 0, none⟩), .agg #[.int .i64 6, .int .i64 0, .string ⟨#[]⟩, .slice none 0 0, .slice none 0 0], .string ⟨#[125]⟩] w6 (VOut w6 b (s.drop 1).length (readRow k true (s.drop 1))) from HROW.out k (by omega) true b (s.drop 1) w6 w0 H6.out HG.out (HB.out.grown GB6.out HB.out.size (fun k e => by injection e with e; omega)) hb0 (by rw [List.length_drop]; omega) (by rw [List.length_drop]; omega))
     clear h6 g6
     go_wp2_with fail
     refine HRC.out.mono ?_
     rintro e w7 ⟨x, s', bad', c3, c4, rfl, hx3, hx4, h7, g7, hl7, hs7, hn7⟩
     obtain ⟨A3, q3, rfl⟩ := Kd.R_slice hx3
     obtain ⟨A4, q4, rfl⟩ := Kd.R_slice hx4
     have HX3 := Aside0.mk hx3
     have HX4 := Aside0.mk hx4
     have H7 := Aside0.mk h7
     have BK7 := Aside0.mk (gb_blk BK6.out g7 ne2)
     have GB7 := Aside0.mk (GB6.out.trans g7)
     have HX := Aside0.mk (And.intro hl7 (And.intro hs7 hn7))
     clear hx3 hx4 h7 g7 hl7 hs7 hn7
     have m0 := (blk_cell BK7.out 0).trans (rfl : _ = some (Value.int .i64 0))
     have m1 := (blk_cell BK7.out 1).trans (rfl : _ = some (Value.int .i64 0))
     have m2 := (blk_cell BK7.out 2).trans (rfl : _ = some (Value.string ⟨#[]⟩))
     have m3 := (blk_cell BK7.out 3).trans (rfl : _ = some (Value.slice none 0 0))
     have m4 := (blk_cell BK7.out 4).trans (rfl : _ = some (Value.slice none 0 0))
     have i0 := blk_frozen BK7.out 0
     have i1 := blk_frozen BK7.out 1
     have i2 := blk_frozen BK7.out 2
     have i3 := blk_frozen BK7.out 3
     have i4 := blk_frozen BK7.out 4
     go_wp2
     refine bodyPost_ret (results_cell_row rfl _ _ w.heap.size 25 #[.int .i64 x.f0, .int .i64 x.f1, .string x.f2, .slice A3 x.f3.length q3, .slice A4 x.f4.length q4] (0, 0) _ rfl (fill5 BK7.out) Tryz.underlying25 rfl (by kernel_rfl)) rfl ?_
     refine ⟨x, s', bad', _, _, rfl, R_set5 HX3.out (fun _ hk_ => hk_) hzz (Nat.le_of_lt hzz) _ _ _ _ _, R_set5 HX4.out (fun _ hk_ => hk_) hzz (Nat.le_of_lt hzz) _ _ _ _ _, far5 H7.out ne2', gb_new5 GB7.out (Nat.le_refl _), by have h_ := HX.out.1; rw [List.length_drop] at h_; omega, ?_, ?_⟩
     ·intro y r e; rw [HR.out] at e; exact HX.out.2.1 y r e
     ·intro e; rw [HR.out] at e; exact HX.out.2.2 e
    ·have h123 := hc
     clear hc hn91
     have n1_ : ¬ w_null <+: s := HNO.out _ (List.mem_cons_self ..)
     have n2_ : ¬ w_true <+: s := HNO.out _ (List.mem_cons_of_mem _ (List.mem_cons_self ..))
     have n3_ : ¬ w_false <+: s := HNO.out _ (List.mem_cons_of_mem _ (List.mem_cons_of_mem _ (List.mem_cons_self ..)))
     have HN34 := Aside0.mk h34
     have HN123 := Aside0.mk h123
     have HR := Aside0.mk (show R0 = readNum s by rw [← HR0.out, readV, if_neg n1_, if_neg n2_, if_neg n3_, if_neg h34, if_neg HN91.out, if_neg h123])
     clear h34 h123 n1_ n2_ n3_
     have hzz : w.heap.size < wr.heap.size := blk_lt BK4.out
     go_wp2_with fail
     refine (has_34 s false ⟨fun h => absurd h HN34.out, fun h => (by cases h)⟩ wr).mono ?_
     rintro e w5 ⟨rfl, rfl⟩
     go_wp2_with fail
     refine (take_no b s [91] false w5 H4.out HN91.out).mono ?_
     rintro e w5' ⟨rfl, rfl⟩
     go_wp2_with fail
     refine (take_no b s [123] false w5' H4.out HN123.out).mono ?_
     rintro e w6 ⟨rfl, rfl⟩
     go_wp2_with fail
     refine (number_calls b s w6 w0 H4.out hs HG.out (HB.out.grown GB4.out HB.out.size (fun k e => by injection e with e; omega)) hb0).mono ?_
     rintro e w7 ⟨x, s', bad', c3, c4, rfl, hx3, hx4, h7, g7, hl7, hs7, hn7⟩
     obtain ⟨A3, q3, rfl⟩ := Kd.R_slice hx3
     obtain ⟨A4, q4, rfl⟩ := Kd.R_slice hx4
     have HX3 := Aside0.mk hx3
     have HX4 := Aside0.mk hx4
     have H7 := Aside0.mk h7
     have BK7 := Aside0.mk (gb_blk BK4.out g7 ne2)
     have GB7 := Aside0.mk (GB4.out.trans g7)
     have HX := Aside0.mk (And.intro hl7 (And.intro hs7 hn7))
     clear hx3 hx4 h7 g7 hl7 hs7 hn7
     have m0 := (blk_cell BK7.out 0).trans (rfl : _ = some (Value.int .i64 0))
     have m1 := (blk_cell BK7.out 1).trans (rfl : _ = some (Value.int .i64 0))
     have m2 := (blk_cell BK7.out 2).trans (rfl : _ = some (Value.string ⟨#[]⟩))
     have m3 := (blk_cell BK7.out 3).trans (rfl : _ = some (Value.slice none 0 0))
     have m4 := (blk_cell BK7.out 4).trans (rfl : _ = some (Value.slice none 0 0))
     have i0 := blk_frozen BK7.out 0
     have i1 := blk_frozen BK7.out 1
     have i2 := blk_frozen BK7.out 2
     have i3 := blk_frozen BK7.out 3
     have i4 := blk_frozen BK7.out 4
     go_wp2
     refine bodyPost_ret (results_cell_row rfl _ _ w.heap.size 25 #[.int .i64 x.f0, .int .i64 x.f1, .string x.f2, .slice A3 x.f3.length q3, .slice A4 x.f4.length q4] (0, 0) _ rfl (fill5 BK7.out) Tryz.underlying25 rfl (by kernel_rfl)) rfl ?_
     refine ⟨x, s', bad', _, _, rfl, R_set5 HX3.out (fun _ hk_ => hk_) hzz (Nat.le_of_lt hzz) _ _ _ _ _, R_set5 HX4.out (fun _ hk_ => hk_) hzz (Nat.le_of_lt hzz) _ _ _ _ _, far5 H7.out ne2', gb_new5 GB7.out (Nat.le_refl _), HX.out.1, ?_, ?_⟩
     ·intro y r e; rw [HR.out] at e; exact HX.out.2.1 y r e
     ·intro e; rw [HR.out] at e; exact HX.out.2.2 e
   ·clear c1
    have c1 := H4.out.c1
    obtain ⟨l, a, c, hkl, hee, hread⟩ := wEnts_word (mem_left he).1 k s
    obtain ⟨n, hn⟩ : ∃ n, e.born = n := ⟨_, rfl⟩
    rw [hn] at hee
    have hseen := (mem_left he).2
    have hmem := (mem_left he).1
    have hshr := left_shrinks wEnts seen e he
    have hwm : wn.heap[bm]? = some (.map wEnts 3) := by rcases hwn with rfl | rfl <;> exact HI.out.2.2
    have hwr_ : wn.heap[w2.heap.size]? = some (.mapIter (some bm) 3 seen c0) := by rcases hwn with rfl | rfl <;> exact HI.out.2.1
    have hwg : wr.grownBy wn (some b) := by rcases hwn with rfl | rfl; exact World.grownBy.refl _ _; exact grown_of_below (below_drew (Below.refl _ _)) _
    have hr5 := block_set (o := .mapIter (some bm) 3 (seen.push e.born) 3) hwr_
    have hm5 : (setBlock wn w2.heap.size (.mapIter (some bm) 3 (seen.push e.born) 3)).heap[bm]? = some (.map wEnts 3) := (setBlock_far (by have := SZ.out; omega) _).trans hwm
    have hg5 := gb_setBlock (GB4.out.trans hwg) (show w.heap.size ≤ w2.heap.size by have := SZ.out; omega) (.mapIter (some bm) 3 (seen.push e.born) 3)
    have hR5 : Rs (setBlock wn w2.heap.size (.mapIter (some bm) 3 (seen.push e.born) 3)) b s false := (setBlock_far (by have := SZ.out; omega) _).trans (H4.out.grown' hwg)
    have hb5 : (setBlock wn w2.heap.size (.mapIter (some bm) 3 (seen.push e.born) 3)).heap[w.heap.size]? = _ := (setBlock_far (by have := SZ.out; omega) _).trans (gb_blk BK4.out hwg ne2)
    have hen := run_entry_at (P := Tryz.prog) _ w2.heap.size bm 3 seen wEnts 3 e hr5 hm5 hmem hnod
    rw [hee] at hen hrun
    have HSH := Aside0.mk (And.intro hshr (And.intro hmem hkl))
    have HRD := Aside0.mk hread
    rw [hn] at hr5 hm5 hg5 hR5 hb5 hshr
    generalize setBlock wn w2.heap.size (.mapIter (some bm) 3 (seen.push n) 3) = W5 at hrun hr5 hm5 hg5 hR5 hb5 hen
    have hnx : ∀ ty, (Instr.next (.pointer (some ⟨w2.heap.size, 0, none⟩)) false ty).run Tryz.prog wr = _ := fun _ => hrun
    have HI5 := Aside0.mk (And.intro hr5 hm5)
    have H5 := Aside0.mk hR5
    have BK5 := Aside0.mk hb5
    have GB5 := Aside0.mk hg5
    have HNE := Aside0.mk (And.intro hn (And.intro hee hseen))
    clear hrun hr5 hm5 hg5 hR5 hb5 hwm hwr_ hwg hwn hn hee hseen hmem hshr hkl hread he
    go_wp2_with fail
    have CN := Aside0.mk (blk_new W5 (.cells #[.int .i64 a, .int .i64 c, .string ⟨#[]⟩, .slice none 0 0, .slice none 0 0] 25))
    have H6 := Aside0.mk (H5.out.alloc (.cells #[.int .i64 a, .int .i64 c, .string ⟨#[]⟩, .slice none 0 0, .slice none 0 0] 25))
    have BK6 := Aside0.mk (blk_alloc BK5.out (.cells #[.int .i64 a, .int .i64 c, .string ⟨#[]⟩, .slice none 0 0, .slice none 0 0] 25))
    have GB6 := Aside0.mk (GB5.out.trans (World.grownBy_alloc W5 (.cells #[.int .i64 a, .int .i64 c, .string ⟨#[]⟩, .slice none 0 0, .slice none 0 0] 25) (some b)))
    have HI6 := Aside0.mk (And.intro (blk_alloc_ HI5.out.1 (.cells #[.int .i64 a, .int .i64 c, .string ⟨#[]⟩, .slice none 0 0, .slice none 0 0] 25)) (blk_alloc_ HI5.out.2 (.cells #[.int .i64 a, .int .i64 c, .string ⟨#[]⟩, .slice none 0 0, .slice none 0 0] 25)))
    have hb5 : b < W5.heap.size := H5.out.lt
    have hg5 : w.heap.size < W5.heap.size := blk_lt BK5.out
    have ne5 : W5.heap.size ≠ b := by omega
    by_cases hp : l <+: s
    ·have HP := Aside0.mk hp
     have HR := Aside0.mk (HR0.out.symm.trans (HRD.out hp))
     clear hp
     refine (take_yes b s l false _ H6.out HP.out).mono ?_
     rintro e7 w7 ⟨rfl, h7, g7⟩
     have H7 := Aside0.mk h7
     have BK7 := Aside0.mk (gb_blk BK6.out g7 ne2)
     have CN7 := gb_blk CN.out g7 ne5
     have GB7 := Aside0.mk (GB6.out.trans g7)
     have k0 := (blk_cell CN7 0).trans (rfl : _ = some (Value.int .i64 a))
     have k1 := (blk_cell CN7 1).trans (rfl : _ = some (Value.int .i64 c))
     have k2 := (blk_cell CN7 2).trans (rfl : _ = some (Value.string ⟨#[]⟩))
     have k3 := (blk_cell CN7 3).trans (rfl : _ = some (Value.slice none 0 0))
     have k4 := (blk_cell CN7 4).trans (rfl : _ = some (Value.slice none 0 0))
     clear h7 g7 CN7 hnx hen
     have m0 := (blk_cell BK7.out 0).trans (rfl : _ = some (Value.int .i64 0))
     have m1 := (blk_cell BK7.out 1).trans (rfl : _ = some (Value.int .i64 0))
     have m2 := (blk_cell BK7.out 2).trans (rfl : _ = some (Value.string ⟨#[]⟩))
     have m3 := (blk_cell BK7.out 3).trans (rfl : _ = some (Value.slice none 0 0))
     have m4 := (blk_cell BK7.out 4).trans (rfl : _ = some (Value.slice none 0 0))
     have i0 := blk_frozen BK7.out 0
     have i1 := blk_frozen BK7.out 1
     have i2 := blk_frozen BK7.out 2
     have i3 := blk_frozen BK7.out 3
     have i4 := blk_frozen BK7.out 4
     go_wp2
     refine bodyPost_ret (results_cell_row rfl _ _ w.heap.size 25 #[.int .i64 a, .int .i64 c, .string ⟨#[]⟩, .slice none 0 0, .slice none 0 0] (0, 0) _ rfl (fill5 BK7.out) Tryz.underlying25 rfl (by kernel_rfl)) rfl ?_
     refine ⟨⟨a, c, ⟨#[]⟩, [], []⟩, s.drop l.length, false, _, _, rfl, Kd.R_nil _ _ _ _ _, Kd.R_nil _ _ _ _ _, far5 H7.out ne2', gb_new5 GB7.out (Nat.le_refl _), by simp, ?_, ?_⟩
     ·intro y r e_
      rw [HR.out] at e_
      simp only [Option.some.injEq, Prod.mk.injEq] at e_
      obtain ⟨rfl, rfl⟩ := e_
      exact ⟨rfl, rfl, rfl⟩
     ·intro e_; rw [HR.out] at e_; cases e_
    ·have HP := Aside0.mk hp
     clear hp
     refine (take_no b s l false _ H6.out HP.out).mono ?_
     rintro e7 w7 ⟨rfl, rfl⟩
     clear hnx hen
     go_wp2
     go_roundw
     case rel =>
      refine ⟨seen.push n, 3, ⟨Nat.le_refl _, HI6.out.1, HI6.out.2⟩, H6, BK6, GB6, ⟨fun x hx hc => ?_⟩⟩
      rw [contains_push] at hc
      rcases Bool.or_eq_true _ _ ▸ hc with h1 | h1
      ·exact HSN.out x hx h1
      ·have hxe : x = e := born_inj hnod hx HSH.out.2.1 (by rw [HNE.out.1]; exact beq_iff_eq.1 h1)
       rw [hxe, HSH.out.2.2]; exact HP.out
     case measure =>
      rw [iterSeen_of HI6.out.1, iterSeen_of HI.out.2.1]
      have h_ := HSH.out.1
      rw [HNE.out.1] at h_
      exact h_
theorem reads_all : ∀ k, VC k ∧ ∀ obj, RC k obj := by
 intro k
 induction k using Nat.strongRecOn with
 | _ k ih => exact ⟨value_calls k (fun j hj obj => (ih j hj).2 obj), fun obj => by
   cases obj with
   | true => exact rowO_calls k (fun j hj => (ih j hj).1)
   | false => exact rowL_calls k (fun j hj => (ih j hj).1)⟩
end Go.Proofs.YtifejhbochkifaaGreatDoor.X

/-! HPar -/
namespace Go.Proofs.YtifejhbochkifaaGreatDoor.X
open Go.RowKit Go.Proofs.YtifejhbochkifaaGreatDoorW.PrintWords Go.Proofs.YtifejhbochkifaaGreatDoorW.PrintLast Go.Proofs.YtifejhbochkifaaGreatDoorW.PrintMore Go.Proofs.YtifejhbochkifaaGreatDoor.Spec
set_option linter.unusedVariables false
set_option linter.unusedSimpArgs false
theorem fits_up : ∀ (d e : Nat) (x : V), d ≤ e → fitsB d x = true → fitsB e x = true ∧ rend e x = rend d x := by
 intro d
 induction d with
 | zero => intro e x _ h; simp [fitsB] at h
 | succ d ih =>
  intro e x hde h
  obtain ⟨e, rfl⟩ : ∃ e', e = e' + 1 := ⟨e - 1, by omega⟩
  have hs := fits_succ h
  have h3 : ∀ y ∈ x.f3, fitsB e y = true ∧ rend e y = rend d y := fun y hy => ih e y (by omega) (hs.2.2.2 y hy)
  constructor
  ·unfold fitsB
   rw [decide_eq_true hs.1.1, decide_eq_true hs.1.2, hs.2.1, hs.2.2.1]
   simp only [Bool.true_and, List.all_eq_true]
   exact fun y hy => (h3 y hy).1
  ·rw [rend, rend]
   have hm : x.f3.map (rend e) = x.f3.map (rend d) := List.map_congr_left (fun y hy => (h3 y hy).2)
   have hz : List.zipWith (fun k y => jq (bl k) ++ 58 :: rend e y) x.f4 x.f3 = List.zipWith (fun k y => jq (bl k) ++ 58 :: rend d y) x.f4 x.f3 := by
    have : ∀ (l : List V) (k : List ByteArray), (∀ y ∈ l, rend e y = rend d y) → List.zipWith (fun k y => jq (bl k) ++ 58 :: rend e y) k l = List.zipWith (fun k y => jq (bl k) ++ 58 :: rend d y) k l := by
     intro l
     induction l with
     | nil => intro k _; simp
     | cons y r ihr =>
      intro k hk
      cases k with
      | nil => simp
      | cons q k => rw [List.zipWith_cons_cons, List.zipWith_cons_cons, hk y (List.mem_cons_self ..), ihr k (fun z hz => hk z (List.mem_cons_of_mem _ hz))]
    exact this _ _ (fun y hy => (h3 y hy).2)
   rw [hm, hz]
set_option maxHeartbeats 2000000 in
set_option maxRecDepth 100000 in
theorem good_calls (x : V) (A3 A4 : Option Addr) (q3 q4 : Nat) (w : World) (h3 : x.f3.length ≤ q3) (h4 : x.f4.length ≤ q4) (g3 : Kd.C k25 w A3 x.f3.length x.f3) (g4 : Kd.C Kd.string w A4 x.f4.length x.f4) :
  Calls Tryz.prog 14 #[.agg #[.int .i64 x.f0, .int .i64 x.f1, .string x.f2, .slice A3 x.f3.length q3, .slice A4 x.f4.length q4]] w fun e w' => e = .returned (.bool (fitsB 8 x)) ∧ Below w.heap.size w w' := by
 have HF := Aside0.mk (fits_calls 8 (by omega) x A3 A4 q3 q4 (w.alloc (.cells #[.int .i64 x.f0, .int .i64 x.f1, .string x.f2, .slice A3 x.f3.length q3, .slice A4 x.f4.length q4] 25)) h3 h4 (Kd.C_alloc g3 _) (Kd.C_alloc g4 _))
 rw [show ((8 : Nat) : Int) = 8 from rfl] at HF
 obtain ⟨q, hq⟩ : ∃ q, fitsB 8 x = q := ⟨_, rfl⟩
 rw [hq] at HF ⊢
 clear h3 h4 g3 g4 hq
 go_enter Tryz.func14, Tryz.ntmps14
 go_wp2_with fail
 refine HF.out.mono ?_
 rintro e w2 ⟨rfl, hb2⟩
 have HB2 := Aside0.mk (below_then (below_alloc (Below.refl _ w) (.cells #[.int .i64 x.f0, .int .i64 x.f1, .string x.f2, .slice A3 x.f3.length q3, .slice A4 x.f4.length q4] 25)) (below_alloc (Below.refl _ w) (.cells #[.int .i64 x.f0, .int .i64 x.f1, .string x.f2, .slice A3 x.f3.length q3, .slice A4 x.f4.length q4] 25)).size hb2)
 clear hb2
 go_wp2
 go_ret
 exact ⟨rfl, HB2.out⟩
/-- What Print gives. -/
def printL (x : V) : List UInt8 := if fitsB 8 x then rend 8 x else []
set_option maxHeartbeats 2000000 in
set_option maxRecDepth 100000 in
theorem print_calls (x : V) (A3 A4 : Option Addr) (q3 q4 : Nat) (w : World) (hG : GOK w) (hl : (rend 8 x).length ≤ 1000000000) (h3 : x.f3.length ≤ q3) (h4 : x.f4.length ≤ q4) (g3 : Kd.C k25 w A3 x.f3.length x.f3) (g4 : Kd.C Kd.string w A4 x.f4.length x.f4) :
  Calls Tryz.prog 13 #[.agg #[.int .i64 x.f0, .int .i64 x.f1, .string x.f2, .slice A3 x.f3.length q3, .slice A4 x.f4.length q4]] w fun e w' => e = .returned (.string (ba (printL x))) ∧ Below w.heap.size w w' := by
 obtain ⟨W1, hW1⟩ : ∃ W, w.alloc (.cells #[.int .i64 x.f0, .int .i64 x.f1, .string x.f2, .slice A3 x.f3.length q3, .slice A4 x.f4.length q4] 25) = W := ⟨_, rfl⟩
 have bk := blk_new w (.cells #[.int .i64 x.f0, .int .i64 x.f1, .string x.f2, .slice A3 x.f3.length q3, .slice A4 x.f4.length q4] 25)
 have hb1 := below_alloc (Below.refl _ w) (.cells #[.int .i64 x.f0, .int .i64 x.f1, .string x.f2, .slice A3 x.f3.length q3, .slice A4 x.f4.length q4] 25)
 rw [hW1] at bk hb1
 have HW1 := Aside0.mk hW1
 have m0 := (blk_cell bk 0).trans (rfl : _ = some (Value.int .i64 x.f0))
 have m1 := (blk_cell bk 1).trans (rfl : _ = some (Value.int .i64 x.f1))
 have m2 := (blk_cell bk 2).trans (rfl : _ = some (Value.string x.f2))
 have m3 := (blk_cell bk 3).trans (rfl : _ = some (Value.slice A3 x.f3.length q3))
 have m4 := (blk_cell bk 4).trans (rfl : _ = some (Value.slice A4 x.f4.length q4))
 have HGD := Aside0.mk (good_calls x A3 A4 q3 q4 W1 h3 h4 (Kd.C_below g3 hb1) (Kd.C_below g4 hb1))
 have HB1 := Aside0.mk hb1
 have BK1 := Aside0.mk bk
 cases hf : fitsB 8 x with
 | false =>
  have hp : printL x = [] := by unfold printL; rw [hf]; rfl
  rw [hp]
  rw [hf] at HGD
  clear hW1 bk hb1 h3 h4 g3 g4 hG hp hf hl
  go_enter Tryz.func13, Tryz.ntmps13
  go_wp2_with (rw [HW1.out])
  refine HGD.out.mono ?_
  rintro e w2 ⟨rfl, hb2⟩
  have HB2 := Aside0.mk (below_then HB1.out HB1.out.size hb2)
  clear hb2
  go_wp2
  go_ret
  exact ⟨rfl, HB2.out⟩
 | true =>
  have hp : printL x = rend 8 x := by unfold printL; rw [hf]; rfl
  have HRN := Aside0.mk (fun (W : World) (hW : Below W1.heap.size W1 W) => render_calls 8 x A3 A4 q3 q4 W hf hl (hG.below (below_then hb1 hb1.size hW)) h3 h4 (Kd.C_below (Kd.C_below g3 hb1) hW) (Kd.C_below (Kd.C_below g4 hb1) hW))
  rw [hp]
  rw [hf] at HGD
  obtain ⟨R, hR⟩ : ∃ R, ba (rend 8 x) = R := ⟨_, rfl⟩
  rw [hR] at HRN ⊢
  clear hW1 bk hb1 h3 h4 g3 g4 hG hp hf hl hR
  go_enter Tryz.func13, Tryz.ntmps13
  go_wp2_with (rw [HW1.out])
  refine HGD.out.mono ?_
  rintro e w2 ⟨rfl, hb2⟩
  have HB2 := Aside0.mk (below_then HB1.out HB1.out.size hb2)
  have HR2 := Aside0.mk (HRN.out w2 hb2)
  have bk2 := blk_below BK1.out hb2
  have k0 := (blk_cell bk2 0).trans (rfl : _ = some (Value.int .i64 x.f0))
  have k1 := (blk_cell bk2 1).trans (rfl : _ = some (Value.int .i64 x.f1))
  have k2 := (blk_cell bk2 2).trans (rfl : _ = some (Value.string x.f2))
  have k3 := (blk_cell bk2 3).trans (rfl : _ = some (Value.slice A3 x.f3.length q3))
  have k4 := (blk_cell bk2 4).trans (rfl : _ = some (Value.slice A4 x.f4.length q4))
  clear hb2 bk2
  go_wp2_with fail
  refine HR2.out.mono ?_
  rintro e w3 ⟨rfl, hb3⟩
  have HB3 := Aside0.mk (below_then HB2.out HB2.out.size hb3)
  clear hb3
  go_wp2
  go_ret
  exact ⟨rfl, HB3.out⟩
set_option maxHeartbeats 16000000 in
set_option maxRecDepth 100000 in
/-- A good value's text is read as it. -/
theorem parse_good (v : V) (s : List UInt8) (hs : s.length ≤ 4096) (h8 : fitsB 8 v = true) (hr : rend 8 v = s) (hl : 7 ≤ s.length) (w : World) (hG : GOK w) :
  Calls Tryz.prog 9 #[.string (ba s)] w fun e w' => ∃ c3 c4 : Value, e = .returned (.tuple #[.agg #[.int .i64 v.f0, .int .i64 v.f1, .string v.f2, c3, c4], .int .i64 0]) ∧ Kd.R k25 25 w' w.heap.size (fun k_ => w.heap.size ≤ k_) c3 v.f3 ∧ Kd.R Kd.string 9 w' w.heap.size (fun k_ => w.heap.size ≤ k_) c4 v.f4 ∧ Below w.heap.size w w' := by
 obtain ⟨hfl, hrl⟩ := fits_up 8 (s.length + 1) v (by omega) h8
 rw [hr] at hrl
 have hread : readV (4 * s.length + 4) s = some (v, []) := by
  have := readV_rend 8 v h8 (4 * s.length + 4) [] (by rw [hr]; simp) (fun c t e => by cases e)
  rwa [hr, List.append_nil] at this
 obtain ⟨z, hz⟩ : ∃ z, ba s = z := ⟨_, rfl⟩
 have hzs : z.size = s.length := by rw [← hz, size_ba]
 have e1 := blk_alloc (blk_new w (.cells #[.int .i64 0, .int .i64 0, .string ⟨#[]⟩, .slice none 0 0, .slice none 0 0] 25)) (.cells #[.string z, .bool false] 46)
 have e2 := blk_new (w.alloc (.cells #[.int .i64 0, .int .i64 0, .string ⟨#[]⟩, .slice none 0 0, .slice none 0 0] 25)) (.cells #[.string z, .bool false] 46)
 rw [show (w.alloc (.cells #[.int .i64 0, .int .i64 0, .string ⟨#[]⟩, .slice none 0 0, .slice none 0 0] 25)).heap.size = w.heap.size + 1 by simp] at e2
 have e3 := below_alloc (below_alloc (Below.refl _ w) (.cells #[.int .i64 0, .int .i64 0, .string ⟨#[]⟩, .slice none 0 0, .slice none 0 0] 25)) (.cells #[.string z, .bool false] 46)
 have e4 : ((w.alloc (.cells #[.int .i64 0, .int .i64 0, .string ⟨#[]⟩, .slice none 0 0, .slice none 0 0] 25)).alloc (.cells #[.string z, .bool false] 46)).heap.size = w.heap.size + 2 := by simp
 obtain ⟨W2, hW2⟩ : ∃ W, (w.alloc (.cells #[.int .i64 0, .int .i64 0, .string ⟨#[]⟩, .slice none 0 0, .slice none 0 0] 25)).alloc (.cells #[.string z, .bool false] 46) = W := ⟨_, rfl⟩
 rw [hW2] at e1 e2 e3 e4
 have H2 : Rs W2 (w.heap.size + 1) s false := by rw [← hz] at e2; exact e2
 have HV := Aside0.mk ((reads_all (4 * s.length + 4)).1 (w.heap.size + 1) s false W2 w H2 hG e3 (by omega) (by omega) (Nat.le_refl _))
 rw [if_neg (by decide), hread] at HV
 have HW2 := Aside0.mk hW2
 have BK2 := Aside0.mk e1
 have HB2 := Aside0.mk e3
 have SZ := Aside0.mk e4
 have HG := Aside0.mk hG
 have HFL := Aside0.mk hfl
 have HF8 := Aside0.mk h8
 have HRL := Aside0.mk hrl
 have HZ := Aside0.mk hz
 have hzl : decide ((4096 : Int) < (z.size : Int)) = false := decide_eq_false (by omega)
 have hzb : z.size ≤ 4096 := by omega
 have HSL := Aside0.mk (show s.length = z.size by omega)
 rw [hz]
 clear hfl hrl hread hz hzs e1 e2 e3 e4 hW2 H2 hs h8 hr hl hG
 go_enter Tryz.func9, Tryz.ntmps9
 go_wp2_with (rw [HW2.out])
 refine HV.out.mono ?_
 rintro e w3 ⟨x, s', bad, c3, c4, rfl, hx3, hx4, h3, g3, hl3, hy, hn⟩
 obtain ⟨rfl, rfl, rfl⟩ := hy v [] rfl
 obtain ⟨A3, q3, rfl, hr3⟩ := Kd.R_reads hx3
 obtain ⟨A4, q4, rfl, hr4⟩ := Kd.R_reads hx4
 obtain ⟨W4, hW4⟩ : ∃ W, w3.alloc (.cells #[.int .i64 x.f0, .int .i64 x.f1, .string x.f2, .slice A3 x.f3.length q3, .slice A4 x.f4.length q4] 25) = W := ⟨_, rfl⟩
 have bk4 := blk_new w3 (.cells #[.int .i64 x.f0, .int .i64 x.f1, .string x.f2, .slice A3 x.f3.length q3, .slice A4 x.f4.length q4] 25)
 have hb4 := below_alloc (Below.refl _ w3) (.cells #[.int .i64 x.f0, .int .i64 x.f1, .string x.f2, .slice A3 x.f3.length q3, .slice A4 x.f4.length q4] 25)
 rw [hW4] at bk4 hb4
 have hrs4 := h3.below hb4
 have k0 := hrs4.c0
 rw [show ba [] = (⟨#[]⟩ : ByteArray) from rfl] at k0
 have k1 := hrs4.c1
 have m0 := (blk_cell bk4 0).trans (rfl : _ = some (Value.int .i64 x.f0))
 have m1 := (blk_cell bk4 1).trans (rfl : _ = some (Value.int .i64 x.f1))
 have m2 := (blk_cell bk4 2).trans (rfl : _ = some (Value.string x.f2))
 have m3 := (blk_cell bk4 3).trans (rfl : _ = some (Value.slice A3 x.f3.length q3))
 have m4 := (blk_cell bk4 4).trans (rfl : _ = some (Value.slice A4 x.f4.length q4))
 have hbw3 : Below w.heap.size w w3 := ⟨g3.os.trans HB2.out.os, g3.tape.trans HB2.out.tape, g3.output.trans HB2.out.output, Nat.le_trans HB2.out.size g3.size, fun i hi => (g3.block i (by have := SZ.out; omega) (fun e => by injection e with e; omega)).trans (HB2.out.block i hi)⟩
 have HBW4 := Aside0.mk (below_then hbw3 hbw3.size hb4)
 have BK2' := Aside0.mk (blk_below (gb_blk BK2.out g3 (by omega)) hb4)
 have BK4 := Aside0.mk bk4
 have HW4 := Aside0.mk hW4
 have HX3 := Aside0.mk (Kd.R_lower hx3 (show w.heap.size ≤ W2.heap.size by have := SZ.out; omega))
 have HX4 := Aside0.mk (Kd.R_lower hx4 (show w.heap.size ≤ W2.heap.size by have := SZ.out; omega))
 have s1 : IntKind.i64.wrap ((z.size : Int) + 1) = (z.size : Int) + 1 := IntWalk.i64_in _ (by omega)
 have s2 : wrap64 ((z.size : Int) + 1) = (z.size : Int) + 1 := by unfold wrap64; omega
 have hft := fits_calls (s.length + 1) (by have := HSL.out; omega) x A3 A4 q3 q4 W4 hr3.1 hr4.1 (Kd.C_below hr3.2 hb4) (Kd.C_below hr4.2 hb4)
 rw [show ((s.length + 1 : Nat) : Int) = (z.size : Int) + 1 by have := HSL.out; omega, HFL.out] at hft
 have HFT := Aside0.mk hft
 have HRN := Aside0.mk (fun (W : World) (hW : Below W4.heap.size W4 W) => (show Calls Tryz.prog 25 #[.agg #[.int .i64 x.f0, .int .i64 x.f1, .string x.f2, .slice A3 x.f3.length q3, .slice A4 x.f4.length q4]] W fun e w' => e = .returned (.string z) ∧ Below W.heap.size W w' from by
  have := render_calls (s.length + 1) x A3 A4 q3 q4 W HFL.out (by rw [HRL.out]; have := HSL.out; omega) (HG.out.below (below_then HBW4.out HBW4.out.size hW)) hr3.1 hr4.1 (Kd.C_below (Kd.C_below hr3.2 hb4) hW) (Kd.C_below (Kd.C_below hr4.2 hb4) hW)
  rw [HRL.out, HZ.out] at this
  exact this))
 have HGD := Aside0.mk (fun (W : World) (hW : Below W4.heap.size W4 W) => (show Calls Tryz.prog 14 #[.agg #[.int .i64 x.f0, .int .i64 x.f1, .string x.f2, .slice A3 x.f3.length q3, .slice A4 x.f4.length q4]] W fun e w' => e = .returned (.bool true) ∧ Below W.heap.size W w' from by
  have := good_calls x A3 A4 q3 q4 W hr3.1 hr4.1 (Kd.C_below (Kd.C_below hr3.2 hb4) hW) (Kd.C_below (Kd.C_below hr4.2 hb4) hW)
  rw [HF8.out] at this
  exact this))
 have HHB4 := Aside0.mk hb4
 clear hft hr3 hr4 hx3 hx4 h3 g3 hl3 hy hn bk4 hb4 hW4 hrs4 hbw3
 go_wp2_with (rw [HW4.out])
 refine HFT.out.mono ?_
 rintro e w5 ⟨rfl, hb5⟩
 have HB5 := Aside0.mk hb5
 have HR5 := Aside0.mk (HRN.out w5 hb5)
 have bk5 := blk_below BK4.out hb5
 have r0 := (blk_cell bk5 0).trans (rfl : _ = some (Value.int .i64 x.f0))
 have r1 := (blk_cell bk5 1).trans (rfl : _ = some (Value.int .i64 x.f1))
 have r2 := (blk_cell bk5 2).trans (rfl : _ = some (Value.string x.f2))
 have r3 := (blk_cell bk5 3).trans (rfl : _ = some (Value.slice A3 x.f3.length q3))
 have r4 := (blk_cell bk5 4).trans (rfl : _ = some (Value.slice A4 x.f4.length q4))
 clear hb5 bk5
 go_wp2_with fail
 refine HR5.out.mono ?_
 rintro e w6 ⟨rfl, hb6⟩
 have HB6 := Aside0.mk (below_then HB5.out HB5.out.size hb6)
 have HG6 := Aside0.mk (HGD.out w6 HB6.out)
 have bk6 := blk_below BK4.out HB6.out
 have u0 := (blk_cell bk6 0).trans (rfl : _ = some (Value.int .i64 x.f0))
 have u1 := (blk_cell bk6 1).trans (rfl : _ = some (Value.int .i64 x.f1))
 have u2 := (blk_cell bk6 2).trans (rfl : _ = some (Value.string x.f2))
 have u3 := (blk_cell bk6 3).trans (rfl : _ = some (Value.slice A3 x.f3.length q3))
 have u4 := (blk_cell bk6 4).trans (rfl : _ = some (Value.slice A4 x.f4.length q4))
 clear hb6 bk6
 go_wp2_with fail
 refine HG6.out.mono ?_
 rintro e w7 ⟨rfl, hb7⟩
 have HB7 := Aside0.mk (below_then HB6.out HB6.out.size hb7)
 have bk7 := blk_below BK4.out HB7.out
 have bk2 := blk_below BK2'.out HB7.out
 have v0 := (blk_cell bk7 0).trans (rfl : _ = some (Value.int .i64 x.f0))
 have v1 := (blk_cell bk7 1).trans (rfl : _ = some (Value.int .i64 x.f1))
 have v2 := (blk_cell bk7 2).trans (rfl : _ = some (Value.string x.f2))
 have v3 := (blk_cell bk7 3).trans (rfl : _ = some (Value.slice A3 x.f3.length q3))
 have v4 := (blk_cell bk7 4).trans (rfl : _ = some (Value.slice A4 x.f4.length q4))
 have y0 := (blk_cell bk2 0).trans (rfl : _ = some (Value.int .i64 0))
 have y1 := (blk_cell bk2 1).trans (rfl : _ = some (Value.int .i64 0))
 have y2 := (blk_cell bk2 2).trans (rfl : _ = some (Value.string ⟨#[]⟩))
 have y3 := (blk_cell bk2 3).trans (rfl : _ = some (Value.slice none 0 0))
 have y4 := (blk_cell bk2 4).trans (rfl : _ = some (Value.slice none 0 0))
 have i0 := blk_frozen bk2 0
 have i1 := blk_frozen bk2 1
 have i2 := blk_frozen bk2 2
 have i3 := blk_frozen bk2 3
 have i4 := blk_frozen bk2 4
 have BK27 := Aside0.mk bk2
 clear hb7 bk7 bk2
 go_wp2
 refine bodyPost_ret (results_ct rfl _ _ w.heap.size 25 #[.int .i64 x.f0, .int .i64 x.f1, .string x.f2, .slice A3 x.f3.length q3, .slice A4 x.f4.length q4] (0, 0) _ rfl (fill5 BK27.out) Tryz.underlying25 rfl (by kernel_rfl)) rfl ?_
 have hb37 : Below w3.heap.size w3 w7 := by
  have h1 := below_alloc (Below.refl _ w3) (.cells #[.int .i64 x.f0, .int .i64 x.f1, .string x.f2, .slice A3 x.f3.length q3, .slice A4 x.f4.length q4] 25)
  rw [HW4.out] at h1
  exact below_then h1 h1.size HB7.out
 have hsz := SZ.out
 have hn5 : ∀ k_, W2.heap.size ≤ k_ → k_ ≠ w.heap.size := fun k_ hk_ => by omega
 refine ⟨_, _, rfl, Kd.R_mono (Kd.R_far (p := ⟨w.heap.size, 4, none⟩) (Kd.R_far (p := ⟨w.heap.size, 3, none⟩) (Kd.R_far (p := ⟨w.heap.size, 2, none⟩) (Kd.R_far (p := ⟨w.heap.size, 1, none⟩) (Kd.R_far (p := ⟨w.heap.size, 0, none⟩) (Kd.R_below HX3.out hb37) hn5 _) hn5 _) hn5 _) hn5 _) hn5 _) (fun k_ hk_ => by omega),
  Kd.R_mono (Kd.R_far (p := ⟨w.heap.size, 4, none⟩) (Kd.R_far (p := ⟨w.heap.size, 3, none⟩) (Kd.R_far (p := ⟨w.heap.size, 2, none⟩) (Kd.R_far (p := ⟨w.heap.size, 1, none⟩) (Kd.R_far (p := ⟨w.heap.size, 0, none⟩) (Kd.R_below HX4.out hb37) hn5 _) hn5 _) hn5 _) hn5 _) hn5 _) (fun k_ hk_ => by omega),
  below_set (below_set (below_set (below_set (below_set (below_then HBW4.out HBW4.out.size HB7.out) (Nat.le_refl _)) (Nat.le_refl _)) (Nat.le_refl _)) (Nat.le_refl _)) (Nat.le_refl _)⟩
end Go.Proofs.YtifejhbochkifaaGreatDoor.X

/-! HPrs -/
namespace Go.Proofs.YtifejhbochkifaaGreatDoor.X
open Go.RowKit Go.Proofs.YtifejhbochkifaaGreatDoorW.PrintWords Go.Proofs.YtifejhbochkifaaGreatDoorW.PrintLast Go.Proofs.YtifejhbochkifaaGreatDoorW.PrintMore Go.Proofs.YtifejhbochkifaaGreatDoor.Spec
set_option linter.unusedVariables false
set_option linter.unusedSimpArgs false
/-- What json.Parse answers. -/
def parseL (s : List UInt8) : V × Int :=
  if 4096 < s.length then (z_V, 3) else
  match readV (4 * s.length + 4) s with
  | some (v, []) => if fitsB (s.length + 1) v = true ∧ rend (s.length + 1) v = s then (if fitsB 8 v = true then (v, 0) else (z_V, 4)) else (z_V, 2)
  | _ => (z_V, 2)
def POut (P : V × Int) (w : World) (e : Ending) (w' : World) : Prop :=
  ∃ c3 c4 : Value, e = .returned (.tuple #[.agg #[.int .i64 P.1.f0, .int .i64 P.1.f1, .string P.1.f2, c3, c4], .int .i64 P.2]) ∧ Kd.R k25 25 w' w.heap.size (fun k_ => w.heap.size ≤ k_) c3 P.1.f3 ∧ Kd.R Kd.string 9 w' w.heap.size (fun k_ => w.heap.size ≤ k_) c4 P.1.f4 ∧ Below w.heap.size w w'
set_option maxHeartbeats 16000000 in
set_option maxRecDepth 100000 in
theorem parse_long (s : List UInt8) (hs : 4096 < s.length) (w : World) :
  Calls Tryz.prog 9 #[.string (ba s)] w (POut (z_V, 3) w) := by
 obtain ⟨z, hz⟩ : ∃ z, ba s = z := ⟨_, rfl⟩
 have hzs : z.size = s.length := by rw [← hz, size_ba]
 have hzl : decide ((4096 : Int) < (z.size : Int)) = true := decide_eq_true (by omega)
 rw [hz]
 clear hz hzs hs
 obtain ⟨W1, hW1⟩ : ∃ W, w.alloc (.cells #[.int .i64 0, .int .i64 0, .string ⟨#[]⟩, .slice none 0 0, .slice none 0 0] 25) = W := ⟨_, rfl⟩
 have bk := blk_new w (.cells #[.int .i64 0, .int .i64 0, .string ⟨#[]⟩, .slice none 0 0, .slice none 0 0] 25)
 have hb := below_alloc (Below.refl _ w) (.cells #[.int .i64 0, .int .i64 0, .string ⟨#[]⟩, .slice none 0 0, .slice none 0 0] 25)
 rw [hW1] at bk hb
 have HW1 := Aside0.mk hW1
 have BK := Aside0.mk bk
 have HB := Aside0.mk hb
 clear hW1 hb
 have y0 := (blk_cell bk 0).trans (rfl : _ = some (Value.int .i64 0))
 have y1 := (blk_cell bk 1).trans (rfl : _ = some (Value.int .i64 0))
 have y2 := (blk_cell bk 2).trans (rfl : _ = some (Value.string ⟨#[]⟩))
 have y3 := (blk_cell bk 3).trans (rfl : _ = some (Value.slice none 0 0))
 have y4 := (blk_cell bk 4).trans (rfl : _ = some (Value.slice none 0 0))
 have i0 := blk_frozen bk 0
 have i1 := blk_frozen bk 1
 have i2 := blk_frozen bk 2
 have i3 := blk_frozen bk 3
 have i4 := blk_frozen bk 4
 clear bk
 unfold POut
 go_enter Tryz.func9, Tryz.ntmps9
 go_wp2_with (rw [HW1.out])
 refine bodyPost_ret (results_ct rfl _ _ w.heap.size 25 #[.int .i64 0, .int .i64 0, .string ⟨#[]⟩, .slice none 0 0, .slice none 0 0] (0, 0) _ rfl (fill5 BK.out) Tryz.underlying25 rfl (by kernel_rfl)) rfl ?_
 exact ⟨_, _, rfl, Kd.R_nil _ _ _ _ _, Kd.R_nil _ _ _ _ _, below_set (below_set (below_set (below_set (below_set (HB.out) (Nat.le_refl _)) (Nat.le_refl _)) (Nat.le_refl _)) (Nat.le_refl _)) (Nat.le_refl _)⟩
set_option maxHeartbeats 16000000 in
set_option maxRecDepth 100000 in
theorem jparse_calls (s : List UInt8) (w : World) (hG : GOK w) :
  Calls Tryz.prog 9 #[.string (ba s)] w (POut (parseL s) w) := by
 by_cases hs : 4096 < s.length
 ·rw [show parseL s = (z_V, 3) by unfold parseL; rw [if_pos hs]]
  exact parse_long s hs w
 obtain ⟨P, hP⟩ : ∃ P, parseL s = P := ⟨_, rfl⟩
 have hP0 := hP
 unfold parseL at hP0
 rw [if_neg hs] at hP0
 obtain ⟨R, hR⟩ : ∃ R, readV (4 * s.length + 4) s = R := ⟨_, rfl⟩
 rw [hR] at hP0
 rw [hP]
 clear hP
 obtain ⟨z, hz⟩ : ∃ z, ba s = z := ⟨_, rfl⟩
 have hzs : z.size = s.length := by rw [← hz, size_ba]
 have e1 := blk_alloc (blk_new w (.cells #[.int .i64 0, .int .i64 0, .string ⟨#[]⟩, .slice none 0 0, .slice none 0 0] 25)) (.cells #[.string z, .bool false] 46)
 have e2 := blk_new (w.alloc (.cells #[.int .i64 0, .int .i64 0, .string ⟨#[]⟩, .slice none 0 0, .slice none 0 0] 25)) (.cells #[.string z, .bool false] 46)
 rw [show (w.alloc (.cells #[.int .i64 0, .int .i64 0, .string ⟨#[]⟩, .slice none 0 0, .slice none 0 0] 25)).heap.size = w.heap.size + 1 by simp] at e2
 have e3 := below_alloc (below_alloc (Below.refl _ w) (.cells #[.int .i64 0, .int .i64 0, .string ⟨#[]⟩, .slice none 0 0, .slice none 0 0] 25)) (.cells #[.string z, .bool false] 46)
 have e4 : ((w.alloc (.cells #[.int .i64 0, .int .i64 0, .string ⟨#[]⟩, .slice none 0 0, .slice none 0 0] 25)).alloc (.cells #[.string z, .bool false] 46)).heap.size = w.heap.size + 2 := by simp
 obtain ⟨W2, hW2⟩ : ∃ W, (w.alloc (.cells #[.int .i64 0, .int .i64 0, .string ⟨#[]⟩, .slice none 0 0, .slice none 0 0] 25)).alloc (.cells #[.string z, .bool false] 46) = W := ⟨_, rfl⟩
 rw [hW2] at e1 e2 e3 e4
 have H2 : Rs W2 (w.heap.size + 1) s false := by rw [← hz] at e2; exact e2
 have HV := Aside0.mk ((reads_all (4 * s.length + 4)).1 (w.heap.size + 1) s false W2 w H2 hG e3 (by omega) (by omega) (Nat.le_refl _))
 rw [if_neg (by decide), hR] at HV
 have HRB := Aside0.mk (fun v r (h : R = some (v, r)) => ((read_bound (4 * s.length + 4)).1 s v r (by rw [hR, h])).1)
 have HW2 := Aside0.mk hW2
 have BK2 := Aside0.mk e1
 have HB2 := Aside0.mk e3
 have SZ := Aside0.mk e4
 have HG := Aside0.mk hG
 have HZ := Aside0.mk hz
 have hzl : decide ((4096 : Int) < (z.size : Int)) = false := decide_eq_false (by omega)
 have hzb : z.size ≤ 4096 := by omega
 have HSL := Aside0.mk (show s.length = z.size by omega)
 have HP0 := Aside0.mk hP0
 rw [hz]
 clear hz hzs e1 e2 e3 e4 hW2 H2 hs hG hR hP0
 unfold POut
 go_enter Tryz.func9, Tryz.ntmps9
 go_wp2_with (rw [HW2.out])
 refine HV.out.mono ?_
 rintro e w3 ⟨x, s', bad, c3, c4, rfl, hx3, hx4, h3, g3, hl3, hy, hn⟩
 clear HV
 obtain ⟨A3, q3, rfl, hr3⟩ := Kd.R_reads hx3
 obtain ⟨A4, q4, rfl, hr4⟩ := Kd.R_reads hx4
 obtain ⟨W4, hW4⟩ : ∃ W, w3.alloc (.cells #[.int .i64 x.f0, .int .i64 x.f1, .string x.f2, .slice A3 x.f3.length q3, .slice A4 x.f4.length q4] 25) = W := ⟨_, rfl⟩
 have bk4 := blk_new w3 (.cells #[.int .i64 x.f0, .int .i64 x.f1, .string x.f2, .slice A3 x.f3.length q3, .slice A4 x.f4.length q4] 25)
 have hb4 := below_alloc (Below.refl _ w3) (.cells #[.int .i64 x.f0, .int .i64 x.f1, .string x.f2, .slice A3 x.f3.length q3, .slice A4 x.f4.length q4] 25)
 rw [hW4] at bk4 hb4
 have hrs4 := h3.below hb4
 have k0 := hrs4.c0
 have k1 := hrs4.c1
 have m0 := (blk_cell bk4 0).trans (rfl : _ = some (Value.int .i64 x.f0))
 have m1 := (blk_cell bk4 1).trans (rfl : _ = some (Value.int .i64 x.f1))
 have m2 := (blk_cell bk4 2).trans (rfl : _ = some (Value.string x.f2))
 have m3 := (blk_cell bk4 3).trans (rfl : _ = some (Value.slice A3 x.f3.length q3))
 have m4 := (blk_cell bk4 4).trans (rfl : _ = some (Value.slice A4 x.f4.length q4))
 have hbw3 : Below w.heap.size w w3 := ⟨g3.os.trans HB2.out.os, g3.tape.trans HB2.out.tape, g3.output.trans HB2.out.output, Nat.le_trans HB2.out.size g3.size, fun i hi => (g3.block i (by have := SZ.out; omega) (fun e => by injection e with e; omega)).trans (HB2.out.block i hi)⟩
 have HBW4 := Aside0.mk (below_then hbw3 hbw3.size hb4)
 have bk24 := blk_below (gb_blk BK2.out g3 (by omega)) hb4
 have BK2' := Aside0.mk bk24
 have BK4 := Aside0.mk bk4
 have HW4 := Aside0.mk hW4
 have HX3 := Aside0.mk (Kd.R_lower hx3 (show w.heap.size ≤ W2.heap.size by have := SZ.out; omega))
 have HX4 := Aside0.mk (Kd.R_lower hx4 (show w.heap.size ≤ W2.heap.size by have := SZ.out; omega))
 have HHB4 := Aside0.mk hb4
 have L3 := Aside0.mk hr3.1
 have L4 := Aside0.mk hr4.1
 have C3 := Aside0.mk (Kd.C_below hr3.2 hb4)
 have C4 := Aside0.mk (Kd.C_below hr4.2 hb4)
 clear hr3 hr4 hx3 hx4 h3 g3 hl3 bk4 hb4 hW4 hrs4 hbw3
 cases R with
 | none =>
  obtain rfl := hn rfl
  obtain rfl : (z_V, (2 : Int)) = P := HP0.out
  clear hy hn
  have y0 := (blk_cell bk24 0).trans (rfl : _ = some (Value.int .i64 0))
  have y1 := (blk_cell bk24 1).trans (rfl : _ = some (Value.int .i64 0))
  have y2 := (blk_cell bk24 2).trans (rfl : _ = some (Value.string ⟨#[]⟩))
  have y3 := (blk_cell bk24 3).trans (rfl : _ = some (Value.slice none 0 0))
  have y4 := (blk_cell bk24 4).trans (rfl : _ = some (Value.slice none 0 0))
  have i0 := blk_frozen bk24 0
  have i1 := blk_frozen bk24 1
  have i2 := blk_frozen bk24 2
  have i3 := blk_frozen bk24 3
  have i4 := blk_frozen bk24 4
  clear bk24
  go_wp2_with (rw [HW4.out])
  refine bodyPost_ret (results_ct rfl _ _ w.heap.size 25 #[.int .i64 0, .int .i64 0, .string ⟨#[]⟩, .slice none 0 0, .slice none 0 0] (0, 0) _ rfl (fill5 BK2'.out) Tryz.underlying25 rfl (by kernel_rfl)) rfl ?_
  exact ⟨_, _, rfl, Kd.R_nil _ _ _ _ _, Kd.R_nil _ _ _ _ _, below_set (below_set (below_set (below_set (below_set (HBW4.out) (Nat.le_refl _)) (Nat.le_refl _)) (Nat.le_refl _)) (Nat.le_refl _)) (Nat.le_refl _)⟩
 | some p =>
  obtain ⟨v, r⟩ := p
  obtain ⟨rfl, rfl, rfl⟩ := hy v r rfl
  clear hy hn
  have RB := Aside0.mk (HRB.out x s' rfl)
  cases s' with
  | cons c t =>
   obtain rfl : (z_V, (2 : Int)) = P := HP0.out
   have hne : (ba (c :: t)).toList.isEmpty = false := by rw [Lib.toList_data]; rfl
   obtain ⟨zz, hzz⟩ : ∃ zz, ba (c :: t) = zz := ⟨_, rfl⟩
   rw [hzz] at hne k0
   clear hzz
   have y0 := (blk_cell bk24 0).trans (rfl : _ = some (Value.int .i64 0))
   have y1 := (blk_cell bk24 1).trans (rfl : _ = some (Value.int .i64 0))
   have y2 := (blk_cell bk24 2).trans (rfl : _ = some (Value.string ⟨#[]⟩))
   have y3 := (blk_cell bk24 3).trans (rfl : _ = some (Value.slice none 0 0))
   have y4 := (blk_cell bk24 4).trans (rfl : _ = some (Value.slice none 0 0))
   have i0 := blk_frozen bk24 0
   have i1 := blk_frozen bk24 1
   have i2 := blk_frozen bk24 2
   have i3 := blk_frozen bk24 3
   have i4 := blk_frozen bk24 4
   clear bk24
   go_wp2_with (rw [HW4.out])
   refine bodyPost_ret (results_ct rfl _ _ w.heap.size 25 #[.int .i64 0, .int .i64 0, .string ⟨#[]⟩, .slice none 0 0, .slice none 0 0] (0, 0) _ rfl (fill5 BK2'.out) Tryz.underlying25 rfl (by kernel_rfl)) rfl ?_
   exact ⟨_, _, rfl, Kd.R_nil _ _ _ _ _, Kd.R_nil _ _ _ _ _, below_set (below_set (below_set (below_set (below_set (HBW4.out) (Nat.le_refl _)) (Nat.le_refl _)) (Nat.le_refl _)) (Nat.le_refl _)) (Nat.le_refl _)⟩
  | nil =>
   rw [show ba [] = (⟨#[]⟩ : ByteArray) from rfl] at k0
   have s1 : IntKind.i64.wrap ((z.size : Int) + 1) = (z.size : Int) + 1 := IntWalk.i64_in _ (by omega)
   have s2 : wrap64 ((z.size : Int) + 1) = (z.size : Int) + 1 := by unfold wrap64; omega
   have hP0 : (if fitsB (s.length + 1) x = true ∧ rend (s.length + 1) x = s then (if fitsB 8 x = true then (x, (0 : Int)) else (z_V, 4)) else (z_V, 2)) = P := HP0.out
   have hft := fits_calls (s.length + 1) (by have := HSL.out; omega) x A3 A4 q3 q4 W4 L3.out L4.out C3.out C4.out
   rw [show ((s.length + 1 : Nat) : Int) = (z.size : Int) + 1 by have := HSL.out; omega] at hft
   cases hfb : fitsB (s.length + 1) x with
   | false =>
    rw [hfb] at hft
    rw [if_neg (by rw [hfb]; simp)] at hP0
    subst hP0
    have HFT := Aside0.mk hft
    clear hft bk24
    go_wp2_with (rw [HW4.out])
    refine HFT.out.mono ?_
    rintro e w5 ⟨rfl, hb5⟩
    have bk25 := blk_below BK2'.out hb5
    have BK25 := Aside0.mk bk25
    have HB5 := Aside0.mk hb5
    have y0 := (blk_cell bk25 0).trans (rfl : _ = some (Value.int .i64 0))
    have y1 := (blk_cell bk25 1).trans (rfl : _ = some (Value.int .i64 0))
    have y2 := (blk_cell bk25 2).trans (rfl : _ = some (Value.string ⟨#[]⟩))
    have y3 := (blk_cell bk25 3).trans (rfl : _ = some (Value.slice none 0 0))
    have y4 := (blk_cell bk25 4).trans (rfl : _ = some (Value.slice none 0 0))
    have i0 := blk_frozen bk25 0
    have i1 := blk_frozen bk25 1
    have i2 := blk_frozen bk25 2
    have i3 := blk_frozen bk25 3
    have i4 := blk_frozen bk25 4
    clear bk25 hb5
    go_wp2
    refine bodyPost_ret (results_ct rfl _ _ w.heap.size 25 #[.int .i64 0, .int .i64 0, .string ⟨#[]⟩, .slice none 0 0, .slice none 0 0] (0, 0) _ rfl (fill5 BK25.out) Tryz.underlying25 rfl (by kernel_rfl)) rfl ?_
    exact ⟨_, _, rfl, Kd.R_nil _ _ _ _ _, Kd.R_nil _ _ _ _ _, below_set (below_set (below_set (below_set (below_set (below_then HBW4.out HBW4.out.size HB5.out) (Nat.le_refl _)) (Nat.le_refl _)) (Nat.le_refl _)) (Nat.le_refl _)) (Nat.le_refl _)⟩
   | true =>
    rw [hfb] at hft
    have HFT := Aside0.mk hft
    have HFL := Aside0.mk hfb
    have HP1 := Aside0.mk hP0
    clear hft bk24 hfb hP0
    have HRN := Aside0.mk (fun (W : World) (hW : Below W4.heap.size W4 W) => (show Calls Tryz.prog 25 #[.agg #[.int .i64 x.f0, .int .i64 x.f1, .string x.f2, .slice A3 x.f3.length q3, .slice A4 x.f4.length q4]] W fun e w' => e = .returned (.string (ba (rend (s.length + 1) x))) ∧ Below W.heap.size W w' from
     render_calls (s.length + 1) x A3 A4 q3 q4 W HFL.out (by have h1 := RB.out (s.length + 1); have := HSL.out; omega) (HG.out.below (below_then HBW4.out HBW4.out.size hW)) L3.out L4.out (Kd.C_below C3.out hW) (Kd.C_below C4.out hW)))
    have HGD := Aside0.mk (fun (W : World) (hW : Below W4.heap.size W4 W) => (show Calls Tryz.prog 14 #[.agg #[.int .i64 x.f0, .int .i64 x.f1, .string x.f2, .slice A3 x.f3.length q3, .slice A4 x.f4.length q4]] W fun e w' => e = .returned (.bool (fitsB 8 x)) ∧ Below W.heap.size W w' from
     good_calls x A3 A4 q3 q4 W L3.out L4.out (Kd.C_below C3.out hW) (Kd.C_below C4.out hW)))
    go_wp2_with (rw [HW4.out])
    refine HFT.out.mono ?_
    rintro e w5 ⟨rfl, hb5⟩
    have HB5 := Aside0.mk hb5
    have HR5 := Aside0.mk (HRN.out w5 hb5)
    have bk5 := blk_below BK4.out hb5
    have r0 := (blk_cell bk5 0).trans (rfl : _ = some (Value.int .i64 x.f0))
    have r1 := (blk_cell bk5 1).trans (rfl : _ = some (Value.int .i64 x.f1))
    have r2 := (blk_cell bk5 2).trans (rfl : _ = some (Value.string x.f2))
    have r3 := (blk_cell bk5 3).trans (rfl : _ = some (Value.slice A3 x.f3.length q3))
    have r4 := (blk_cell bk5 4).trans (rfl : _ = some (Value.slice A4 x.f4.length q4))
    clear hb5 bk5
    go_wp2_with fail
    refine HR5.out.mono ?_
    rintro e w6 ⟨rfl, hb6⟩
    have HB6 := Aside0.mk (below_then HB5.out HB5.out.size hb6)
    clear hb6
    by_cases hre : rend (s.length + 1) x = s
    rotate_left
    ·have hP1 := HP1.out
     rw [if_neg (fun h => hre h.2)] at hP1
     subst hP1
     obtain ⟨y, hyy⟩ : ∃ y, ba (rend (s.length + 1) x) = y := ⟨_, rfl⟩
     rw [hyy]
     have hne : ¬ y.toList = z.toList := fun h => hre (by
      rw [← hyy, ← HZ.out, Lib.toList_data, Lib.toList_data] at h
      exact h)
     have hne2 : (y.toList == z.toList) = false := by simpa using hne
     have bk26 := blk_below BK2'.out HB6.out
     have BK26 := Aside0.mk bk26
     clear hyy hre
     have y0 := (blk_cell bk26 0).trans (rfl : _ = some (Value.int .i64 0))
     have y1 := (blk_cell bk26 1).trans (rfl : _ = some (Value.int .i64 0))
     have y2 := (blk_cell bk26 2).trans (rfl : _ = some (Value.string ⟨#[]⟩))
     have y3 := (blk_cell bk26 3).trans (rfl : _ = some (Value.slice none 0 0))
     have y4 := (blk_cell bk26 4).trans (rfl : _ = some (Value.slice none 0 0))
     have i0 := blk_frozen bk26 0
     have i1 := blk_frozen bk26 1
     have i2 := blk_frozen bk26 2
     have i3 := blk_frozen bk26 3
     have i4 := blk_frozen bk26 4
     clear bk26
     go_wp2
     refine bodyPost_ret (results_ct rfl _ _ w.heap.size 25 #[.int .i64 0, .int .i64 0, .string ⟨#[]⟩, .slice none 0 0, .slice none 0 0] (0, 0) _ rfl (fill5 BK26.out) Tryz.underlying25 rfl (by kernel_rfl)) rfl ?_
     exact ⟨_, _, rfl, Kd.R_nil _ _ _ _ _, Kd.R_nil _ _ _ _ _, below_set (below_set (below_set (below_set (below_set (below_then HBW4.out HBW4.out.size HB6.out) (Nat.le_refl _)) (Nat.le_refl _)) (Nat.le_refl _)) (Nat.le_refl _)) (Nat.le_refl _)⟩
    have hP1 := HP1.out
    rw [if_pos ⟨HFL.out, hre⟩] at hP1
    have HP2 := Aside0.mk hP1
    rw [hre, HZ.out]
    clear hre hP1
    have HG6 := Aside0.mk (HGD.out w6 HB6.out)
    have bk6 := blk_below BK4.out HB6.out
    have u0 := (blk_cell bk6 0).trans (rfl : _ = some (Value.int .i64 x.f0))
    have u1 := (blk_cell bk6 1).trans (rfl : _ = some (Value.int .i64 x.f1))
    have u2 := (blk_cell bk6 2).trans (rfl : _ = some (Value.string x.f2))
    have u3 := (blk_cell bk6 3).trans (rfl : _ = some (Value.slice A3 x.f3.length q3))
    have u4 := (blk_cell bk6 4).trans (rfl : _ = some (Value.slice A4 x.f4.length q4))
    clear bk6
    go_wp2_with fail
    refine HG6.out.mono ?_
    rintro e w7 ⟨rfl, hb7⟩
    have HB7 := Aside0.mk (below_then HB6.out HB6.out.size hb7)
    have bk7 := blk_below BK4.out HB7.out
    have bk2 := blk_below BK2'.out HB7.out
    have BK27 := Aside0.mk bk2
    have v0 := (blk_cell bk7 0).trans (rfl : _ = some (Value.int .i64 x.f0))
    have v1 := (blk_cell bk7 1).trans (rfl : _ = some (Value.int .i64 x.f1))
    have v2 := (blk_cell bk7 2).trans (rfl : _ = some (Value.string x.f2))
    have v3 := (blk_cell bk7 3).trans (rfl : _ = some (Value.slice A3 x.f3.length q3))
    have v4 := (blk_cell bk7 4).trans (rfl : _ = some (Value.slice A4 x.f4.length q4))
    have y0 := (blk_cell bk2 0).trans (rfl : _ = some (Value.int .i64 0))
    have y1 := (blk_cell bk2 1).trans (rfl : _ = some (Value.int .i64 0))
    have y2 := (blk_cell bk2 2).trans (rfl : _ = some (Value.string ⟨#[]⟩))
    have y3 := (blk_cell bk2 3).trans (rfl : _ = some (Value.slice none 0 0))
    have y4 := (blk_cell bk2 4).trans (rfl : _ = some (Value.slice none 0 0))
    have i0 := blk_frozen bk2 0
    have i1 := blk_frozen bk2 1
    have i2 := blk_frozen bk2 2
    have i3 := blk_frozen bk2 3
    have i4 := blk_frozen bk2 4
    clear hb7 bk7 bk2
    cases h8 : fitsB 8 x with
    | false =>
     have hP2 := HP2.out
     rw [if_neg (by rw [h8]; simp)] at hP2
     subst hP2
     clear h8
     go_wp2
     refine bodyPost_ret (results_ct rfl _ _ w.heap.size 25 #[.int .i64 0, .int .i64 0, .string ⟨#[]⟩, .slice none 0 0, .slice none 0 0] (0, 0) _ rfl (fill5 BK27.out) Tryz.underlying25 rfl (by kernel_rfl)) rfl ?_
     exact ⟨_, _, rfl, Kd.R_nil _ _ _ _ _, Kd.R_nil _ _ _ _ _, below_set (below_set (below_set (below_set (below_set (below_then HBW4.out HBW4.out.size HB7.out) (Nat.le_refl _)) (Nat.le_refl _)) (Nat.le_refl _)) (Nat.le_refl _)) (Nat.le_refl _)⟩
    | true =>
     have hP2 := HP2.out
     rw [if_pos h8] at hP2
     subst hP2
     clear h8
     go_wp2
     refine bodyPost_ret (results_ct rfl _ _ w.heap.size 25 #[.int .i64 x.f0, .int .i64 x.f1, .string x.f2, .slice A3 x.f3.length q3, .slice A4 x.f4.length q4] (0, 0) _ rfl (fill5 BK27.out) Tryz.underlying25 rfl (by kernel_rfl)) rfl ?_
     have hb37 : Below w3.heap.size w3 w7 := by
      have h1 := below_alloc (Below.refl _ w3) (.cells #[.int .i64 x.f0, .int .i64 x.f1, .string x.f2, .slice A3 x.f3.length q3, .slice A4 x.f4.length q4] 25)
      rw [HW4.out] at h1
      exact below_then h1 h1.size HB7.out
     have hsz := SZ.out
     have hn5 : ∀ k_, W2.heap.size ≤ k_ → k_ ≠ w.heap.size := fun k_ hk_ => by omega
     exact ⟨_, _, rfl, Kd.R_mono (Kd.R_far (p := ⟨w.heap.size, 4, none⟩) (Kd.R_far (p := ⟨w.heap.size, 3, none⟩) (Kd.R_far (p := ⟨w.heap.size, 2, none⟩) (Kd.R_far (p := ⟨w.heap.size, 1, none⟩) (Kd.R_far (p := ⟨w.heap.size, 0, none⟩) (Kd.R_below HX3.out hb37) hn5 _) hn5 _) hn5 _) hn5 _) hn5 _) (fun k_ hk_ => by omega),
      Kd.R_mono (Kd.R_far (p := ⟨w.heap.size, 4, none⟩) (Kd.R_far (p := ⟨w.heap.size, 3, none⟩) (Kd.R_far (p := ⟨w.heap.size, 2, none⟩) (Kd.R_far (p := ⟨w.heap.size, 1, none⟩) (Kd.R_far (p := ⟨w.heap.size, 0, none⟩) (Kd.R_below HX4.out hb37) hn5 _) hn5 _) hn5 _) hn5 _) hn5 _) (fun k_ hk_ => by omega),
      below_set (below_set (below_set (below_set (below_set (below_then HBW4.out HBW4.out.size HB7.out) (Nat.le_refl _)) (Nat.le_refl _)) (Nat.le_refl _)) (Nat.le_refl _)) (Nat.le_refl _)⟩
end Go.Proofs.YtifejhbochkifaaGreatDoor.X
