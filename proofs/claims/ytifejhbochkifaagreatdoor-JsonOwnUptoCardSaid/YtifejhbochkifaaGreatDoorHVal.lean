/- json's reader.value: a value. -/
import Derived.Test.YtifejhbochkifaaGreatDoorHRowL
namespace Go.Proofs.YtifejhbochkifaaGreatDoor.X
open Go Go.RowKit Go.ChangeMaps Go.Proofs.YtifejhbochkifaaGreatDoorW.PrintWords Go.Proofs.YtifejhbochkifaaGreatDoorW.PrintLast Go.Proofs.YtifejhbochkifaaGreatDoorW.PrintMore Go.Proofs.YtifejhbochkifaaGreatDoor.Spec
set_option linter.unusedVariables false
set_option linter.unusedSimpArgs false
theorem has_prefix (s p : ByteArray) (w : World) :
  Calls Tryz.prog 39 #[.string s, .string p] w fun e w' => e = .returned (.bool (Lib.hasPrefix s.data.toList p.data.toList)) ∧ w' = w := by
 rw [← Lib.hasPrefix_of_take, ← Lib.size_eq, ← Lib.size_eq]
 go_enter Tryz.func39, Tryz.ntmps39
 go_wp2
 ·rename_i h
  go_ret
  refine ⟨?_, rfl⟩
  show Ending.returned (Value.bool ((s.extract 0 p.size).toList == p.toList)) = _
  rw [Lib.extract_toList, Lib.toList_data]
  simp [h]
 ·rename_i h
  go_ret
  refine ⟨?_, rfl⟩
  show Ending.returned (Value.bool false) = _
  simp [h]
theorem has_34 (s : List UInt8) (q : Bool) (h : ([34] <+: s) ↔ q = true) (w : World) : Calls Tryz.prog 39 #[.string (ba s), .string ⟨#[34]⟩] w fun e w' => e = .returned (.bool q) ∧ w' = w := by
 refine (has_prefix (ba s) ⟨#[34]⟩ w).mono ?_
 rintro e w' ⟨rfl, rfl⟩
 refine ⟨?_, rfl⟩
 have e1 : Lib.hasPrefix (ba s).data.toList (⟨#[34]⟩ : ByteArray).data.toList = q := by
  show Lib.hasPrefix s [34] = q
  unfold Lib.hasPrefix
  rw [Bool.eq_iff_iff, List.isPrefixOf_iff_prefix]
  exact h
 rw [e1]
theorem blk_alloc_ {w : World} {k : Nat} {o : Obj} (h : w.heap[k]? = some o) (o' : Obj) : (w.alloc o').heap[k]? = some o := (Go.heap_alloc_old w o' (Array.getElem?_eq_some_iff.1 h).1).trans h
theorem Rs.grown' {w w' : World} {b : Nat} {s : List UInt8} {bad : Bool} (h : Rs w b s bad) (hg : w.grownBy w' (some b)) (hk : w'.heap[b]? = w.heap[b]? := by rcases hwn with rfl | rfl <;> rfl) : Rs w' b s bad := hk.trans h
theorem gb_setBlock {w w1 : World} {row : Option Nat} (h : w.grownBy w1 row) {r : Nat} (hr : w.heap.size ≤ r) (o : Obj) : w.grownBy (setBlock w1 r o) row :=
 ⟨h.os, h.tape, h.output, by simpa [setBlock] using h.size, fun i hi hn => by
  have hne : r ≠ i := by omega
  have := h.block i hi hn
  simp only [setBlock]
  rw [Array.getElem?_setIfInBounds_ne hne]
  exact this⟩
theorem setBlock_far {w : World} {r k : Nat} (h : k ≠ r) (o : Obj) : (setBlock w r o).heap[k]? = w.heap[k]? := by
 simp only [setBlock]
 rw [Array.getElem?_setIfInBounds_ne (Ne.symm h)]
theorem setBlock_size (w : World) (r : Nat) (o : Obj) : (setBlock w r o).heap.size = w.heap.size := by simp [setBlock]
theorem iterSeen_of {w : World} {r s c : Nat} {m : Option Nat} {q : Array Nat} (h : w.heap[r]? = some (.mapIter m s q c)) : w.iterSeen r = q := by
 unfold World.iterSeen; rw [h]
/-- the bytes of a map's key -/
def keyL (x : MapEntry) : List UInt8 := match x.key with | .string k => bl k | _ => []
theorem wEnts_cases {x : MapEntry} (h : x ∈ wEnts.toList) : x = ⟨.string ⟨#[110, 117, 108, 108]⟩, wVal 1 0, 0⟩ ∨ x = ⟨.string ⟨#[116, 114, 117, 101]⟩, wVal 2 1, 1⟩ ∨ x = ⟨.string ⟨#[102, 97, 108, 115, 101]⟩, wVal 2 0, 2⟩ := by
 simpa [wEnts] using h
theorem wEnts_word {x : MapEntry} (h : x ∈ wEnts.toList) (k : Nat) (s : List UInt8) : ∃ (l : List UInt8) (a c : Int), keyL x = l ∧ x = ⟨.string (ba l), .agg #[.int .i64 a, .int .i64 c, .string ⟨#[]⟩, .slice none 0 0, .slice none 0 0], x.born⟩ ∧ (l <+: s → readV (k + 1) s = some (⟨a, c, ⟨#[]⟩, [], []⟩, s.drop l.length)) := by
 have hne : ∀ {a b : UInt8} {p q r : List UInt8}, a ≠ b → (a :: p) <+: r → ¬ (b :: q) <+: r := fun {a b p q r} hab h1 h2 => by
  cases r with
  | nil => simp at h1
  | cons c r =>
   rw [List.cons_prefix_cons] at h1 h2
   exact hab (h1.1.trans h2.1.symm)
 rcases wEnts_cases h with rfl | rfl | rfl
 ·exact ⟨w_null, 1, 0, rfl, rfl, fun hp => by rw [readV, if_pos hp]; rfl⟩
 ·exact ⟨w_true, 2, 1, rfl, rfl, fun hp => by rw [readV, if_neg (show ¬ w_null <+: s from hne (show (116 : UInt8) ≠ 110 by decide) hp), if_pos hp]; rfl⟩
 ·exact ⟨w_false, 2, 0, rfl, rfl, fun hp => by rw [readV, if_neg (show ¬ w_null <+: s from hne (show (102 : UInt8) ≠ 110 by decide) hp), if_neg (show ¬ w_true <+: s from hne (show (102 : UInt8) ≠ 116 by decide) hp), if_pos hp]; rfl⟩
set_option maxHeartbeats 16000000 in
set_option maxRecDepth 100000 in
theorem value_calls (k : Nat) (hrow : ∀ j, j < k → ∀ obj, RC j obj) : VC k := by
 intro b s bad w w0 h hG hB hb0 hs hk
 have hbw := h.lt
 have HG := Aside0.mk hG
 have HB := Aside0.mk hB
 have e2 := blk_new w (.cells #[.int .i64 0, .int .i64 0, .string ⟨#[]⟩, .slice none 0 0, .slice none 0 0] 25)
 have e4 := h.alloc (.cells #[.int .i64 0, .int .i64 0, .string ⟨#[]⟩, .slice none 0 0, .slice none 0 0] 25)
 have e5 := below_alloc (Below.refl _ w) (.cells #[.int .i64 0, .int .i64 0, .string ⟨#[]⟩, .slice none 0 0, .slice none 0 0] 25)
 have e1 : (w.alloc (.cells #[.int .i64 0, .int .i64 0, .string ⟨#[]⟩, .slice none 0 0, .slice none 0 0] 25)).heap.size = w.heap.size + 1 := by simp
 obtain ⟨W1, hW1⟩ : ∃ W, w.alloc (.cells #[.int .i64 0, .int .i64 0, .string ⟨#[]⟩, .slice none 0 0, .slice none 0 0] 25) = W := ⟨_, rfl⟩
 rw [hW1] at e1 e2 e4 e5
 have HW1 := Aside0.mk hW1
 have SZ1 := Aside0.mk e1
 have BK1 := Aside0.mk e2
 have H1 := Aside0.mk e4
 have HB1 := Aside0.mk e5
 have ne2 : w.heap.size ≠ b := by omega
 have ne2' : b ≠ w.heap.size := by omega
 have c1 := e4.c1
 cases bad with
 | true =>
  have m0 := (blk_cell e2 0).trans (rfl : _ = some (Value.int .i64 0))
  have m1 := (blk_cell e2 1).trans (rfl : _ = some (Value.int .i64 0))
  have m2 := (blk_cell e2 2).trans (rfl : _ = some (Value.string ⟨#[]⟩))
  have m3 := (blk_cell e2 3).trans (rfl : _ = some (Value.slice none 0 0))
  have m4 := (blk_cell e2 4).trans (rfl : _ = some (Value.slice none 0 0))
  have i0 := blk_frozen e2 0
  have i1 := blk_frozen e2 1
  have i2 := blk_frozen e2 2
  have i3 := blk_frozen e2 3
  have i4 := blk_frozen e2 4
  clear h hG hB hrow hs hk hW1 e1 e2 e4 e5
  go_enter Tryz.func23, Tryz.ntmps23
  go_wp2_with (rw [HW1.out])
  refine bodyPost_ret (results_cell_row rfl _ _ w.heap.size 25 #[.int .i64 0, .int .i64 0, .string ⟨#[]⟩, .slice none 0 0, .slice none 0 0] (0, 0) _ rfl (fill5 BK1.out) Tryz.underlying25 rfl (by kernel_rfl)) rfl ?_
  exact ⟨⟨0, 0, ⟨#[]⟩, [], []⟩, s, true, _, _, rfl, Kd.R_nil _ _ _ _ _, Kd.R_nil _ _ _ _ _, far5 H1.out ne2', gb_new5 (grown_of_below HB1.out _) (Nat.le_refl _), Nat.le_refl _, fun y r e => (by simp at e), fun _ => rfl⟩
 | false =>
  obtain ⟨k, rfl⟩ : ∃ k', k = k' + 1 := ⟨k - 1, by omega⟩
  obtain ⟨R0, hR0⟩ : ∃ R0, readV (k + 1) s = R0 := ⟨_, rfl⟩
  rw [if_neg (by decide), hR0]
  have HR0 := Aside0.mk hR0
  have HROW := Aside0.mk hrow
  clear h hG hB hrow hW1 e1 e2 e4 e5 hR0
  go_enter Tryz.func23, Tryz.ntmps23
  go_wp2_with (rw [HW1.out])
  refine (words_calls W1).mono ?_
  rintro e w2 ⟨rfl, hm2, hb2⟩
  have hrg := run_range_map (P := Tryz.prog) w2 59 9 25 W1.heap.size wEnts 3 Tryz.underlying59 hm2
  have hr3 : (w2.alloc (.mapIter (some W1.heap.size) 3 #[] 3)).heap[w2.heap.size]? = some (.mapIter (some W1.heap.size) 3 #[] 3) := Go.heap_alloc_new w2 _
  have hm3 : (w2.alloc (.mapIter (some W1.heap.size) 3 #[] 3)).heap[W1.heap.size]? = some (.map wEnts 3) := blk_alloc_ hm2 _
  have hz2 : W1.heap.size < w2.heap.size := (Array.getElem?_eq_some_iff.1 hm2).1
  have H3 := Aside0.mk ((H1.out.below hb2).alloc (.mapIter (some W1.heap.size) 3 #[] 3))
  have BK3 := Aside0.mk (blk_alloc (blk_below BK1.out hb2) (.mapIter (some W1.heap.size) 3 #[] 3))
  have GB3 := Aside0.mk (grown_of_below (below_alloc (below_then HB1.out HB1.out.size hb2) (.mapIter (some W1.heap.size) 3 #[] 3)) (some b))
  have HRM := Aside0.mk (And.intro hr3 hm3)
  generalize hbm : W1.heap.size = bm at hrg HRM H3 BK3 GB3 hz2 ⊢
  have SZ := Aside0.mk (show w.heap.size < bm ∧ bm < w2.heap.size by have := SZ1.out; omega)
  clear hm2 hb2 hr3 hm3 hz2 hbm
  go_wp2
  go_loopw [] (fun wr => ∃ (seen : Array Nat) (c0 : Nat), Aside0 (3 ≤ c0 ∧ wr.heap[w2.heap.size]? = some (.mapIter (some bm) 3 seen c0) ∧ wr.heap[bm]? = some (.map wEnts 3)) ∧ Aside0 (Rs wr b s false) ∧ Aside0 (wr.heap[w.heap.size]? = some (.cells #[.int .i64 0, .int .i64 0, .string ⟨#[]⟩, .slice none 0 0, .slice none 0 0] 25 (0, 0))) ∧ Aside0 (w.grownBy wr (some b)) ∧ Aside0 (∀ x ∈ wEnts.toList, seen.contains x.born = true → ¬ keyL x <+: s)) (fun wr => (leftOf wEnts (wr.iterSeen w2.heap.size)).size)
  case atStart => exact ⟨#[], 3, ⟨Nat.le_refl _, HRM.out.1, HRM.out.2⟩, H3, BK3, GB3, ⟨fun x _ hx => by simp at hx⟩⟩
  case round =>
   obtain ⟨seen, c0, HI, H4, BK4, GB4, HSN⟩ := hrel
   clear HRM H3 BK3 GB3 H1 BK1 HB1 SZ1 HW1 hrg
   have hold : ∀ x ∈ wEnts.toList, x.born < 3 := by decide
   have hnod : (wEnts.toList.map (·.born)).Nodup := by decide
   rcases run_next_at (P := Tryz.prog) wr 0 w2.heap.size bm 3 c0 seen wEnts 3 HI.out.2.1 HI.out.2.2 hold HI.out.1 with ⟨hz, hrun⟩ | ⟨e, he, wn, hwn, hrun⟩
   ·have hnx : ∀ ty, (Instr.next (.pointer (some ⟨w2.heap.size, 0, none⟩)) false ty).run Tryz.prog wr = _ := fun _ => hrun
    have HNO := Aside0.mk (show ∀ x ∈ wEnts.toList, ¬ keyL x <+: s from fun x hx => HSN.out x hx (all_seen wEnts seen hz x hx))
    clear hrun hz
    have c0_ := H4.out.c0
    by_cases h34 : [34] <+: s
    ·have n1_ : ¬ w_null <+: s := HNO.out _ (List.mem_cons_self ..)
     have n2_ : ¬ w_true <+: s := HNO.out _ (List.mem_cons_of_mem _ (List.mem_cons_self ..))
     have n3_ : ¬ w_false <+: s := HNO.out _ (List.mem_cons_of_mem _ (List.mem_cons_of_mem _ (List.mem_cons_self ..)))
     have HP := Aside0.mk h34
     have HR := Aside0.mk (show R0 = (readQ s).map (fun p => ((⟨4, 0, ba p.1, [], []⟩ : V), p.2)) by rw [← HR0.out, readV, if_neg n1_, if_neg n2_, if_neg n3_, if_pos h34])
     clear h34 n1_ n2_ n3_
     go_wp2_with fail
     refine (has_34 s true ⟨fun h => rfl, fun h => HP.out⟩ wr).mono ?_
     rintro e w5 ⟨rfl, rfl⟩
     go_wp2_with fail
     refine (text_calls b s w5 H4.out hs).mono ?_
     rintro e w7 ⟨t, s1, bad1, rfl, h7, g7, hl7, ht7, hs7, hn7⟩
     have H7 := Aside0.mk h7
     have BK7 := Aside0.mk (gb_blk BK4.out g7 ne2)
     have GB7 := Aside0.mk (GB4.out.trans g7)
     have HX := Aside0.mk (And.intro hl7 (And.intro hs7 hn7))
     clear h7 g7 hl7 ht7 hs7 hn7
     have m0 := (blk_cell BK7.out 0).trans (rfl : _ = some (Value.int .i64 0))
     have m1 := (blk_cell BK7.out 1).trans (rfl : _ = some (Value.int .i64 0))
     have m2 := (blk_cell BK7.out 2).trans (rfl : _ = some (Value.string ⟨#[]⟩))
     have m3 := (blk_cell BK7.out 3).trans (rfl : _ = some (Value.slice none 0 0))
     have m4 := (blk_cell BK7.out 4).trans (rfl : _ = some (Value.slice none 0 0))
     have i0 := blk_frozen BK7.out 0
     have i1 := blk_frozen BK7.out 1
     have i2 := blk_frozen BK7.out 2
     have i3 := blk_frozen BK7.out 3
     have i4 := blk_frozen BK7.out 4
     go_wp2
     refine bodyPost_ret (results_cell_row rfl _ _ w.heap.size 25 #[.int .i64 4, .int .i64 0, .string (ba t), .slice none 0 0, .slice none 0 0] (0, 0) _ rfl (fill5 BK7.out) Tryz.underlying25 rfl (by kernel_rfl)) rfl ?_
     refine ⟨⟨4, 0, ba t, [], []⟩, s1, bad1, _, _, rfl, Kd.R_nil _ _ _ _ _, Kd.R_nil _ _ _ _ _, far5 H7.out ne2', gb_new5 GB7.out (Nat.le_refl _), HX.out.1, ?_, ?_⟩
     ·intro y r e
      rw [HR.out] at e
      cases hq : readQ s with
      | none => rw [hq] at e; cases e
      | some p =>
       obtain ⟨t', r'⟩ := p
       rw [hq] at e
       simp only [Option.map_some, Option.some.injEq, Prod.mk.injEq] at e
       obtain ⟨rfl, rfl⟩ := e
       obtain ⟨rfl, rfl, h3⟩ := HX.out.2.1 t' r' hq
       exact ⟨rfl, rfl, h3⟩
     ·intro e
      rw [HR.out] at e
      exact HX.out.2.2 (by cases hq : readQ s with | none => rfl | some p => rw [hq] at e; cases e)
    by_cases hc : [91] <+: s
    ·have n1_ : ¬ w_null <+: s := HNO.out _ (List.mem_cons_self ..)
     have n2_ : ¬ w_true <+: s := HNO.out _ (List.mem_cons_of_mem _ (List.mem_cons_self ..))
     have n3_ : ¬ w_false <+: s := HNO.out _ (List.mem_cons_of_mem _ (List.mem_cons_of_mem _ (List.mem_cons_self ..)))
     have HN34 := Aside0.mk h34
     have HP := Aside0.mk hc
     have hl1 := hc.length_le
     simp only [List.length_cons, List.length_nil] at hl1
     have HR := Aside0.mk (show R0 = readRow k false (s.drop 1) by rw [← HR0.out, readV, if_neg n1_, if_neg n2_, if_neg n3_, if_neg h34, if_pos hc])
     clear h34 hc n1_ n2_ n3_
     go_wp2_with fail
     refine (has_34 s false ⟨fun h => absurd h HN34.out, fun h => (by cases h)⟩ wr).mono ?_
     rintro e w5 ⟨rfl, rfl⟩
     go_wp2_with fail
     refine (take_yes b s [91] false w5 H4.out HP.out).mono ?_
     rintro e w6 ⟨rfl, h6, g6⟩
     have H6 := Aside0.mk h6
     have BK6 := Aside0.mk (gb_blk BK4.out g6 ne2)
     have GB6 := Aside0.mk (GB4.out.trans g6)
     have hzz : w.heap.size < w6.heap.size := blk_lt BK6.out
     have HRC := Aside0.mk (show Calls Tryz.prog 41 #[.pointer (some ⟨b, 0, none⟩), .agg #[.int .i64 5, .int .i64 0, .string ⟨#[]⟩, .slice none 0 0, .slice none 0 0], .string ⟨#[93]⟩] w6 (VOut w6 b (s.drop 1).length (readRow k false (s.drop 1))) from HROW.out k (by omega) false b (s.drop 1) w6 w0 H6.out HG.out (HB.out.grown GB6.out HB.out.size (fun k e => by injection e with e; omega)) hb0 (by rw [List.length_drop]; omega) (by rw [List.length_drop]; omega))
     clear h6 g6
     go_wp2_with fail
     refine HRC.out.mono ?_
     rintro e w7 ⟨x, s', bad', c3, c4, rfl, hx3, hx4, h7, g7, hl7, hs7, hn7⟩
     obtain ⟨A3, q3, rfl⟩ := Kd.R_slice hx3
     obtain ⟨A4, q4, rfl⟩ := Kd.R_slice hx4
     have HX3 := Aside0.mk hx3
     have HX4 := Aside0.mk hx4
     have H7 := Aside0.mk h7
     have BK7 := Aside0.mk (gb_blk BK6.out g7 ne2)
     have GB7 := Aside0.mk (GB6.out.trans g7)
     have HX := Aside0.mk (And.intro hl7 (And.intro hs7 hn7))
     clear hx3 hx4 h7 g7 hl7 hs7 hn7
     have m0 := (blk_cell BK7.out 0).trans (rfl : _ = some (Value.int .i64 0))
     have m1 := (blk_cell BK7.out 1).trans (rfl : _ = some (Value.int .i64 0))
     have m2 := (blk_cell BK7.out 2).trans (rfl : _ = some (Value.string ⟨#[]⟩))
     have m3 := (blk_cell BK7.out 3).trans (rfl : _ = some (Value.slice none 0 0))
     have m4 := (blk_cell BK7.out 4).trans (rfl : _ = some (Value.slice none 0 0))
     have i0 := blk_frozen BK7.out 0
     have i1 := blk_frozen BK7.out 1
     have i2 := blk_frozen BK7.out 2
     have i3 := blk_frozen BK7.out 3
     have i4 := blk_frozen BK7.out 4
     go_wp2
     refine bodyPost_ret (results_cell_row rfl _ _ w.heap.size 25 #[.int .i64 x.f0, .int .i64 x.f1, .string x.f2, .slice A3 x.f3.length q3, .slice A4 x.f4.length q4] (0, 0) _ rfl (fill5 BK7.out) Tryz.underlying25 rfl (by kernel_rfl)) rfl ?_
     refine ⟨x, s', bad', _, _, rfl, R_set5 HX3.out (fun _ hk_ => hk_) hzz (Nat.le_of_lt hzz) _ _ _ _ _, R_set5 HX4.out (fun _ hk_ => hk_) hzz (Nat.le_of_lt hzz) _ _ _ _ _, far5 H7.out ne2', gb_new5 GB7.out (Nat.le_refl _), by have h_ := HX.out.1; rw [List.length_drop] at h_; omega, ?_, ?_⟩
     ·intro y r e; rw [HR.out] at e; exact HX.out.2.1 y r e
     ·intro e; rw [HR.out] at e; exact HX.out.2.2 e
    have HN91 := Aside0.mk hc
    have hn91 := hc
    clear hc
    by_cases hc : [123] <+: s
    ·clear c1
     have n1_ : ¬ w_null <+: s := HNO.out _ (List.mem_cons_self ..)
     have n2_ : ¬ w_true <+: s := HNO.out _ (List.mem_cons_of_mem _ (List.mem_cons_self ..))
     have n3_ : ¬ w_false <+: s := HNO.out _ (List.mem_cons_of_mem _ (List.mem_cons_of_mem _ (List.mem_cons_self ..)))
     have HN34 := Aside0.mk h34
     have HP := Aside0.mk hc
     have hl1 := hc.length_le
     simp only [List.length_cons, List.length_nil] at hl1
     have HR := Aside0.mk (show R0 = readRow k true (s.drop 1) by rw [← HR0.out, readV, if_neg n1_, if_neg n2_, if_neg n3_, if_neg h34, if_neg hn91, if_pos hc])
     clear h34 hc n1_ n2_ n3_
     go_wp2_with fail
     refine (has_34 s false ⟨fun h => absurd h HN34.out, fun h => (by cases h)⟩ wr).mono ?_
     rintro e w5 ⟨rfl, rfl⟩
     go_wp2_with fail
     refine (take_no b s [91] false w5 H4.out HN91.out).mono ?_
     rintro e w5' ⟨rfl, rfl⟩
     go_wp2_with fail
     refine (take_yes b s [123] false w5' H4.out HP.out).mono ?_
     rintro e w6 ⟨rfl, h6, g6⟩
     have H6 := Aside0.mk h6
     have BK6 := Aside0.mk (gb_blk BK4.out g6 ne2)
     have GB6 := Aside0.mk (GB4.out.trans g6)
     have hzz : w.heap.size < w6.heap.size := blk_lt BK6.out
     have HRC := Aside0.mk (show Calls Tryz.prog 41 #[.pointer (some ⟨b, 0, none⟩), .agg #[.int .i64 6, .int .i64 0, .string ⟨#[]⟩, .slice none 0 0, .slice none 0 0], .string ⟨#[125]⟩] w6 (VOut w6 b (s.drop 1).length (readRow k true (s.drop 1))) from HROW.out k (by omega) true b (s.drop 1) w6 w0 H6.out HG.out (HB.out.grown GB6.out HB.out.size (fun k e => by injection e with e; omega)) hb0 (by rw [List.length_drop]; omega) (by rw [List.length_drop]; omega))
     clear h6 g6
     go_wp2_with fail
     refine HRC.out.mono ?_
     rintro e w7 ⟨x, s', bad', c3, c4, rfl, hx3, hx4, h7, g7, hl7, hs7, hn7⟩
     obtain ⟨A3, q3, rfl⟩ := Kd.R_slice hx3
     obtain ⟨A4, q4, rfl⟩ := Kd.R_slice hx4
     have HX3 := Aside0.mk hx3
     have HX4 := Aside0.mk hx4
     have H7 := Aside0.mk h7
     have BK7 := Aside0.mk (gb_blk BK6.out g7 ne2)
     have GB7 := Aside0.mk (GB6.out.trans g7)
     have HX := Aside0.mk (And.intro hl7 (And.intro hs7 hn7))
     clear hx3 hx4 h7 g7 hl7 hs7 hn7
     have m0 := (blk_cell BK7.out 0).trans (rfl : _ = some (Value.int .i64 0))
     have m1 := (blk_cell BK7.out 1).trans (rfl : _ = some (Value.int .i64 0))
     have m2 := (blk_cell BK7.out 2).trans (rfl : _ = some (Value.string ⟨#[]⟩))
     have m3 := (blk_cell BK7.out 3).trans (rfl : _ = some (Value.slice none 0 0))
     have m4 := (blk_cell BK7.out 4).trans (rfl : _ = some (Value.slice none 0 0))
     have i0 := blk_frozen BK7.out 0
     have i1 := blk_frozen BK7.out 1
     have i2 := blk_frozen BK7.out 2
     have i3 := blk_frozen BK7.out 3
     have i4 := blk_frozen BK7.out 4
     go_wp2
     refine bodyPost_ret (results_cell_row rfl _ _ w.heap.size 25 #[.int .i64 x.f0, .int .i64 x.f1, .string x.f2, .slice A3 x.f3.length q3, .slice A4 x.f4.length q4] (0, 0) _ rfl (fill5 BK7.out) Tryz.underlying25 rfl (by kernel_rfl)) rfl ?_
     refine ⟨x, s', bad', _, _, rfl, R_set5 HX3.out (fun _ hk_ => hk_) hzz (Nat.le_of_lt hzz) _ _ _ _ _, R_set5 HX4.out (fun _ hk_ => hk_) hzz (Nat.le_of_lt hzz) _ _ _ _ _, far5 H7.out ne2', gb_new5 GB7.out (Nat.le_refl _), by have h_ := HX.out.1; rw [List.length_drop] at h_; omega, ?_, ?_⟩
     ·intro y r e; rw [HR.out] at e; exact HX.out.2.1 y r e
     ·intro e; rw [HR.out] at e; exact HX.out.2.2 e
    ·have h123 := hc
     clear hc hn91
     have n1_ : ¬ w_null <+: s := HNO.out _ (List.mem_cons_self ..)
     have n2_ : ¬ w_true <+: s := HNO.out _ (List.mem_cons_of_mem _ (List.mem_cons_self ..))
     have n3_ : ¬ w_false <+: s := HNO.out _ (List.mem_cons_of_mem _ (List.mem_cons_of_mem _ (List.mem_cons_self ..)))
     have HN34 := Aside0.mk h34
     have HN123 := Aside0.mk h123
     have HR := Aside0.mk (show R0 = readNum s by rw [← HR0.out, readV, if_neg n1_, if_neg n2_, if_neg n3_, if_neg h34, if_neg HN91.out, if_neg h123])
     clear h34 h123 n1_ n2_ n3_
     have hzz : w.heap.size < wr.heap.size := blk_lt BK4.out
     go_wp2_with fail
     refine (has_34 s false ⟨fun h => absurd h HN34.out, fun h => (by cases h)⟩ wr).mono ?_
     rintro e w5 ⟨rfl, rfl⟩
     go_wp2_with fail
     refine (take_no b s [91] false w5 H4.out HN91.out).mono ?_
     rintro e w5' ⟨rfl, rfl⟩
     go_wp2_with fail
     refine (take_no b s [123] false w5' H4.out HN123.out).mono ?_
     rintro e w6 ⟨rfl, rfl⟩
     go_wp2_with fail
     refine (number_calls b s w6 w0 H4.out hs HG.out (HB.out.grown GB4.out HB.out.size (fun k e => by injection e with e; omega)) hb0).mono ?_
     rintro e w7 ⟨x, s', bad', c3, c4, rfl, hx3, hx4, h7, g7, hl7, hs7, hn7⟩
     obtain ⟨A3, q3, rfl⟩ := Kd.R_slice hx3
     obtain ⟨A4, q4, rfl⟩ := Kd.R_slice hx4
     have HX3 := Aside0.mk hx3
     have HX4 := Aside0.mk hx4
     have H7 := Aside0.mk h7
     have BK7 := Aside0.mk (gb_blk BK4.out g7 ne2)
     have GB7 := Aside0.mk (GB4.out.trans g7)
     have HX := Aside0.mk (And.intro hl7 (And.intro hs7 hn7))
     clear hx3 hx4 h7 g7 hl7 hs7 hn7
     have m0 := (blk_cell BK7.out 0).trans (rfl : _ = some (Value.int .i64 0))
     have m1 := (blk_cell BK7.out 1).trans (rfl : _ = some (Value.int .i64 0))
     have m2 := (blk_cell BK7.out 2).trans (rfl : _ = some (Value.string ⟨#[]⟩))
     have m3 := (blk_cell BK7.out 3).trans (rfl : _ = some (Value.slice none 0 0))
     have m4 := (blk_cell BK7.out 4).trans (rfl : _ = some (Value.slice none 0 0))
     have i0 := blk_frozen BK7.out 0
     have i1 := blk_frozen BK7.out 1
     have i2 := blk_frozen BK7.out 2
     have i3 := blk_frozen BK7.out 3
     have i4 := blk_frozen BK7.out 4
     go_wp2
     refine bodyPost_ret (results_cell_row rfl _ _ w.heap.size 25 #[.int .i64 x.f0, .int .i64 x.f1, .string x.f2, .slice A3 x.f3.length q3, .slice A4 x.f4.length q4] (0, 0) _ rfl (fill5 BK7.out) Tryz.underlying25 rfl (by kernel_rfl)) rfl ?_
     refine ⟨x, s', bad', _, _, rfl, R_set5 HX3.out (fun _ hk_ => hk_) hzz (Nat.le_of_lt hzz) _ _ _ _ _, R_set5 HX4.out (fun _ hk_ => hk_) hzz (Nat.le_of_lt hzz) _ _ _ _ _, far5 H7.out ne2', gb_new5 GB7.out (Nat.le_refl _), HX.out.1, ?_, ?_⟩
     ·intro y r e; rw [HR.out] at e; exact HX.out.2.1 y r e
     ·intro e; rw [HR.out] at e; exact HX.out.2.2 e
   ·clear c1
    have c1 := H4.out.c1
    obtain ⟨l, a, c, hkl, hee, hread⟩ := wEnts_word (mem_left he).1 k s
    obtain ⟨n, hn⟩ : ∃ n, e.born = n := ⟨_, rfl⟩
    rw [hn] at hee
    have hseen := (mem_left he).2
    have hmem := (mem_left he).1
    have hshr := left_shrinks wEnts seen e he
    have hwm : wn.heap[bm]? = some (.map wEnts 3) := by rcases hwn with rfl | rfl <;> exact HI.out.2.2
    have hwr_ : wn.heap[w2.heap.size]? = some (.mapIter (some bm) 3 seen c0) := by rcases hwn with rfl | rfl <;> exact HI.out.2.1
    have hwg : wr.grownBy wn (some b) := by rcases hwn with rfl | rfl; exact World.grownBy.refl _ _; exact grown_of_below (below_drew (Below.refl _ _)) _
    have hr5 := block_set (o := .mapIter (some bm) 3 (seen.push e.born) 3) hwr_
    have hm5 : (setBlock wn w2.heap.size (.mapIter (some bm) 3 (seen.push e.born) 3)).heap[bm]? = some (.map wEnts 3) := (setBlock_far (by have := SZ.out; omega) _).trans hwm
    have hg5 := gb_setBlock (GB4.out.trans hwg) (show w.heap.size ≤ w2.heap.size by have := SZ.out; omega) (.mapIter (some bm) 3 (seen.push e.born) 3)
    have hR5 : Rs (setBlock wn w2.heap.size (.mapIter (some bm) 3 (seen.push e.born) 3)) b s false := (setBlock_far (by have := SZ.out; omega) _).trans (H4.out.grown' hwg)
    have hb5 : (setBlock wn w2.heap.size (.mapIter (some bm) 3 (seen.push e.born) 3)).heap[w.heap.size]? = _ := (setBlock_far (by have := SZ.out; omega) _).trans (gb_blk BK4.out hwg ne2)
    have hen := run_entry_at (P := Tryz.prog) _ w2.heap.size bm 3 seen wEnts 3 e hr5 hm5 hmem hnod
    rw [hee] at hen hrun
    have HSH := Aside0.mk (And.intro hshr (And.intro hmem hkl))
    have HRD := Aside0.mk hread
    rw [hn] at hr5 hm5 hg5 hR5 hb5 hshr
    generalize setBlock wn w2.heap.size (.mapIter (some bm) 3 (seen.push n) 3) = W5 at hrun hr5 hm5 hg5 hR5 hb5 hen
    have hnx : ∀ ty, (Instr.next (.pointer (some ⟨w2.heap.size, 0, none⟩)) false ty).run Tryz.prog wr = _ := fun _ => hrun
    have HI5 := Aside0.mk (And.intro hr5 hm5)
    have H5 := Aside0.mk hR5
    have BK5 := Aside0.mk hb5
    have GB5 := Aside0.mk hg5
    have HNE := Aside0.mk (And.intro hn (And.intro hee hseen))
    clear hrun hr5 hm5 hg5 hR5 hb5 hwm hwr_ hwg hwn hn hee hseen hmem hshr hkl hread he
    go_wp2_with fail
    have CN := Aside0.mk (blk_new W5 (.cells #[.int .i64 a, .int .i64 c, .string ⟨#[]⟩, .slice none 0 0, .slice none 0 0] 25))
    have H6 := Aside0.mk (H5.out.alloc (.cells #[.int .i64 a, .int .i64 c, .string ⟨#[]⟩, .slice none 0 0, .slice none 0 0] 25))
    have BK6 := Aside0.mk (blk_alloc BK5.out (.cells #[.int .i64 a, .int .i64 c, .string ⟨#[]⟩, .slice none 0 0, .slice none 0 0] 25))
    have GB6 := Aside0.mk (GB5.out.trans (World.grownBy_alloc W5 (.cells #[.int .i64 a, .int .i64 c, .string ⟨#[]⟩, .slice none 0 0, .slice none 0 0] 25) (some b)))
    have HI6 := Aside0.mk (And.intro (blk_alloc_ HI5.out.1 (.cells #[.int .i64 a, .int .i64 c, .string ⟨#[]⟩, .slice none 0 0, .slice none 0 0] 25)) (blk_alloc_ HI5.out.2 (.cells #[.int .i64 a, .int .i64 c, .string ⟨#[]⟩, .slice none 0 0, .slice none 0 0] 25)))
    have hb5 : b < W5.heap.size := H5.out.lt
    have hg5 : w.heap.size < W5.heap.size := blk_lt BK5.out
    have ne5 : W5.heap.size ≠ b := by omega
    by_cases hp : l <+: s
    ·have HP := Aside0.mk hp
     have HR := Aside0.mk (HR0.out.symm.trans (HRD.out hp))
     clear hp
     refine (take_yes b s l false _ H6.out HP.out).mono ?_
     rintro e7 w7 ⟨rfl, h7, g7⟩
     have H7 := Aside0.mk h7
     have BK7 := Aside0.mk (gb_blk BK6.out g7 ne2)
     have CN7 := gb_blk CN.out g7 ne5
     have GB7 := Aside0.mk (GB6.out.trans g7)
     have k0 := (blk_cell CN7 0).trans (rfl : _ = some (Value.int .i64 a))
     have k1 := (blk_cell CN7 1).trans (rfl : _ = some (Value.int .i64 c))
     have k2 := (blk_cell CN7 2).trans (rfl : _ = some (Value.string ⟨#[]⟩))
     have k3 := (blk_cell CN7 3).trans (rfl : _ = some (Value.slice none 0 0))
     have k4 := (blk_cell CN7 4).trans (rfl : _ = some (Value.slice none 0 0))
     clear h7 g7 CN7 hnx hen
     have m0 := (blk_cell BK7.out 0).trans (rfl : _ = some (Value.int .i64 0))
     have m1 := (blk_cell BK7.out 1).trans (rfl : _ = some (Value.int .i64 0))
     have m2 := (blk_cell BK7.out 2).trans (rfl : _ = some (Value.string ⟨#[]⟩))
     have m3 := (blk_cell BK7.out 3).trans (rfl : _ = some (Value.slice none 0 0))
     have m4 := (blk_cell BK7.out 4).trans (rfl : _ = some (Value.slice none 0 0))
     have i0 := blk_frozen BK7.out 0
     have i1 := blk_frozen BK7.out 1
     have i2 := blk_frozen BK7.out 2
     have i3 := blk_frozen BK7.out 3
     have i4 := blk_frozen BK7.out 4
     go_wp2
     refine bodyPost_ret (results_cell_row rfl _ _ w.heap.size 25 #[.int .i64 a, .int .i64 c, .string ⟨#[]⟩, .slice none 0 0, .slice none 0 0] (0, 0) _ rfl (fill5 BK7.out) Tryz.underlying25 rfl (by kernel_rfl)) rfl ?_
     refine ⟨⟨a, c, ⟨#[]⟩, [], []⟩, s.drop l.length, false, _, _, rfl, Kd.R_nil _ _ _ _ _, Kd.R_nil _ _ _ _ _, far5 H7.out ne2', gb_new5 GB7.out (Nat.le_refl _), by simp, ?_, ?_⟩
     ·intro y r e_
      rw [HR.out] at e_
      simp only [Option.some.injEq, Prod.mk.injEq] at e_
      obtain ⟨rfl, rfl⟩ := e_
      exact ⟨rfl, rfl, rfl⟩
     ·intro e_; rw [HR.out] at e_; cases e_
    ·have HP := Aside0.mk hp
     clear hp
     refine (take_no b s l false _ H6.out HP.out).mono ?_
     rintro e7 w7 ⟨rfl, rfl⟩
     clear hnx hen
     go_wp2
     go_roundw
     case rel =>
      refine ⟨seen.push n, 3, ⟨Nat.le_refl _, HI6.out.1, HI6.out.2⟩, H6, BK6, GB6, ⟨fun x hx hc => ?_⟩⟩
      rw [contains_push] at hc
      rcases Bool.or_eq_true _ _ ▸ hc with h1 | h1
      ·exact HSN.out x hx h1
      ·have hxe : x = e := born_inj hnod hx HSH.out.2.1 (by rw [HNE.out.1]; exact beq_iff_eq.1 h1)
       rw [hxe, HSH.out.2.2]; exact HP.out
     case measure =>
      rw [iterSeen_of HI6.out.1, iterSeen_of HI.out.2.1]
      have h_ := HSH.out.1
      rw [HNE.out.1] at h_
      exact h_
theorem reads_all : ∀ k, VC k ∧ ∀ obj, RC k obj := by
 intro k
 induction k using Nat.strongRecOn with
 | _ k ih => exact ⟨value_calls k (fun j hj obj => (ih j hj).2 obj), fun obj => by
   cases obj with
   | true => exact rowO_calls k (fun j hj => (ih j hj).1)
   | false => exact rowL_calls k (fun j hj => (ih j hj).1)⟩
end Go.Proofs.YtifejhbochkifaaGreatDoor.X
