/- json.render: a value's text. -/
import Derived.Test.YtifejhbochkifaaGreatDoorHFits
import Derived.Test.YtifejhbochkifaaGreatDoorHQuo
import Derived.Test.YtifejhbochkifaaGreatDoorHNum
namespace Go.Proofs.YtifejhbochkifaaGreatDoor.X
open Go.RowKit Go.Proofs.YtifejhbochkifaaGreatDoorW.PrintWords Go.Proofs.YtifejhbochkifaaGreatDoorW.PrintLast Go.Proofs.YtifejhbochkifaaGreatDoorW.PrintMore Go.Proofs.YtifejhbochkifaaGreatDoor.Spec
set_option linter.unusedVariables false
set_option linter.unusedSimpArgs false
theorem commas_len (l : List (List UInt8)) : ∀ x ∈ l, x.length ≤ (commas l).length := by
 induction l with
 | nil => intro x hx; cases hx
 | cons y r ih =>
  intro x hx
  rw [commas_cons, List.length_append]
  rcases List.mem_cons.1 hx with rfl | hx
  ·omega
  ·have := ih x hx
   cases r with
   | nil => cases hx
   | cons z r => rw [if_neg (by simp), List.length_cons]; omega
theorem esc1_pos (c : UInt8) : 1 ≤ (esc1 c).length := by
 unfold esc1
 split
 ·simp
 ·split <;> simp
theorem jq_len (l : List UInt8) : l.length + 2 ≤ (jq l).length := by
 have h : l.length ≤ (escL l).length := by
  induction l with
  | nil => simp
  | cons c r ih =>
   have h1 := esc1_pos c
   simp only [escL, List.flatMap_cons, List.length_append, List.length_cons] at *
   omega
 unfold jq
 simp only [List.length_cons, List.length_append, List.length_nil]
 omega
theorem join_commas (l : List (List UInt8)) : Lib.join l [44] = commas l := by
 cases l with
 | nil => rfl
 | cons x r =>
  rw [Lib.join_cons]
  induction r generalizing x with
  | nil => simp [Lib.joinTail, commas]
  | cons y r ih =>
   rw [show commas (x :: y :: r) = x ++ 44 :: commas (y :: r) from rfl, ← ih y]
   simp [Lib.joinTail]
def partsR (d : Nat) (x : V) : List (List UInt8) := if x.f0 = 6 then List.zipWith (fun k y => jq (bl k) ++ 58 :: rend d y) x.f4 x.f3 else x.f3.map (rend d)
theorem map_bl_ba (l : List (List UInt8)) : (l.map ba).map bl = l := by
 rw [List.map_map]
 have : (bl ∘ ba) = id := by funext a; simp
 rw [this, List.map_id]
theorem take_ba (l : List (List UInt8)) (k : Nat) (h : k < l.length) : (l.take (k + 1)).map ba = (l.take k).map ba ++ [ba (l[k]'h)] := by
 rw [List.take_succ_eq_append_getElem h, List.map_append]
 rfl
def RenC (d : Nat) : Prop := ∀ (x : V) (A3 A4 : Option Addr) (q3 q4 : Nat) (w : World), fitsB d x = true → (rend d x).length ≤ 1000000000 → GOK w → x.f3.length ≤ q3 → x.f4.length ≤ q4 → Kd.C k25 w A3 x.f3.length x.f3 → Kd.C Kd.string w A4 x.f4.length x.f4 →
  Calls Tryz.prog 25 #[.agg #[.int .i64 x.f0, .int .i64 x.f1, .string x.f2, .slice A3 x.f3.length q3, .slice A4 x.f4.length q4]] w fun e w' => e = .returned (.string (ba (rend d x))) ∧ Below w.heap.size w w'
theorem quote_calls (t : ByteArray) (h : t.size ≤ 1000000000000) (w : World) : Calls Tryz.prog 49 #[.string t] w fun e w' => e = .returned (.string (ba (jq (bl t)))) ∧ Below w.heap.size w w' :=
 json_quote.calls t _ w (by unfold json_quote.f; rw [if_pos h])
theorem join_calls (A : Option Addr) (c : Nat) (l : List (List UInt8)) (h : (commas l).length ≤ 1000000000) (hl : l.length ≤ 1000000000) (hc : l.length ≤ c) (w : World) (hC : Kd.C Kd.string w A (l.map ba).length (l.map ba)) : Calls Tryz.prog 50 #[.slice A l.length c, .string ⟨#[44]⟩] w fun e w' => e = .returned (.string (ba (commas l))) ∧ Below w.heap.size w w' := by
 have := strings_Join.calls A c (l.map ba) ⟨#[44]⟩ (ba (commas l)) w hC (by rw [List.length_map]; exact hc) (by
  unfold strings_Join.f
  rw [map_bl_ba, show bl (⟨#[44]⟩ : ByteArray) = [44] from rfl, join_commas, if_pos ⟨by omega, by rw [List.length_map]; omega⟩])
 rw [List.length_map] at this
 exact this
set_option maxHeartbeats 8000000 in
set_option maxRecDepth 100000 in
theorem render_calls : ∀ (d : Nat), RenC d := by
 intro d
 induction d with
 | zero => intro x A3 A4 q3 q4 w hf; simp [fitsB] at hf
 | succ d IH =>
  intro x A3 A4 q3 q4 w hf hlen hG h3 h4 g3 g4
  obtain ⟨⟨p0, p1⟩, hbare, hkeys, hall⟩ := fits_succ hf
  have bk := blk_new w (.cells #[.int .i64 x.f0, .int .i64 x.f1, .string x.f2, .slice A3 x.f3.length q3, .slice A4 x.f4.length q4] 25)
  have hb1 := below_alloc (Below.refl _ w) (.cells #[.int .i64 x.f0, .int .i64 x.f1, .string x.f2, .slice A3 x.f3.length q3, .slice A4 x.f4.length q4] 25)
  obtain ⟨W1, hW1⟩ : ∃ W, w.alloc (.cells #[.int .i64 x.f0, .int .i64 x.f1, .string x.f2, .slice A3 x.f3.length q3, .slice A4 x.f4.length q4] 25) = W := ⟨_, rfl⟩
  have hz1 : (w.alloc (.cells #[.int .i64 x.f0, .int .i64 x.f1, .string x.f2, .slice A3 x.f3.length q3, .slice A4 x.f4.length q4] 25)).heap.size = w.heap.size + 1 := by simp
  rw [hW1] at bk hb1 hz1
  have HW1 := Aside0.mk hW1
  have HB1 := Aside0.mk hb1
  have BK1 := Aside0.mk bk
  have m0 := (blk_cell bk 0).trans (rfl : _ = some (Value.int .i64 x.f0))
  have m1 := (blk_cell bk 1).trans (rfl : _ = some (Value.int .i64 x.f1))
  have m2 := (blk_cell bk 2).trans (rfl : _ = some (Value.string x.f2))
  have m3 := (blk_cell bk 3).trans (rfl : _ = some (Value.slice A3 x.f3.length q3))
  have m4 := (blk_cell bk 4).trans (rfl : _ = some (Value.slice A4 x.f4.length q4))
  have HG1 := Aside0.mk (hG.below hb1)
  clear bk hb1 hW1
  by_cases c1 : x.f0 = 1
  ·have e1 : (x.f0 == 1) = true := by rw [c1]; rfl
   rw [show rend (d + 1) x = w_null by rw [rend, if_pos c1]]
   clear c1 hf hlen hG h3 h4 g3 g4 hbare hkeys hall IH p0 p1
   go_enter Tryz.func25, Tryz.ntmps25
   go_wp2_with (rw [HW1.out])
   go_ret
   exact ⟨rfl, HB1.out⟩
  have n1 : (x.f0 == 1) = false := by rw [beq_eq_false_iff_ne]; exact c1
  by_cases c2 : x.f0 = 2
  ·have e2 : (x.f0 == 2) = true := by rw [c2]; rfl
   have hr : ba (rend (d + 1) x) = ⟨(Lib.formatBool (x.f1 == 1)).toArray⟩ := by
    rw [rend, if_neg c1, if_pos c2]
    by_cases h : x.f1 = 1
    ·rw [if_pos h, h]; rfl
    ·rw [if_neg h, show (x.f1 == 1) = false by rw [beq_eq_false_iff_ne]; exact h]; rfl
   rw [hr]
   have HFB := Aside0.mk (fun (q : Bool) (W : World) => Tryz.strconv_FormatBool q W)
   obtain ⟨q, hq⟩ : ∃ q, (x.f1 == 1) = q := ⟨_, rfl⟩
   rw [hq]
   clear c1 c2 hf hlen hG h3 h4 g3 g4 hbare hkeys hall IH p0 p1 hr
   go_enter Tryz.func25, Tryz.ntmps25
   go_wp2_with (rw [HW1.out])
   refine (HFB.out q W1).mono ?_
   rintro e w2 ⟨rfl, rfl⟩
   go_wp2
   go_ret
   exact ⟨rfl, HB1.out⟩
  have n2 : (x.f0 == 2) = false := by rw [beq_eq_false_iff_ne]; exact c2
  unfold bareB at hbare
  simp only [Bool.and_eq_true, Bool.or_eq_true, beq_iff_eq, decide_eq_true_eq] at hbare
  obtain ⟨⟨⟨hb1, hb2⟩, hb3⟩, hb4⟩ := hbare
  by_cases c3 : x.f0 = 3
  ·have e3 : (x.f0 == 3) = true := by rw [c3]; rfl
   have hr : rend (d + 1) x = Lib.itoa x.f1 := by rw [rend, if_neg c1, if_neg c2, if_pos c3]
   rw [hr]
   have HF := Aside0.mk (fmt_calls x.f1 (by omega) (by omega) W1 HG1.out)
   clear c1 c2 c3 hf hlen hG h3 h4 g3 g4 hkeys hall IH p0 p1 hr hb1 hb2 hb3 hb4
   go_enter Tryz.func25, Tryz.ntmps25
   go_wp2_with (rw [HW1.out])
   refine HF.out.mono ?_
   rintro e w2 ⟨rfl, hb⟩
   have HB2 := Aside0.mk (below_then HB1.out HB1.out.size hb)
   clear hb
   go_wp2
   go_ret
   exact ⟨rfl, HB2.out⟩
  have n3 : (x.f0 == 3) = false := by rw [beq_eq_false_iff_ne]; exact c3
  by_cases c4 : x.f0 = 4
  ·have e4 : (x.f0 == 4) = true := by rw [c4]; rfl
   have hr : rend (d + 1) x = jq (bl x.f2) := by rw [rend, if_neg c1, if_neg c2, if_neg c3, if_pos c4]
   rw [hr] at hlen ⊢
   have HF := Aside0.mk (quote_calls x.f2 (by have := jq_len (bl x.f2); rw [bl_length] at this; omega) W1)
   clear c1 c2 c3 c4 hf hlen hG h3 h4 g3 g4 hkeys hall IH p0 p1 hr hb1 hb2 hb3 hb4
   go_enter Tryz.func25, Tryz.ntmps25
   go_wp2_with (rw [HW1.out])
   refine HF.out.mono ?_
   rintro e w2 ⟨rfl, hb⟩
   have HB2 := Aside0.mk (below_then HB1.out HB1.out.size hb)
   clear hb
   go_wp2
   go_ret
   exact ⟨rfl, HB2.out⟩
  have n4 : (x.f0 == 4) = false := by rw [beq_eq_false_iff_ne]; exact c4
  have HIH := Aside0.mk IH
  have G3 := Aside0.mk (Kd.C_below g3 HB1.out)
  have G4 := Aside0.mk (Kd.C_below g4 HB1.out)
  have H3 := Aside0.mk h3
  have H4 := Aside0.mk h4
  have HALL := Aside0.mk hall
  clear IH g3 g4 h3 h4 hall hf hG hb1 hb2 hb3
  have hP : (partsR d x).length = x.f3.length := by
   unfold partsR
   split
   ·rename_i h
    rw [if_pos h] at hkeys
    rw [Bool.and_eq_true] at hkeys
    have : x.f4.length = x.f3.length := by simpa using hkeys.1
    rw [List.length_zipWith, this]; simp
   ·rw [List.length_map]
  by_cases ck : x.f0 = 5
  ·have e5 : (x.f0 == 5) = (5 == 5) := by rw [ck]; rfl
   have e6 : (x.f0 == 6) = (5 == 6) := by rw [ck]; rfl
   rw [show ((5 : Nat) == 5) = !false from rfl] at e5
   rw [show ((5 : Nat) == 6) = false from rfl] at e6
   have hr : rend (d + 1) x = 91 :: (commas (partsR d x) ++ [93]) := by
    rw [rend, if_neg c1, if_neg c2, if_neg c3, if_neg c4]
    rw [if_pos ck]; unfold partsR; rw [if_neg (by omega)]
   rw [hr] at hlen ⊢
   simp only [List.length_cons, List.length_append, List.length_nil] at hlen
   have hpk : ∀ k, ∀ h : k < x.f3.length, ∃ h2 : k < (partsR d x).length, (partsR d x)[k]'h2 =
     rend d (x.f3[k]'h) := fun k h => ⟨by rw [hP]; exact h, by unfold partsR; simp only [if_neg (show ¬ x.f0 = 6 by omega)]; simp⟩
   have hplen : ∀ k, ∀ h : k < (partsR d x).length, ((partsR d x)[k]'h).length ≤ 1000000000 := fun k h => by
    have := commas_len (partsR d x) _ (List.getElem_mem h)
    omega
   have HPK := Aside0.mk hpk
   have HPL := Aside0.mk hplen
   obtain ⟨P, hPP⟩ : ∃ P, partsR d x = P := ⟨_, rfl⟩
   rw [hPP] at hP hlen HPK HPL ⊢
   have HLEN := Aside0.mk hlen
   clear hr hpk hplen hPP hkeys ck c1 c2 c3 c4 p0 p1 hlen
   go_enter Tryz.func25, Tryz.ntmps25
   go_wp2_with (rw [HW1.out])
   go_loopw [3, 30] (fun v3 i wr => ∃ k : Nat, k ≤ x.f3.length ∧ i = .int .i64 k ∧ Aside0 (Kd.R Kd.string 9 wr (w.heap.size + 1) (fun _ => True) v3 ((P.take k).map ba)) ∧ Aside0 (Below w.heap.size w wr) ∧ Aside0 (wr.heap[w.heap.size]? = some (.cells #[.int .i64 x.f0, .int .i64 x.f1, .string x.f2, .slice A3 x.f3.length q3, .slice A4 x.f4.length q4] 25 (0, 0))) ∧ Aside0 (Below W1.heap.size W1 wr)) (fun _ i _ => x.f3.length - (intOf i).toNat)
   case atStart => exact ⟨0, Nat.zero_le _, rfl, ⟨Kd.R_nil _ _ _ _ _⟩, HB1, BK1, ⟨Below.refl _ _⟩⟩
   case round =>
    obtain ⟨k, hk, rfl, HO, HB, BK, HBW⟩ := hrel
    clear m0 m1 m2 m3 m4
    have hzr : w.heap.size + 1 ≤ wr.heap.size := by have := HBW.out.size; omega
    by_cases hlt : k < x.f3.length
    ·have p0 : (0 : Int) ≤ (k : Int) := by omega
     have q0 : (k : Int) < (x.f3.length : Int) := by omega
     obtain ⟨ad, B3, r3, B4, r4, rfl, hx0, hx1, hx2, hx3, hx4, hl3, hg3, hl4, hg4⟩ := at_T25 (Kd.C_below G3.out HBW.out) (k : Int) p0 q0
     have hrd : rd_T25 x.f3 (k : Int) = x.f3[k]'hlt := by simp [rd_T25, List.getD_eq_getElem?_getD, List.getElem?_eq_getElem hlt]
     rw [hrd] at hx0 hx1 hx2 hx3 hx4 hl3 hg3 hl4 hg4
     simp only [Int.toNat_natCast] at hx0 hx1 hx2 hx3 hx4
     obtain ⟨hkP, hkE⟩ := HPK.out k hlt
     obtain ⟨y, hy⟩ : ∃ y, x.f3[k]'hlt = y := ⟨_, rfl⟩
     have hyf := HALL.out _ (List.getElem_mem hlt)
     rw [hy] at hx0 hx1 hx2 hx3 hx4 hl3 hg3 hl4 hg4 hkE hyf
     have hpl := HPL.out k hkP
     have hylen : (rend d y).length ≤ 1000000000 := by
      rw [hkE] at hpl
      omega
     have HYR := Aside0.mk (fun (W : World) (hW : Below wr.heap.size wr W) => HIH.out y B3 B4 r3 r4 W hyf hylen (HG1.out.below (below_then HBW.out HBW.out.size hW)) hl3 hl4 (Kd.C_below hg3 hW) (Kd.C_below hg4 hW))
     have HKE := Aside0.mk (show (P.take (k + 1)).map ba = (P.take k).map ba ++ [ba (P[k]'hkP)] from take_ba P k hkP)
     have HKE2 := Aside0.mk hkE
     have HPL2 := Aside0.mk hpl
     have k0 := (blk_cell BK.out 0).trans (rfl : _ = some (Value.int .i64 x.f0))
     have k4 := (blk_cell BK.out 4).trans (rfl : _ = some (Value.slice A4 x.f4.length q4))
     clear hrd hl3 hg3 hl4 hg4 hy hyf hylen hkE hpl
     go_wp2_with fail
     refine (HYR.out _ (below_alloc (Below.refl _ wr) _)).mono ?_
     rintro e w2 ⟨rfl, hb2⟩
     have hbr := below_then (below_alloc (Below.refl _ wr) (.cells #[.int .i64 y.f0, .int .i64 y.f1, .string y.f2, .slice B3 y.f3.length r3, .slice B4 y.f4.length r4] 25)) (below_alloc (Below.refl _ wr) (.cells #[.int .i64 y.f0, .int .i64 y.f1, .string y.f2, .slice B3 y.f3.length r3, .slice B4 y.f4.length r4] 25)).size hb2
     have BK2 := Aside0.mk (blk_below BK.out hbr)
     have HO2 := Aside0.mk (Kd.R_below HO.out hbr)
     have HBW2 := Aside0.mk (below_then HBW.out HBW.out.size hbr)
     have HB2 := Aside0.mk (below_then HB.out HB.out.size hbr)
     have hzr2 : w.heap.size + 1 ≤ w2.heap.size := Nat.le_trans hzr hbr.size
     have k0 := (blk_cell BK2.out 0).trans (rfl : _ = some (Value.int .i64 x.f0))
     have k4 := (blk_cell BK2.out 4).trans (rfl : _ = some (Value.slice A4 x.f4.length q4))
     obtain ⟨Y, hY⟩ : ∃ Y, ba (rend d y) = Y := ⟨_, rfl⟩
     have HYY := Aside0.mk hY
     have hYs : Y.size = (rend d y).length := by rw [← hY, size_ba]
     rw [hY]
     clear hb2 hbr hx0 hx1 hx2 hx3 hx4 hY HYR
     clear hYs
     go_wp2_with (first | ((with_reducible refine gate_builtin (b := .append) (xs := #[.tmp 49, .tmp 51]) rfl ?_); at_builtin; refine Kd.R_append Kd.string (w0 := w2) (w.heap.size + 1) rfl (.tmp 49) (.tmp 51) 23 9 (.string ⟨#[]⟩) 16 rfl Tryz.underlying23 info9 rfl (by decide) (by omega) u3 ((P.take k).map ba) Y [.string Y] (fun _ => True) (fun _ => False) rfl rfl ?aP (fun _ hk => hk.elim) ?aF ?aO ?aB ?aS ?aL ?_; (case aP => exact rfl); (case aB => exact Below.refl _ _); (case aF => exact (fun _ _ => trivial)); (case aO => exact HO2.out); (case aS => omega); (case aL => (have h_ := List.length_take_le k P; rw [List.length_map]; omega)); intro v9 w9 ho hb hg hat; have HO9 := Aside0.mk ho; have HG9 := Aside0.mk hg; have HB9 := Aside0.mk hb; clear ho hb hg hat))
     obtain ⟨A9, q9, rfl⟩ := Kd.R_slice HO9.out
     have hg9 := HG9.out
     go_wp2
     go_roundw
     case rel =>
      refine ⟨k + 1, by omega, by go_num, ⟨?_⟩, ⟨HB2.out.grown hg9 HB2.out.size (fun j e => ?_)⟩, ⟨?_⟩, ⟨HBW2.out.grown hg9 HBW2.out.size (fun j e => ?_)⟩⟩
      ·rw [HKE.out, HKE2.out, HYY.out]; exact HO9.out
      ·obtain ⟨_, ho⟩ := Kd.R_own HO2.out; have := own_base ho j e; omega
      ·exact (hg9.block _ (by omega) (fun e => by obtain ⟨_, ho⟩ := Kd.R_own HO2.out; have := own_base ho _ e.symm; omega)).trans BK2.out
      ·obtain ⟨_, ho⟩ := Kd.R_own HO2.out; have := own_base ho j e; omega
     case measure => simp [intOf]; omega
    ·have hke : P.take k = P := List.take_of_length_le (by omega)
     rw [hke] at HO
     obtain ⟨A9, q9, hl9, hrd⟩ := Kd.R_reads HO.out
     rw [List.length_map] at hl9
     have hpn : P.length ≤ q9 := by have := hrd.1; rw [List.length_map] at this; exact this
     have HJ := Aside0.mk (join_calls A9 q9 P (by have := HLEN.out; omega) (by omega) hpn wr hrd.2)
     rw [hP] at hl9 HJ
     obtain rfl := hl9
     have k0 := (blk_cell BK.out 0).trans (rfl : _ = some (Value.int .i64 x.f0))
     obtain ⟨J, hJ⟩ : ∃ J, ba (commas P) = J := ⟨_, rfl⟩
     rw [hJ] at HJ
     have hJs : J.size = (commas P).length := by rw [← hJ, size_ba]
     have HJJ := Aside0.mk hJ
     have z1 : (9223372036854775807 < 1 + J.size) = False := eq_false (by have := HLEN.out; omega)
     have z2 : (9223372036854775807 < 1 + J.size + 1) = False := eq_false (by have := HLEN.out; omega)
     clear hke hrd hpn hJ hJs
     go_wp2_with fail
     refine HJ.out.mono ?_
     rintro e w2 ⟨rfl, hb2⟩
     have HB2 := Aside0.mk (below_then HB.out HB.out.size hb2)
     clear hb2
     go_wp2
     go_ret
     refine ⟨?_, HB2.out⟩
     rw [show ba (91 :: (commas P ++ [93])) = (⟨#[91]⟩ : ByteArray) ++ J ++ (⟨#[93]⟩ : ByteArray) by rw [← HJJ.out]; apply bl_inj; rw [bl_append, bl_append, bl_ba, bl_ba]; simp [bl]]
     rfl
  by_cases ck : x.f0 = 6
  ·have e5 : (x.f0 == 5) = (6 == 5) := by rw [ck]; rfl
   have e6 : (x.f0 == 6) = (6 == 6) := by rw [ck]; rfl
   rw [show ((6 : Nat) == 5) = !true from rfl] at e5
   rw [show ((6 : Nat) == 6) = true from rfl] at e6
   have hr : rend (d + 1) x = 123 :: (commas (partsR d x) ++ [125]) := by
    rw [rend, if_neg c1, if_neg c2, if_neg c3, if_neg c4]
    rw [if_neg (by omega)]; rfl
   rw [hr] at hlen ⊢
   simp only [List.length_cons, List.length_append, List.length_nil] at hlen
   have hpk : ∀ k, ∀ h : k < x.f3.length, ∃ h2 : k < (partsR d x).length, (partsR d x)[k]'h2 =
     jq (bl (x.f4.getD k ⟨#[]⟩)) ++ 58 :: rend d (x.f3[k]'h) := fun k h => ⟨by rw [hP]; exact h, by
      have hk4 : k < x.f4.length := by
       rw [if_pos ck, Bool.and_eq_true] at hkeys
       have : x.f4.length = x.f3.length := by simpa using hkeys.1
       omega
      unfold partsR; simp only [if_pos ck]; rw [List.getElem_zipWith, List.getD_eq_getElem?_getD, List.getElem?_eq_getElem hk4]; rfl⟩
   have hk4 : x.f4.length = x.f3.length := by
    rw [if_pos ck, Bool.and_eq_true] at hkeys
    simpa using hkeys.1
   have hplen : ∀ k, ∀ h : k < (partsR d x).length, ((partsR d x)[k]'h).length ≤ 1000000000 := fun k h => by
    have := commas_len (partsR d x) _ (List.getElem_mem h)
    omega
   have HPK := Aside0.mk hpk
   have HK4 := Aside0.mk hk4
   clear hk4
   have HPL := Aside0.mk hplen
   obtain ⟨P, hPP⟩ : ∃ P, partsR d x = P := ⟨_, rfl⟩
   rw [hPP] at hP hlen HPK HPL ⊢
   have HLEN := Aside0.mk hlen
   clear hr hpk hplen hPP hkeys ck c1 c2 c3 c4 p0 p1 hlen
   go_enter Tryz.func25, Tryz.ntmps25
   go_wp2_with (rw [HW1.out])
   go_loopw [3, 30] (fun v3 i wr => ∃ k : Nat, k ≤ x.f3.length ∧ i = .int .i64 k ∧ Aside0 (Kd.R Kd.string 9 wr (w.heap.size + 1) (fun _ => True) v3 ((P.take k).map ba)) ∧ Aside0 (Below w.heap.size w wr) ∧ Aside0 (wr.heap[w.heap.size]? = some (.cells #[.int .i64 x.f0, .int .i64 x.f1, .string x.f2, .slice A3 x.f3.length q3, .slice A4 x.f4.length q4] 25 (0, 0))) ∧ Aside0 (Below W1.heap.size W1 wr)) (fun _ i _ => x.f3.length - (intOf i).toNat)
   case atStart => exact ⟨0, Nat.zero_le _, rfl, ⟨Kd.R_nil _ _ _ _ _⟩, HB1, BK1, ⟨Below.refl _ _⟩⟩
   case round =>
    obtain ⟨k, hk, rfl, HO, HB, BK, HBW⟩ := hrel
    clear m0 m1 m2 m3 m4
    have hzr : w.heap.size + 1 ≤ wr.heap.size := by have := HBW.out.size; omega
    by_cases hlt : k < x.f3.length
    ·have p0 : (0 : Int) ≤ (k : Int) := by omega
     have q0 : (k : Int) < (x.f3.length : Int) := by omega
     obtain ⟨ad, B3, r3, B4, r4, rfl, hx0, hx1, hx2, hx3, hx4, hl3, hg3, hl4, hg4⟩ := at_T25 (Kd.C_below G3.out HBW.out) (k : Int) p0 q0
     have hrd : rd_T25 x.f3 (k : Int) = x.f3[k]'hlt := by simp [rd_T25, List.getD_eq_getElem?_getD, List.getElem?_eq_getElem hlt]
     rw [hrd] at hx0 hx1 hx2 hx3 hx4 hl3 hg3 hl4 hg4
     simp only [Int.toNat_natCast] at hx0 hx1 hx2 hx3 hx4
     obtain ⟨hkP, hkE⟩ := HPK.out k hlt
     obtain ⟨y, hy⟩ : ∃ y, x.f3[k]'hlt = y := ⟨_, rfl⟩
     have hyf := HALL.out _ (List.getElem_mem hlt)
     rw [hy] at hx0 hx1 hx2 hx3 hx4 hl3 hg3 hl4 hg4 hkE hyf
     have hpl := HPL.out k hkP
     have hylen : (rend d y).length ≤ 1000000000 := by
      rw [hkE] at hpl
      simp only [List.length_append, List.length_cons] at hpl
      omega
     have HYR := Aside0.mk (fun (W : World) (hW : Below wr.heap.size wr W) => HIH.out y B3 B4 r3 r4 W hyf hylen (HG1.out.below (below_then HBW.out HBW.out.size hW)) hl3 hl4 (Kd.C_below hg3 hW) (Kd.C_below hg4 hW))
     have HKE := Aside0.mk (show (P.take (k + 1)).map ba = (P.take k).map ba ++ [ba (P[k]'hkP)] from take_ba P k hkP)
     have HKE2 := Aside0.mk hkE
     have HPL2 := Aside0.mk hpl
     have k0 := (blk_cell BK.out 0).trans (rfl : _ = some (Value.int .i64 x.f0))
     have k4 := (blk_cell BK.out 4).trans (rfl : _ = some (Value.slice A4 x.f4.length q4))
     clear hrd hl3 hg3 hl4 hg4 hy hyf hylen hkE hpl
     go_wp2_with fail
     refine (HYR.out _ (below_alloc (Below.refl _ wr) _)).mono ?_
     rintro e w2 ⟨rfl, hb2⟩
     have hbr := below_then (below_alloc (Below.refl _ wr) (.cells #[.int .i64 y.f0, .int .i64 y.f1, .string y.f2, .slice B3 y.f3.length r3, .slice B4 y.f4.length r4] 25)) (below_alloc (Below.refl _ wr) (.cells #[.int .i64 y.f0, .int .i64 y.f1, .string y.f2, .slice B3 y.f3.length r3, .slice B4 y.f4.length r4] 25)).size hb2
     have BK2 := Aside0.mk (blk_below BK.out hbr)
     have HO2 := Aside0.mk (Kd.R_below HO.out hbr)
     have HBW2 := Aside0.mk (below_then HBW.out HBW.out.size hbr)
     have HB2 := Aside0.mk (below_then HB.out HB.out.size hbr)
     have hzr2 : w.heap.size + 1 ≤ w2.heap.size := Nat.le_trans hzr hbr.size
     have k0 := (blk_cell BK2.out 0).trans (rfl : _ = some (Value.int .i64 x.f0))
     have k4 := (blk_cell BK2.out 4).trans (rfl : _ = some (Value.slice A4 x.f4.length q4))
     obtain ⟨Y, hY⟩ : ∃ Y, ba (rend d y) = Y := ⟨_, rfl⟩
     have HYY := Aside0.mk hY
     have hYs : Y.size = (rend d y).length := by rw [← hY, size_ba]
     rw [hY]
     clear hb2 hbr hx0 hx1 hx2 hx3 hx4 hY HYR
     obtain ⟨ad4, rfl, hkx⟩ := Kd.at_string (Kd.C_below G4.out HBW2.out) (k : Int) p0 (by have := HK4.out; omega)
     have hkl : k < x.f4.length := by have := HK4.out; omega
     have hrk : rdOf ByteArray.empty x.f4 (k : Int) = x.f4[k]'hkl := by simp [rdOf, List.getD_eq_getElem?_getD, List.getElem?_eq_getElem hkl]
     rw [hrk] at hkx
     simp only [Int.toNat_natCast] at hkx
     have hgd : x.f4.getD k ⟨#[]⟩ = x.f4[k]'hkl := by rw [List.getD_eq_getElem?_getD, List.getElem?_eq_getElem hkl]; rfl
     obtain ⟨kk, hkk⟩ : ∃ kk, x.f4[k]'hkl = kk := ⟨_, rfl⟩
     rw [hkk] at hkx
     have HKK := Aside0.mk (hgd.trans hkk)
     have hpl2 := HPL2.out
     rw [HKE2.out, HKK.out] at hpl2
     simp only [List.length_append, List.length_cons] at hpl2
     have hjl := jq_len (bl kk)
     rw [bl_length] at hjl
     have HQ := Aside0.mk (quote_calls kk (by omega) w2)
     obtain ⟨Q, hQ⟩ : ∃ Q, ba (jq (bl kk)) = Q := ⟨_, rfl⟩
     have hQs : Q.size = (jq (bl kk)).length := by rw [← hQ, size_ba]
     rw [hQ] at HQ
     have HQQ := Aside0.mk hQ
     have qk : (k : Int) < (x.f4.length : Int) := by omega
     have z1 : (9223372036854775807 < Q.size + 1) = False := eq_false (by omega)
     have z2 : (9223372036854775807 < Q.size + 1 + Y.size) = False := eq_false (by omega)
     have HSZ := Aside0.mk (show Q.size + 1 + Y.size ≤ 1000000000 by omega)
     clear hrk hgd hkk hpl2 hjl hQ hQs hYs
     go_wp2_with fail
     refine HQ.out.mono ?_
     rintro e w3 ⟨rfl, hb3⟩
     have BK3 := Aside0.mk (blk_below BK2.out hb3)
     have HO3 := Aside0.mk (Kd.R_below HO2.out hb3)
     have HBW3 := Aside0.mk (below_then HBW2.out HBW2.out.size hb3)
     have HB3 := Aside0.mk (below_then HB2.out HB2.out.size hb3)
     have hzr3 : w.heap.size + 1 ≤ w3.heap.size := Nat.le_trans hzr2 hb3.size
     clear hb3 hkx k0 k4
     go_wp2_with (first | ((with_reducible refine gate_builtin (b := .append) (xs := #[.tmp 49, .tmp 51]) rfl ?_); at_builtin; refine Kd.R_append Kd.string (w0 := w3) (w.heap.size + 1) rfl (.tmp 49) (.tmp 51) 23 9 (.string ⟨#[]⟩) 16 rfl Tryz.underlying23 info9 rfl (by decide) (by omega) u3 ((P.take k).map ba) (Q ++ (⟨#[58]⟩ : ByteArray) ++ Y) [.string (Q ++ (⟨#[58]⟩ : ByteArray) ++ Y)] (fun _ => True) (fun _ => False) rfl rfl ?aP (fun _ hk => hk.elim) ?aF ?aO ?aB ?aS ?aL ?_; (case aP => exact rfl); (case aB => exact Below.refl _ _); (case aF => exact (fun _ _ => trivial)); (case aO => exact HO3.out); (case aS => omega); (case aL => (have h_ := List.length_take_le k P; rw [List.length_map]; omega)); intro v9 w9 ho hb hg hat; have HO9 := Aside0.mk ho; have HG9 := Aside0.mk hg; have HB9 := Aside0.mk hb; clear ho hb hg hat))
     obtain ⟨A9, q9, rfl⟩ := Kd.R_slice HO9.out
     have hg9 := HG9.out
     go_wp2
     go_roundw
     case rel =>
      refine ⟨k + 1, by omega, by go_num, ⟨?_⟩, ⟨HB3.out.grown hg9 HB3.out.size (fun j e => ?_)⟩, ⟨?_⟩, ⟨HBW3.out.grown hg9 HBW3.out.size (fun j e => ?_)⟩⟩
      ·rw [HKE.out, HKE2.out, HKK.out, show ba (jq (bl kk) ++ 58 :: rend d y) = Q ++ (⟨#[58]⟩ : ByteArray) ++ Y by rw [← HQQ.out, ← HYY.out]; apply bl_inj; rw [bl_append, bl_append, bl_ba, bl_ba, bl_ba]; simp [bl]]; exact HO9.out
      ·obtain ⟨_, ho⟩ := Kd.R_own HO3.out; have := own_base ho j e; omega
      ·exact (hg9.block _ (by omega) (fun e => by obtain ⟨_, ho⟩ := Kd.R_own HO3.out; have := own_base ho _ e.symm; omega)).trans BK3.out
      ·obtain ⟨_, ho⟩ := Kd.R_own HO3.out; have := own_base ho j e; omega
     case measure => simp [intOf]; omega
    ·have hke : P.take k = P := List.take_of_length_le (by omega)
     rw [hke] at HO
     obtain ⟨A9, q9, hl9, hrd⟩ := Kd.R_reads HO.out
     rw [List.length_map] at hl9
     have hpn : P.length ≤ q9 := by have := hrd.1; rw [List.length_map] at this; exact this
     have HJ := Aside0.mk (join_calls A9 q9 P (by have := HLEN.out; omega) (by omega) hpn wr hrd.2)
     rw [hP] at hl9 HJ
     obtain rfl := hl9
     have k0 := (blk_cell BK.out 0).trans (rfl : _ = some (Value.int .i64 x.f0))
     obtain ⟨J, hJ⟩ : ∃ J, ba (commas P) = J := ⟨_, rfl⟩
     rw [hJ] at HJ
     have hJs : J.size = (commas P).length := by rw [← hJ, size_ba]
     have HJJ := Aside0.mk hJ
     have z1 : (9223372036854775807 < 1 + J.size) = False := eq_false (by have := HLEN.out; omega)
     have z2 : (9223372036854775807 < 1 + J.size + 1) = False := eq_false (by have := HLEN.out; omega)
     clear hke hrd hpn hJ hJs
     go_wp2_with fail
     refine HJ.out.mono ?_
     rintro e w2 ⟨rfl, hb2⟩
     have HB2 := Aside0.mk (below_then HB.out HB.out.size hb2)
     clear hb2
     go_wp2
     go_ret
     refine ⟨?_, HB2.out⟩
     rw [show ba (123 :: (commas P ++ [125])) = (⟨#[123]⟩ : ByteArray) ++ J ++ (⟨#[125]⟩ : ByteArray) by rw [← HJJ.out]; apply bl_inj; rw [bl_append, bl_append, bl_ba, bl_ba]; simp [bl]]
     rfl
  omega
end Go.Proofs.YtifejhbochkifaaGreatDoor.X
