/- json.quote: a text, as it stands in JSON. -/
import Derived.Test.YtifejhbochkifaaGreatDoorHTxt
namespace Go.Proofs.YtifejhbochkifaaGreatDoor.X
open Go.RowKit Go.Proofs.YtifejhbochkifaaGreatDoorW.PrintWords Go.Proofs.YtifejhbochkifaaGreatDoorW.PrintLast Go.Proofs.YtifejhbochkifaaGreatDoorW.PrintMore Go.Proofs.YtifejhbochkifaaGreatDoor.Spec
set_option linter.unusedVariables false
set_option linter.unusedSimpArgs false
theorem hexc_fin : ∀ n : Fin 16, ((⟨#[48, 49, 50, 51, 52, 53, 54, 55, 56, 57, 97, 98, 99, 100, 101, 102]⟩ : ByteArray)[n.val]'n.isLt) = hexc n.val := by decide +kernel
theorem hexc_at (n : Nat) (h : n < (⟨#[48, 49, 50, 51, 52, 53, 54, 55, 56, 57, 97, 98, 99, 100, 101, 102]⟩ : ByteArray).size) : ((⟨#[48, 49, 50, 51, 52, 53, 54, 55, 56, 57, 97, 98, 99, 100, 101, 102]⟩ : ByteArray)[n]'h) = hexc n := hexc_fin ⟨n, h⟩
theorem esc1_length (c : UInt8) : (esc1 c).length ≤ 6 := by
 unfold esc1
 split
 ·simp
 ·split <;> simp
theorem escL_length (l : List UInt8) : (escL l).length ≤ 6 * l.length := by
 induction l with
 | nil => simp [escL]
 | cons c r ih => have := esc1_length c; simp only [escL, List.flatMap_cons, List.length_append, List.length_cons] at *; omega
theorem escL_snoc (a : List UInt8) (c : UInt8) : escL (a ++ [c]) = escL a ++ esc1 c := by simp [escL]
theorem take_snoc (l : List UInt8) (k : Nat) (h : k < l.length) : l.take (k + 1) = l.take k ++ [l[k]] := by
 rw [List.take_succ_eq_append_getElem h]
def json_quote.f (a0 : ByteArray) : Option ByteArray := if a0.size ≤ 1000000000000 then some (ba (jq (bl a0))) else none
set_option maxHeartbeats 4000000 in
set_option maxRecDepth 100000 in
theorem json_quote.calls (a0 : ByteArray) (r : ByteArray) (w : World) (h : json_quote.f a0 = some r) :
  Calls Tryz.prog 49 #[.string a0] w fun e w' => e = .returned (.string r) ∧ Below w.heap.size w w' := by
 unfold json_quote.f at h
 split at h
 case isFalse => cases h
 rename_i hs
 obtain rfl := Option.some.inj h
 clear h
 go_enter Tryz.func49, Tryz.ntmps49
 go_wp2_with fail
 refine (Sh.Builder_WriteByte w.heap.size w.heap.size (Lib.byteCells []) 34 _ (Lib.fresh_isBuilder 79 5 w) (by simp [Lib.byteCells]) (by simp)).mono ?_
 rintro e w0 ⟨rfl, h0, hb0⟩
 have HI0 := Aside0.mk (show Lib.IsBuilder 79 5 w.heap.size w.heap.size (Lib.byteCells (34 :: escL ((bl a0).take 0))) w0 from Or.inr h0)
 have HB0 := Aside0.mk (((Below.refl _ w).alloc (Nat.le_refl _) (.cells #[.pointer none, .slice none 0 0] 79)).trans hb0)
 clear h0 hb0
 go_wp2
 go_loopw [9] (fun i wr => ∃ k : Nat, k ≤ a0.size ∧ i = .int .i64 k ∧ Aside0 (Lib.IsBuilder 79 5 w.heap.size w.heap.size (Lib.byteCells (34 :: escL ((bl a0).take k))) wr) ∧ Aside0 (Below w.heap.size w wr)) (fun i _ => a0.size - (intOf i).toNat)
 case atStart => exact ⟨0, Nat.zero_le _, rfl, HI0, HB0⟩
 case round =>
  obtain ⟨k, hk, rfl, HI, HB⟩ := hrel
  clear HI0 HB0
  have hl3 : (Lib.byteCells (34 :: escL ((bl a0).take k))).length ≤ 6 * k + 1 := by
   rw [Lib.byteCells_length, List.length_cons]
   have := escL_length ((bl a0).take k)
   have := List.length_take_le k (bl a0)
   omega
  have hBw : w.heap.size ≤ wr.heap.size := HB.out.size
  by_cases hlt : k < a0.size
  ·have hts : Lib.byteCells (34 :: escL ((bl a0).take (k + 1))) = Lib.byteCells (34 :: escL ((bl a0).take k)) ++ Lib.byteCells (esc1 (a0[k]'hlt)) := by
    rw [take_snoc _ _ (by rw [bl_length]; exact hlt), escL_snoc, ← Lib.byteCells_append]
    rfl
   have HT := Aside0.mk hts
   clear hts
   have hc256 := (a0[k]'hlt).toNat_lt
   by_cases hp : (a0[k]'hlt) = 34 ∨ (a0[k]'hlt) = 92
   ·have h1 : esc1 (a0[k]'hlt) = [92, a0[k]'hlt] := by unfold esc1; rw [if_pos hp]
    rw [h1] at HT
    have hq : (((a0[k]'hlt).toNat : Int) == 34) = true ∨ ((((a0[k]'hlt).toNat : Int) == 34) = false ∧ (((a0[k]'hlt).toNat : Int) == 92) = true) := by
     rcases hp with e | e
     ·left; rw [e]; rfl
     ·right; rw [e]; exact ⟨rfl, rfl⟩
    clear h1 hp
    rcases hq with hq | ⟨hq, hq2⟩
    ·go_wp2_with fail
     refine (Sh.Builder_WriteByte w.heap.size w.heap.size _ 92 wr HI.out (by omega) hBw).mono ?_
     rintro e w2 ⟨rfl, h2, hb2⟩
     have H2 := Aside0.mk h2
     have HB2 := Aside0.mk (HB.out.trans hb2)
     clear h2 hb2
     go_wp2_with fail
     refine (Sh.Builder_WriteByte w.heap.size w.heap.size _ ((a0[k]'hlt).toNat : Int) w2 (Or.inr H2.out) (by rw [List.length_append]; simp only [List.length_cons, List.length_nil]; omega) HB2.out.size).mono ?_
     rintro e w3 ⟨rfl, h3, hb3⟩
     have H3 := Aside0.mk (show Lib.IsBuilder 79 5 w.heap.size w.heap.size (Lib.byteCells (34 :: escL ((bl a0).take (k + 1)))) w3 by rw [HT.out]; refine Or.inr ?_; simpa [Lib.byteCells] using h3)
     have HB3 := Aside0.mk (HB2.out.trans hb3)
     clear h3 hb3
     go_wp2
     go_roundw
     case rel => exact ⟨k + 1, by omega, by go_num, H3, HB3⟩
     case measure => simp [intOf]; omega
    ·go_wp2_with fail
     refine (Sh.Builder_WriteByte w.heap.size w.heap.size _ 92 wr HI.out (by omega) hBw).mono ?_
     rintro e w2 ⟨rfl, h2, hb2⟩
     have H2 := Aside0.mk h2
     have HB2 := Aside0.mk (HB.out.trans hb2)
     clear h2 hb2
     go_wp2_with fail
     refine (Sh.Builder_WriteByte w.heap.size w.heap.size _ ((a0[k]'hlt).toNat : Int) w2 (Or.inr H2.out) (by rw [List.length_append]; simp only [List.length_cons, List.length_nil]; omega) HB2.out.size).mono ?_
     rintro e w3 ⟨rfl, h3, hb3⟩
     have H3 := Aside0.mk (show Lib.IsBuilder 79 5 w.heap.size w.heap.size (Lib.byteCells (34 :: escL ((bl a0).take (k + 1)))) w3 by rw [HT.out]; refine Or.inr ?_; simpa [Lib.byteCells] using h3)
     have HB3 := Aside0.mk (HB2.out.trans hb3)
     clear h3 hb3
     go_wp2
     go_roundw
     case rel => exact ⟨k + 1, by omega, by go_num, H3, HB3⟩
     case measure => simp [intOf]; omega
   ·rw [not_or] at hp
    have hq1 : (((a0[k]'hlt).toNat : Int) == 34) = false := by rw [beq_eq_false_iff_ne]; intro e; exact hp.1 (UInt8.toNat_inj.1 (by show _ = 34; omega))
    have hq2 : (((a0[k]'hlt).toNat : Int) == 92) = false := by rw [beq_eq_false_iff_ne]; intro e; exact hp.2 (UInt8.toNat_inj.1 (by show _ = 92; omega))
    by_cases h32 : (a0[k]'hlt).toNat < 32
    ·have h1 : esc1 (a0[k]'hlt) = [92, 117, 48, 48, hexc ((a0[k]'hlt).toNat / 16), hexc ((a0[k]'hlt).toNat % 16)] := by unfold esc1; rw [if_neg (by rw [not_or]; exact hp), if_pos h32]
     rw [h1] at HT
     have hd : decide (((a0[k]'hlt).toNat : Int) < 32) = true := decide_eq_true (by omega)
     clear h1 hp
     go_wp2_with fail
     refine (Sh.Builder_WriteString w.heap.size w.heap.size _ (⟨#[92, 117, 48, 48]⟩ : ByteArray) wr HI.out (by have : ByteArray.size ⟨#[92, 117, 48, 48]⟩ = 4 := rfl; omega) hBw).mono ?_
     rintro e w2 ⟨rfl, h2, hb2⟩
     have H2 := Aside0.mk h2
     have HB2 := Aside0.mk (HB.out.trans hb2)
     clear h2 hb2
     have hl4 : (Lib.byteCells (34 :: escL ((bl a0).take k)) ++ Lib.strCells (⟨#[92, 117, 48, 48]⟩ : ByteArray)).length ≤ 6 * k + 5 := by
      rw [List.length_append, Lib.strCells_length]
      have : ByteArray.size ⟨#[92, 117, 48, 48]⟩ = 4 := rfl
      omega
     have hBw2 : w.heap.size ≤ w2.heap.size := HB2.out.size
     have b0 : (0 : Int) ≤ ((a0[k]'hlt).toNat : Int) / 16 := by omega
     have b1 : ((a0[k]'hlt).toNat : Int) / 16 < 16 := by omega
     go_wp2_with fail
     refine (Sh.Builder_WriteByte w.heap.size w.heap.size _ _ w2 (Or.inr H2.out) (by omega) hBw2).mono ?_
     rintro e w3 ⟨rfl, h3, hb3⟩
     have H3 := Aside0.mk h3
     have HB3 := Aside0.mk (HB2.out.trans hb3)
     clear h3 hb3
     have hBw3 : w.heap.size ≤ w3.heap.size := HB3.out.size
     go_wp2_with fail
     refine (Sh.Builder_WriteByte w.heap.size w.heap.size _ _ w3 (Or.inr H3.out) (by rw [List.length_append]; simp only [List.length_cons, List.length_nil]; omega) hBw3).mono ?_
     rintro e w4 ⟨rfl, h4, hb4⟩
     have H4 := Aside0.mk h4
     have HB4 := Aside0.mk (HB3.out.trans hb4)
     clear h4 hb4
     go_wp2
     go_roundw
     case rel =>
      refine ⟨k + 1, by omega, by go_num, ⟨?_⟩, HB4⟩
      have h5 := H4.out
      rw [hexc_at, hexc_at] at h5
      rw [HT.out]
      refine Or.inr ?_
      simpa [Lib.byteCells, Lib.strCells] using h5
     case measure => simp [intOf]; omega
    ·have h1 : esc1 (a0[k]'hlt) = [a0[k]'hlt] := by unfold esc1; rw [if_neg (by rw [not_or]; exact hp), if_neg h32]
     rw [h1] at HT
     have hd : decide (((a0[k]'hlt).toNat : Int) < 32) = false := decide_eq_false (by omega)
     clear h1 hp
     go_wp2_with fail
     refine (Sh.Builder_WriteByte w.heap.size w.heap.size _ ((a0[k]'hlt).toNat : Int) wr HI.out (by omega) hBw).mono ?_
     rintro e w3 ⟨rfl, h3, hb3⟩
     have H3 := Aside0.mk (show Lib.IsBuilder 79 5 w.heap.size w.heap.size (Lib.byteCells (34 :: escL ((bl a0).take (k + 1)))) w3 by rw [HT.out]; refine Or.inr ?_; simpa [Lib.byteCells] using h3)
     have HB3 := Aside0.mk (HB.out.trans hb3)
     clear h3 hb3
     go_wp2
     go_roundw
     case rel => exact ⟨k + 1, by omega, by go_num, H3, HB3⟩
     case measure => simp [intOf]; omega
  ·have hke : k = a0.size := by omega
   have ht : (bl a0).take k = bl a0 := List.take_of_length_le (by rw [bl_length]; omega)
   rw [ht] at HI hl3
   clear hke ht
   go_wp2_with fail
   refine (Sh.Builder_WriteByte w.heap.size w.heap.size _ 34 wr HI.out (by omega) hBw).mono ?_
   rintro e w3 ⟨rfl, h3, hb3⟩
   have H3 := Aside0.mk (show Lib.IsBuilder 79 5 w.heap.size w.heap.size (Lib.byteCells (jq (bl a0))) w3 by refine Or.inr ?_; unfold jq; simpa [Lib.byteCells] using h3)
   have HB3 := Aside0.mk (HB.out.trans hb3)
   clear h3 hb3
   go_wp2_with fail
   refine (Sh.Builder_String_any w.heap.size w.heap.size _ _ H3.out HB3.out.size).mono ?_
   rintro e w1 ⟨rfl, hb1⟩
   have HB1 := Aside0.mk (HB3.out.trans hb1)
   clear hb1
   go_wp2
   go_ret
   exact ⟨rfl, HB1.out⟩
end Go.Proofs.YtifejhbochkifaaGreatDoor.X
