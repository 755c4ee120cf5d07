/- Quote and Unquote: the program's two texts over a strings.Builder. -/
import Derived.Test.YtjagjfmkfiikaaaDoorX3
import Derived.Test.YtjagjfmkfiikaaaDoorSh
import Derived.Test.YtjagjfmkfiikaaaDoorHSpec
import Derived.Test.YtjagjfmkfiikaaaDoorHLib
import Derived.WalkKit
import Derived.Deep.LoopGhost
import Derived.StillTailTactics
import Derived.IntWalk
namespace Go.Proofs.YtjagjfmkfiikaaaDoor.X
open Go.RowKit Go.Proofs.YtjagjfmkfiikaaaDoorW.PrintWords Go.Proofs.YtjagjfmkfiikaaaDoorW.PrintLast Go.Proofs.YtjagjfmkfiikaaaDoorW.PrintMore Go.Proofs.YtjagjfmkfiikaaaDoor.Spec
set_option linter.unusedVariables false
set_option linter.unusedSimpArgs false

theorem plain_fin : ∀ n : Fin 256, text_Plain.f (n.val : Int) = some (plainc (UInt8.ofNat n.val)) := by decide +kernel
theorem plain_byte (c : UInt8) : text_Plain.f (c.toNat : Int) = some (plainc c) := by
  have := plain_fin ⟨c.toNat, c.toNat_lt⟩
  simpa using this
theorem plain_call (c : UInt8) (w : World) : Calls Tryd.prog 35 #[.int .u8 (c.toNat : Int)] w fun e w' => e = .returned (.bool (plainc c)) ∧ Drawn0 w w' :=
  text_Plain.calls _ _ w (plain_byte c)

theorem great_fin : ∀ n : Fin 16, ((⟨#[48, 49, 50, 51, 52, 53, 54, 55, 56, 57, 65, 66, 67, 68, 69, 70]⟩ : ByteArray)[n.val]'n.isLt) = greatc n.val := by decide +kernel
theorem great_at (n : Nat) (h : n < (⟨#[48, 49, 50, 51, 52, 53, 54, 55, 56, 57, 65, 66, 67, 68, 69, 70]⟩ : ByteArray).size) : ((⟨#[48, 49, 50, 51, 52, 53, 54, 55, 56, 57, 65, 66, 67, 68, 69, 70]⟩ : ByteArray)[n]'h) = greatc n := great_fin ⟨n, h⟩
def text_Quote.f (a0 : ByteArray) : Option ByteArray := if a0.size ≤ 35184372088832 then some (ba (quoteL (bl a0))) else none

theorem take_snoc (l : List UInt8) (k : Nat) (h : k < l.length) : l.take (k + 1) = l.take k ++ [l[k]] := by
  rw [List.take_succ_eq_append_getElem h]

set_option maxHeartbeats 4000000 in
set_option maxRecDepth 100000 in
theorem text_Quote.calls (a0 : ByteArray) (r : ByteArray) (w : World) (h : text_Quote.f a0 = some r) :
    Calls Tryd.prog 23 #[.string a0] w fun e w' => e = .returned (.string r) ∧ Below w.heap.size w w' := by
  unfold text_Quote.f at h
  split at h
  case isFalse => cases h
  rename_i hs
  obtain rfl := Option.some.inj h
  clear h
  go_enter Tryd.func23, Tryd.ntmps23
  go_wp2
  go_loopw [8] (fun i wr => ∃ k : Nat, k ≤ a0.size ∧ i = .int .i64 k ∧ Aside0 (Lib.IsBuilder 58 5 w.heap.size w.heap.size (Lib.byteCells (quoteL ((bl a0).take k))) wr) ∧ Aside0 (Below w.heap.size w wr)) (fun i _ => a0.size - (intOf i).toNat)
  case atStart =>
    exact ⟨0, Nat.zero_le _, rfl, ⟨Lib.fresh_isBuilder 58 5 w⟩, ⟨(Below.refl _ w).alloc (Nat.le_refl _) _⟩⟩
  case round =>
    obtain ⟨k, hk, rfl, HI, HB⟩ := hrel
    have hl3 : (Lib.byteCells (quoteL ((bl a0).take k))).length ≤ 3 * k := by
      rw [Lib.byteCells_length]
      refine Nat.le_trans (quoteL_length _) ?_
      have := List.length_take_le k (bl a0)
      omega
    have hBw : w.heap.size ≤ wr.heap.size := HB.out.size
    by_cases hlt : k < a0.size
    · have hts : quoteL ((bl a0).take (k + 1)) = quoteL ((bl a0).take k) ++ quote1 (a0[k]'hlt) := by
        rw [take_snoc _ _ (by rw [bl_length]; exact hlt), quoteL_snoc]
        rfl
      have HT := Aside0.mk hts
      clear hts
      by_cases hp : plainc (a0[k]'hlt) = true
      · have h1 : quote1 (a0[k]'hlt) = [a0[k]'hlt] := by unfold quote1; rw [if_pos hp]
        rw [h1] at HT
        have HP := Aside0.mk hp
        clear h1 hp
        go_wp2_with fail
        refine (plain_call _ _).mono ?_
        rw [HP.out]
        rintro e w1 ⟨rfl, ⟨n, rfl⟩⟩
        go_wp2_with fail
        refine (Sh.Builder_WriteByte w.heap.size w.heap.size (Lib.byteCells (quoteL ((bl a0).take k))) ((a0[k]'hlt).toNat : Int) (wr.drewN n) HI.out (by omega) hBw).mono ?_
        rintro e w2 ⟨rfl, h2, hb2⟩
        have H2 := Aside0.mk h2
        have HB2 := Aside0.mk ((pw_below_drewN HB.out n).trans hb2)
        clear h2 hb2
        go_wp2
        go_roundw
        case rel => exact ⟨k + 1, by omega, by go_num, ⟨by rw [HT.out, Lib.byteCells_append]; exact Or.inr H2.out⟩, HB2⟩
        case measure => simp [intOf]; omega
      · have h1 : quote1 (a0[k]'hlt) = [37, greatc ((a0[k]'hlt).toNat / 16), greatc ((a0[k]'hlt).toNat % 16)] := by unfold quote1; rw [if_neg hp]
        rw [h1] at HT
        have HP := Aside0.mk (Bool.eq_false_iff.2 hp)
        clear h1 hp
        go_wp2_with fail
        refine (plain_call _ _).mono ?_
        rw [HP.out]
        rintro e w1 ⟨rfl, ⟨n, rfl⟩⟩
        go_wp2_with fail
        refine (Sh.Builder_WriteString w.heap.size w.heap.size (Lib.byteCells (quoteL ((bl a0).take k))) (⟨#[37]⟩ : ByteArray) (wr.drewN n) HI.out (by have : ByteArray.size ⟨#[37]⟩ = 1 := rfl; omega) hBw).mono ?_
        rintro e w2 ⟨rfl, h2, hb2⟩
        have H2 := Aside0.mk h2
        have HB2 := Aside0.mk ((pw_below_drewN HB.out n).trans hb2)
        clear h2 hb2
        have hl4 : (Lib.byteCells (quoteL ((bl a0).take k)) ++ Lib.strCells (⟨#[37]⟩ : ByteArray)).length ≤ 3 * k + 1 := by
          rw [List.length_append, Lib.strCells_length]
          have : ByteArray.size ⟨#[37]⟩ = 1 := rfl
          omega
        have hBw2 : w.heap.size ≤ w2.heap.size := HB2.out.size
        have b0 : (0 : Int) ≤ ((a0[k]'hlt).toNat : Int) / 16 := by omega
        have b1 : ((a0[k]'hlt).toNat : Int) / 16 < 16 := by have := (a0[k]'hlt).toNat_lt; omega
        go_wp2_with fail
        refine (Sh.Builder_WriteByte w.heap.size w.heap.size _ _ w2 (Or.inr H2.out) (by omega) hBw2).mono ?_
        rintro e w3 ⟨rfl, h3, hb3⟩
        have H3 := Aside0.mk h3
        have HB3 := Aside0.mk (HB2.out.trans hb3)
        clear h3 hb3
        have hBw3 : w.heap.size ≤ w3.heap.size := HB3.out.size
        go_wp2_with fail
        refine (Sh.Builder_WriteByte w.heap.size w.heap.size _ _ w3 (Or.inr H3.out) (by rw [List.length_append]; simp only [List.length_cons, List.length_nil]; omega) hBw3).mono ?_
        rintro e w4 ⟨rfl, h4, hb4⟩
        have H4 := Aside0.mk h4
        have HB4 := Aside0.mk (HB3.out.trans hb4)
        clear h4 hb4
        go_wp2
        go_roundw
        case rel =>
          refine ⟨k + 1, by omega, by go_num, ⟨?_⟩, HB4⟩
          have h5 := H4.out
          rw [great_at, great_at] at h5
          rw [HT.out, Lib.byteCells_append]
          refine Or.inr ?_
          simpa [Lib.byteCells, Lib.strCells] using h5
        case measure => simp [intOf]; omega
    · go_wp2_with fail
      refine (Sh.Builder_String_any w.heap.size w.heap.size _ _ HI.out hBw).mono ?_
      rintro e w1 ⟨rfl, hb1⟩
      have HB1 := Aside0.mk (HB.out.trans hb1)
      clear hb1
      have hke : k = a0.size := by omega
      have ht : (bl a0).take k = bl a0 := List.take_of_length_le (by rw [bl_length]; omega)
      have HT := Aside0.mk ht
      clear hke ht
      go_wp2
      go_ret
      exact ⟨by rw [HT.out]; rfl, HB1.out⟩

end Go.Proofs.YtjagjfmkfiikaaaDoor.X
