import Derived.Test.YtifejhbochkifaaGreatDoorBB
import Derived.RangeFuncNested
import Derived.RangeFuncBound
import Derived.RangeFuncCalls
import Derived.RangeFuncLeaves
import Derived.RangeFuncFrom
import Derived.RangeFuncBox
import Derived.Shelf.Abstract
import Derived.Shelf.RegionOpen
import Derived.WalkKit
import Derived.OwnWalkIn
import Derived.TacticsInMore
import Derived.LoopNIn
import Derived.LoopIn
import Derived.Test.YtifejhbochkifaaGreatDoorX0
import Derived.Test.YtifejhbochkifaaGreatDoorBA
import Derived.Sort.OwnSorted
import Derived.Lib.SlicesCompact
import Derived.Deep.LoopGhost
import Derived.Test.YtifejhbochkifaaGreatDoorHNum
/-! HQuo -/
namespace Go.Proofs.YtifejhbochkifaaGreatDoor.X
open Go.RowKit Go.Proofs.YtifejhbochkifaaGreatDoorW.PrintWords Go.Proofs.YtifejhbochkifaaGreatDoorW.PrintLast Go.Proofs.YtifejhbochkifaaGreatDoorW.PrintMore Go.Proofs.YtifejhbochkifaaGreatDoor.Spec
set_option linter.unusedVariables false
set_option linter.unusedSimpArgs false
theorem hexc_fin : ∀ n : Fin 16, ((⟨#[48, 49, 50, 51, 52, 53, 54, 55, 56, 57, 97, 98, 99, 100, 101, 102]⟩ : ByteArray)[n.val]'n.isLt) = hexc n.val := by decide +kernel
theorem hexc_at (n : Nat) (h : n < (⟨#[48, 49, 50, 51, 52, 53, 54, 55, 56, 57, 97, 98, 99, 100, 101, 102]⟩ : ByteArray).size) : ((⟨#[48, 49, 50, 51, 52, 53, 54, 55, 56, 57, 97, 98, 99, 100, 101, 102]⟩ : ByteArray)[n]'h) = hexc n := hexc_fin ⟨n, h⟩
theorem esc1_length (c : UInt8) : (esc1 c).length ≤ 6 := by
 unfold esc1
 split
 ·simp
 ·split <;> simp
theorem escL_length (l : List UInt8) : (escL l).length ≤ 6 * l.length := by
 induction l with
 | nil => simp [escL]
 | cons c r ih => have := esc1_length c; simp only [escL, List.flatMap_cons, List.length_append, List.length_cons] at *; omega
theorem escL_snoc (a : List UInt8) (c : UInt8) : escL (a ++ [c]) = escL a ++ esc1 c := by simp [escL]
theorem take_snoc (l : List UInt8) (k : Nat) (h : k < l.length) : l.take (k + 1) = l.take k ++ [l[k]] := by
 rw [List.take_succ_eq_append_getElem h]
def json_quote.f (a0 : ByteArray) : Option ByteArray := if a0.size ≤ 1000000000000 then some (ba (jq (bl a0))) else none
set_option maxHeartbeats 4000000 in
set_option maxRecDepth 100000 in
theorem json_quote.calls (a0 : ByteArray) (r : ByteArray) (w : World) (h : json_quote.f a0 = some r) :
  Calls Tryz.prog 49 #[.string a0] w fun e w' => e = .returned (.string r) ∧ Below w.heap.size w w' := by
 unfold json_quote.f at h
 split at h
 case isFalse => cases h
 rename_i hs
 obtain rfl := Option.some.inj h
 clear h
 go_enter Tryz.func49, Tryz.ntmps49
 go_wp2_with fail
 refine (Sh.Builder_WriteByte w.heap.size w.heap.size (Lib.byteCells []) 34 _ (Lib.fresh_isBuilder 79 5 w) (by simp [Lib.byteCells]) (by simp)).mono ?_
 rintro e w0 ⟨rfl, h0, hb0⟩
 have HI0 := Aside0.mk (show Lib.IsBuilder 79 5 w.heap.size w.heap.size (Lib.byteCells (34 :: escL ((bl a0).take 0))) w0 from Or.inr h0)
 have HB0 := Aside0.mk (((Below.refl _ w).alloc (Nat.le_refl _) (.cells #[.pointer none, .slice none 0 0] 79)).trans hb0)
 clear h0 hb0
 go_wp2
 go_loopw [9] (fun i wr => ∃ k : Nat, k ≤ a0.size ∧ i = .int .i64 k ∧ Aside0 (Lib.IsBuilder 79 5 w.heap.size w.heap.size (Lib.byteCells (34 :: escL ((bl a0).take k))) wr) ∧ Aside0 (Below w.heap.size w wr)) (fun i _ => a0.size - (intOf i).toNat)
 case atStart => exact ⟨0, Nat.zero_le _, rfl, HI0, HB0⟩
 case round =>
  obtain ⟨k, hk, rfl, HI, HB⟩ := hrel
  clear HI0 HB0
  have hl3 : (Lib.byteCells (34 :: escL ((bl a0).take k))).length ≤ 6 * k + 1 := by
   rw [Lib.byteCells_length, List.length_cons]
   have := escL_length ((bl a0).take k)
   have := List.length_take_le k (bl a0)
   omega
  have hBw : w.heap.size ≤ wr.heap.size := HB.out.size
  by_cases hlt : k < a0.size
  ·have hts : Lib.byteCells (34 :: escL ((bl a0).take (k + 1))) = Lib.byteCells (34 :: escL ((bl a0).take k)) ++ Lib.byteCells (esc1 (a0[k]'hlt)) := by
    rw [take_snoc _ _ (by rw [bl_length]; exact hlt), escL_snoc, ← Lib.byteCells_append]
    rfl
   have HT := Aside0.mk hts
   clear hts
   have hc256 := (a0[k]'hlt).toNat_lt
   by_cases hp : (a0[k]'hlt) = 34 ∨ (a0[k]'hlt) = 92
   ·have h1 : esc1 (a0[k]'hlt) = [92, a0[k]'hlt] := by unfold esc1; rw [if_pos hp]
    rw [h1] at HT
    have hq : (((a0[k]'hlt).toNat : Int) == 34) = true ∨ ((((a0[k]'hlt).toNat : Int) == 34) = false ∧ (((a0[k]'hlt).toNat : Int) == 92) = true) := by
     rcases hp with e | e
     ·left; rw [e]; rfl
     ·right; rw [e]; exact ⟨rfl, rfl⟩
    clear h1 hp
    rcases hq with hq | ⟨hq, hq2⟩
    ·go_wp2_with fail
     refine (Sh.Builder_WriteByte w.heap.size w.heap.size _ 92 wr HI.out (by omega) hBw).mono ?_
     rintro e w2 ⟨rfl, h2, hb2⟩
     have H2 := Aside0.mk h2
     have HB2 := Aside0.mk (HB.out.trans hb2)
     clear h2 hb2
     go_wp2_with fail
     refine (Sh.Builder_WriteByte w.heap.size w.heap.size _ ((a0[k]'hlt).toNat : Int) w2 (Or.inr H2.out) (by rw [List.length_append]; simp only [List.length_cons, List.length_nil]; omega) HB2.out.size).mono ?_
     rintro e w3 ⟨rfl, h3, hb3⟩
     have H3 := Aside0.mk (show Lib.IsBuilder 79 5 w.heap.size w.heap.size (Lib.byteCells (34 :: escL ((bl a0).take (k + 1)))) w3 by rw [HT.out]; refine Or.inr ?_; simpa [Lib.byteCells] using h3)
     have HB3 := Aside0.mk (HB2.out.trans hb3)
     clear h3 hb3
     go_wp2
     go_roundw
     case rel => exact ⟨k + 1, by omega, by go_num, H3, HB3⟩
     case measure => simp [intOf]; omega
    ·go_wp2_with fail
     refine (Sh.Builder_WriteByte w.heap.size w.heap.size _ 92 wr HI.out (by omega) hBw).mono ?_
     rintro e w2 ⟨rfl, h2, hb2⟩
     have H2 := Aside0.mk h2
     have HB2 := Aside0.mk (HB.out.trans hb2)
     clear h2 hb2
     go_wp2_with fail
     refine (Sh.Builder_WriteByte w.heap.size w.heap.size _ ((a0[k]'hlt).toNat : Int) w2 (Or.inr H2.out) (by rw [List.length_append]; simp only [List.length_cons, List.length_nil]; omega) HB2.out.size).mono ?_
     rintro e w3 ⟨rfl, h3, hb3⟩
     have H3 := Aside0.mk (show Lib.IsBuilder 79 5 w.heap.size w.heap.size (Lib.byteCells (34 :: escL ((bl a0).take (k + 1)))) w3 by rw [HT.out]; refine Or.inr ?_; simpa [Lib.byteCells] using h3)
     have HB3 := Aside0.mk (HB2.out.trans hb3)
     clear h3 hb3
     go_wp2
     go_roundw
     case rel => exact ⟨k + 1, by omega, by go_num, H3, HB3⟩
     case measure => simp [intOf]; omega
   ·rw [not_or] at hp
    have hq1 : (((a0[k]'hlt).toNat : Int) == 34) = false := by rw [beq_eq_false_iff_ne]; intro e; exact hp.1 (UInt8.toNat_inj.1 (by show _ = 34; omega))
    have hq2 : (((a0[k]'hlt).toNat : Int) == 92) = false := by rw [beq_eq_false_iff_ne]; intro e; exact hp.2 (UInt8.toNat_inj.1 (by show _ = 92; omega))
    by_cases h32 : (a0[k]'hlt).toNat < 32
    ·have h1 : esc1 (a0[k]'hlt) = [92, 117, 48, 48, hexc ((a0[k]'hlt).toNat / 16), hexc ((a0[k]'hlt).toNat % 16)] := by unfold esc1; rw [if_neg (by rw [not_or]; exact hp), if_pos h32]
     rw [h1] at HT
     have hd : decide (((a0[k]'hlt).toNat : Int) < 32) = true := decide_eq_true (by omega)
     clear h1 hp
     go_wp2_with fail
     refine (Sh.Builder_WriteString w.heap.size w.heap.size _ (⟨#[92, 117, 48, 48]⟩ : ByteArray) wr HI.out (by have : ByteArray.size ⟨#[92, 117, 48, 48]⟩ = 4 := rfl; omega) hBw).mono ?_
     rintro e w2 ⟨rfl, h2, hb2⟩
     have H2 := Aside0.mk h2
     have HB2 := Aside0.mk (HB.out.trans hb2)
     clear h2 hb2
     have hl4 : (Lib.byteCells (34 :: escL ((bl a0).take k)) ++ Lib.strCells (⟨#[92, 117, 48, 48]⟩ : ByteArray)).length ≤ 6 * k + 5 := by
      rw [List.length_append, Lib.strCells_length]
      have : ByteArray.size ⟨#[92, 117, 48, 48]⟩ = 4 := rfl
      omega
     have hBw2 : w.heap.size ≤ w2.heap.size := HB2.out.size
     have b0 : (0 : Int) ≤ ((a0[k]'hlt).toNat : Int) / 16 := by omega
     have b1 : ((a0[k]'hlt).toNat : Int) / 16 < 16 := by omega
     go_wp2_with fail
     refine (Sh.Builder_WriteByte w.heap.size w.heap.size _ _ w2 (Or.inr H2.out) (by omega) hBw2).mono ?_
     rintro e w3 ⟨rfl, h3, hb3⟩
     have H3 := Aside0.mk h3
     have HB3 := Aside0.mk (HB2.out.trans hb3)
     clear h3 hb3
     have hBw3 : w.heap.size ≤ w3.heap.size := HB3.out.size
     go_wp2_with fail
     refine (Sh.Builder_WriteByte w.heap.size w.heap.size _ _ w3 (Or.inr H3.out) (by rw [List.length_append]; simp only [List.length_cons, List.length_nil]; omega) hBw3).mono ?_
     rintro e w4 ⟨rfl, h4, hb4⟩
     have H4 := Aside0.mk h4
     have HB4 := Aside0.mk (HB3.out.trans hb4)
     clear h4 hb4
     go_wp2
     go_roundw
     case rel =>
      refine ⟨k + 1, by omega, by go_num, ⟨?_⟩, HB4⟩
      have h5 := H4.out
      rw [hexc_at, hexc_at] at h5
      rw [HT.out]
      refine Or.inr ?_
      simpa [Lib.byteCells, Lib.strCells] using h5
     case measure => simp [intOf]; omega
    ·have h1 : esc1 (a0[k]'hlt) = [a0[k]'hlt] := by unfold esc1; rw [if_neg (by rw [not_or]; exact hp), if_neg h32]
     rw [h1] at HT
     have hd : decide (((a0[k]'hlt).toNat : Int) < 32) = false := decide_eq_false (by omega)
     clear h1 hp
     go_wp2_with fail
     refine (Sh.Builder_WriteByte w.heap.size w.heap.size _ ((a0[k]'hlt).toNat : Int) wr HI.out (by omega) hBw).mono ?_
     rintro e w3 ⟨rfl, h3, hb3⟩
     have H3 := Aside0.mk (show Lib.IsBuilder 79 5 w.heap.size w.heap.size (Lib.byteCells (34 :: escL ((bl a0).take (k + 1)))) w3 by rw [HT.out]; refine Or.inr ?_; simpa [Lib.byteCells] using h3)
     have HB3 := Aside0.mk (HB.out.trans hb3)
     clear h3 hb3
     go_wp2
     go_roundw
     case rel => exact ⟨k + 1, by omega, by go_num, H3, HB3⟩
     case measure => simp [intOf]; omega
  ·have hke : k = a0.size := by omega
   have ht : (bl a0).take k = bl a0 := List.take_of_length_le (by rw [bl_length]; omega)
   rw [ht] at HI hl3
   clear hke ht
   go_wp2_with fail
   refine (Sh.Builder_WriteByte w.heap.size w.heap.size _ 34 wr HI.out (by omega) hBw).mono ?_
   rintro e w3 ⟨rfl, h3, hb3⟩
   have H3 := Aside0.mk (show Lib.IsBuilder 79 5 w.heap.size w.heap.size (Lib.byteCells (jq (bl a0))) w3 by refine Or.inr ?_; unfold jq; simpa [Lib.byteCells] using h3)
   have HB3 := Aside0.mk (HB.out.trans hb3)
   clear h3 hb3
   go_wp2_with fail
   refine (Sh.Builder_String_any w.heap.size w.heap.size _ _ H3.out HB3.out.size).mono ?_
   rintro e w1 ⟨rfl, hb1⟩
   have HB1 := Aside0.mk (HB3.out.trans hb1)
   clear hb1
   go_wp2
   go_ret
   exact ⟨rfl, HB1.out⟩
end Go.Proofs.YtifejhbochkifaaGreatDoor.X

/-! HBare -/
namespace Go.Proofs.YtifejhbochkifaaGreatDoor.X
open Go.RowKit Go.Proofs.YtifejhbochkifaaGreatDoorW.PrintWords Go.Proofs.YtifejhbochkifaaGreatDoorW.PrintLast Go.Proofs.YtifejhbochkifaaGreatDoorW.PrintMore Go.Proofs.YtifejhbochkifaaGreatDoor.Spec
set_option linter.unusedVariables false
set_option linter.unusedSimpArgs false
set_option maxHeartbeats 8000000 in
set_option maxRecDepth 100000 in
theorem bare_calls (x : V) (A3 A4 : Option Addr) (q3 q4 : Nat) (w : World) (hl : x.f3.length ≤ 9223372036854775807) :
  Calls Tryz.prog 43 #[.agg #[.int .i64 x.f0, .int .i64 x.f1, .string x.f2, .slice A3 x.f3.length q3, .slice A4 x.f4.length q4]] w fun e w' => e = .returned (.bool (bareB x)) ∧ Below w.heap.size w w' := by
 obtain ⟨n3, hn3⟩ : ∃ n, x.f3.length = n := ⟨_, rfl⟩
 obtain ⟨n4, hn4⟩ : ∃ n, x.f4.length = n := ⟨_, rfl⟩
 obtain ⟨k, hk⟩ : ∃ n, x.f0 = n := ⟨_, rfl⟩
 obtain ⟨m, hm⟩ : ∃ n, x.f1 = n := ⟨_, rfl⟩
 obtain ⟨t, ht⟩ : ∃ n, x.f2 = n := ⟨_, rfl⟩
 have HBR := Aside0.mk (show bareB x = (((k == 3 && decide (-9007199254740992 ≤ m) && decide (m ≤ 9007199254740992)) || (k == 2 && decide (0 ≤ m) && decide (m ≤ 1)) || m == 0) && (k == 4 || t.size == 0) && (k == 5 || k == 6 || n3 == 0) && decide (n3 ≤ 64)) by unfold bareB; rw [hk, hm, ht, hn3])
 rw [hn3, hn4, hk, hm, ht]
 obtain ⟨R, hR⟩ : ∃ R, bareB x = R := ⟨_, rfl⟩
 rw [hR] at HBR ⊢
 clear hn3 hn4 hk hm ht hR hl
 have HTS := Aside0.mk (show t.toList = [] ↔ t.size = 0 from ⟨fun e => (by rw [toList_bl] at e; rw [← bl_length, e]; rfl), fun e => (by rw [toList_bl]; exact List.eq_nil_of_length_eq_zero (by rw [bl_length]; exact e))⟩)
 have bk := blk_new w (.cells #[.int .i64 k, .int .i64 m, .string t, .slice A3 n3 q3, .slice A4 n4 q4] 25)
 have HB := Aside0.mk (below_alloc (Below.refl _ w) (.cells #[.int .i64 k, .int .i64 m, .string t, .slice A3 n3 q3, .slice A4 n4 q4] 25))
 go_enter Tryz.func43, Tryz.ntmps43
 go_wp2
 all_goals go_ret
 all_goals (refine ⟨?_, by first | exact HB.out | (subst_vars; exact HB.out)⟩)
 all_goals (refine congrArg (fun b : Bool => Ending.returned (Value.bool b)) ?_)
 all_goals (rw [HBR.out, Bool.eq_iff_iff])
 all_goals (simp only [HTS.out] at *)
 all_goals (simp only [Bool.and_eq_true, Bool.or_eq_true, beq_iff_eq, decide_eq_true_eq, Bool.false_eq_true, true_iff, false_iff, iff_true, iff_false])
 all_goals (try omega)
end Go.Proofs.YtifejhbochkifaaGreatDoor.X

/-! HSeq -/
namespace Go.Proofs.YtifejhbochkifaaGreatDoor.X
open Go.RowKit Go.Shelf Go.Proofs.YtifejhbochkifaaGreatDoorW.PrintWords Go.Proofs.YtifejhbochkifaaGreatDoorW.PrintLast Go.Proofs.YtifejhbochkifaaGreatDoorW.PrintMore Go.Proofs.YtifejhbochkifaaGreatDoor.Spec
set_option linter.unusedVariables false
set_option linter.unusedSimpArgs false
attribute [local go_sem] Oper.semAt_some

section
variable {F : Fence} {n : Nat} {P : Program}
/-- What an iterator with a cell of its own promises: Ab, its own steps between two rounds; Kp, what a round that goes on keeps. -/
def SeqCell {α : Type} (F : Fence) (n : Nat) (P : Program) (g : Nat) (lb : Array Value) (encs : α → Array Value) (Kp Ab : World → World → Prop) (S Sp : List α → Prop) (V : List α → α → Prop) (ok : World → Prop) : Prop :=
  ∀ (l : Nat) (J Jx : List α → World → Prop) (W : World), ok W → (∀ s A B, J s A → Ab A B → J s B) →
    (∀ pre x W1, J pre W1 → V pre x → YieldAt F (n - 1) P l (encs x) W1 fun e W' =>
      (e = .returned (.bool true) ∧ J (pre ++ [x]) W' ∧ Kp W1 W') ∨ (e = .returned (.bool false) ∧ Jx (pre ++ [x]) W')) →
    J [] W →
    CallsIn F n P g (#[.func (.yield l) #[] #[]] ++ lb) W fun e W' => (∃ v, e = .returned v) ∧ ((∃ xs, S xs ∧ J xs W') ∨ (∃ pre, Sp pre ∧ Jx pre W'))

theorem wpIn_rangeFunc_cell {α : Type} {g : Operand} {ps : Array Tmp} {assign body : Code} {Q : Exit → Act → World → Prop} {a : Act} {w : World}
  (hro : F.round = none) (h1 : 1 ≤ n) {gf : Nat} {lb : Array Value} (hg : a.eval g = .func (.func gf) #[] lb) (hFg : F.fn gf) (eg : ∀ args w, (callFunc gf args).run P w = .ok (.enter gf args) w)
  {encs : α → Array Value} {Kp Ab : World → World → Prop} {S Sp : List α → Prop} {V : List α → α → Prop} {ok : World → Prop} (hseq : SeqCell F (n - 1) P gf lb encs Kp Ab S Sp V ok)
  (hok : ∀ W1, Below w.heap.size w W1 → ok W1)
  (hAb : ∀ A B, Ab A B → ∀ (l : Nat) (o : Obj), w.heap.size ≤ l → A.heap[l]? = some o → B.heap[l]? = some o)
  (hKt : ∀ {A B C : World}, Kp A B → Kp B C → Kp A C) (hKb : ∀ (W : World) (l : Nat) (o o' : Obj), w.heap.size ≤ l → W.heap[l]? = some o → o.isCells = false → o.isWalk = false → Kp W (W.putObj l o')) (hps : ∀ x, (encs x).size = ps.size)
  (I : List α → World → Prop) (Ix : Code → List α → World → Prop) (hI : OwnFrom w.heap.size I) (hIx : ∀ c, OwnFrom w.heap.size (Ix c)) (hIA : ∀ s A B, I s A → Ab A B → I s B) (h0 : I [] w) (a₁ : α → Act)
  (hassign : ∀ (l : Nat) (x : α) (W : World) (K : Act → World → Prop), K (a₁ x) W →
   assign.wpIn (F.inRound l) (n - 1 - 1) P (Exit.then K (fun _ _ _ => False)) { tmps := (ps.zip (encs x)).foldl (fun t (p, v) => t.setIfInBounds p v) a.tmps, defers := [] } W)
  (hbody : ∀ (l : Nat) (pre : List α) (x : α) (W : World), I pre W → V pre x → body.wpIn (F.inRound l) (n - 1 - 1) P (ownPostK Kp I Ix (pre ++ [x]) W) (a₁ x) W)
  (hdone : ∀ (D : Nat) (xs : List α) (W : World), w.heap.size ≤ D → S xs → I xs W → W.heap[D]? = some (.deferred (some [])) → Q .normal { a with defers := { target := .collected D, args := #[] } :: a.defers } W)
  (hstop : ∀ (D : Nat) (c : Code) (pre : List α) (W : World), w.heap.size ≤ D → Sp pre → Ix c pre W → W.heap[D]? = some (.deferred (some [])) → c.wpIn F n P Q { a with defers := { target := .collected D, args := #[] } :: a.defers } W) :
  (Code.rangeFunc g ps assign body).wpIn F n P Q a w := by
 refine wpIn_rangeFunc ?_
 intro fn hfn
 rw [hro]
 obtain ⟨rec, hrec⟩ : ∃ rec : LoopState → Option Code → Loop, rec = fun st pe => { state := st, pending := pe, fn, tmps := a.tmps, params := ps, assign, body, defers := w.heap.size } := ⟨_, rfl⟩
 obtain ⟨W1, hW1⟩ : ∃ W1, (w.alloc (.deferred (some []))).alloc (.loop (rec .ready none)) = W1 := ⟨_, rfl⟩
 have hL1 : W1.heap[w.heap.size + 1]? = some (.loop (rec .ready none)) := by
  rw [← hW1]; have := World.alloc_heap_new (w.alloc (.deferred (some []))) (.loop (rec .ready none)); rwa [World.size_alloc] at this
 have hK1 : W1.heap[w.heap.size]? = some (.deferred (some [])) := by
  rw [← hW1]; exact (Below.heap_alloc _ _ _ (by simp)).trans (World.alloc_heap_new w _)
 have hI1 : I [] W1 := by rw [← hW1]; exact hI.alloc _ (hI.alloc _ h0)
 have hb1 : Below w.heap.size w W1 := by
  rw [← hW1]; exact ((Below.refl _ w).alloc (Nat.le_refl _) _).alloc (by simp) _
 refine ⟨w.heap.size + 1, [{ target := .collected w.heap.size, args := #[] }], W1, { target := .fn (.func gf) lb, args := #[.func (.yield (w.heap.size + 1)) #[] #[]] }, W1, gf,
  #[.func (.yield (w.heap.size + 1)) #[] #[]] ++ lb, W1, ?_, ?_, ?_, ?_, fun _ => h1, ?_⟩
 ·rw [← hW1, hrec]; exact run_enterLoop_outer _ _ _ _ _
 ·simp only [resolve, hg]
  simp [go_sem]
 ·intro f' hf'; simp [Target.leads] at hf'; subst hf'; exact hFg
 ·simp [invoke, go_sem, eg]
 ·refine (hseq (w.heap.size + 1)
   (fun pre W => I pre W ∧ W.heap[w.heap.size + 1]? = some (.loop (rec .ready none)) ∧ W.heap[w.heap.size]? = some (.deferred (some [])))
   (fun pre W => ∃ c, Ix c pre W ∧ W.heap[w.heap.size + 1]? = some (.loop (rec .done (some c))) ∧ W.heap[w.heap.size]? = some (.deferred (some [])))
   W1 (hok W1 hb1)
   (fun s A B hs hab => ⟨hIA s A B hs.1 hab, hAb A B hab _ _ (by omega) hs.2.1, hAb A B hab _ _ (Nat.le_refl _) hs.2.2⟩)
   ?_ ⟨hI1, hL1, hK1⟩).mono ?_
  ·rintro pre x W ⟨hi, hl, hk⟩ hlen
   have hlt : w.heap.size + 1 < W.heap.size := (Array.getElem?_eq_some_iff.1 hl).1
   have hy := run_yield (P := P) (args := encs x) hl (by rw [hrec]; exact hps x)
   rw [hrec] at hy
   refine ⟨fn, _, assign, body, hy, roundIn_of_wpIn hfn (hassign _ x W _ ⟨_, run_beginRound hl (by rw [hrec]), ?_⟩)⟩
   have hl2 : (W.putObj (w.heap.size + 1) (.loop { rec .ready none with state := .busy })).heap[w.heap.size + 1]? = some (.loop { rec .ready none with state := .busy }) := World.putObj_heap_same hlt
   have hk2 : (W.putObj (w.heap.size + 1) (.loop { rec .ready none with state := .busy })).heap[w.heap.size]? = some (.deferred (some [])) := (World.putObj_heap_other (by omega)).trans hk
   have hw2 : Kp W (W.putObj (w.heap.size + 1) (.loop { rec .ready none with state := .busy })) := hKb _ _ _ _ (by omega) hl rfl rfl
   refine wpIn_mono (hbody _ pre x _ (hI.putObj _ hi (by omega) hl rfl) hlen) ?_
   have fin : ∀ (jump : Option Code) (W3 : World), KeepsOthers (W.putObj (w.heap.size + 1) (.loop { rec .ready none with state := .busy })) W3 →
     (Instr.endRound (w.heap.size + 1) jump).run P W3 = .ok (.bool jump.isNone) (W3.putObj (w.heap.size + 1) (.loop (rec (if jump.isNone then .ready else .done) jump))) ∧
     W3.heap[w.heap.size + 1]? = some (.loop { rec .ready none with state := .busy }) ∧
     (W3.putObj (w.heap.size + 1) (.loop (rec (if jump.isNone then .ready else .done) jump))).heap[w.heap.size + 1]? = some (.loop (rec (if jump.isNone then .ready else .done) jump)) ∧
     (W3.putObj (w.heap.size + 1) (.loop (rec (if jump.isNone then .ready else .done) jump))).heap[w.heap.size]? = some (.deferred (some [])) := fun jump W3 hk3 => by
    have hl3 := hk3.same _ _ hl2 rfl
    have := run_endRound (P := P) jump hl3
    rw [hrec] at this ⊢
    exact ⟨this, by rw [hrec] at hl3; exact hl3, World.putObj_heap_same (Array.getElem?_eq_some_iff.1 hl3).1, (World.putObj_heap_other (by omega)).trans (hk3.same _ _ hk2 rfl)⟩
   rintro e a3 W3 hp
   cases e with
   | normal =>
    obtain ⟨hk3, hkp3, hi3⟩ := hp
    obtain ⟨hr, hl3, hl4, hk4⟩ := fin none W3 hk3
    exact ⟨_, _, hr, .inl ⟨rfl, ⟨hI.putObj _ hi3 (by omega) hl3 rfl, hl4, hk4⟩, hKt (hKt hw2 hkp3) (hKb _ _ _ _ (by omega) hl3 rfl rfl)⟩⟩
   | ret =>
    obtain ⟨hk3, hi3⟩ := hp
    obtain ⟨hr, hl3, hl4, hk4⟩ := fin (some .ret) W3 hk3
    exact ⟨_, _, hr, .inr ⟨rfl, .ret, (hIx _).putObj _ hi3 (by omega) hl3 rfl, hl4, hk4⟩⟩
   | exit id =>
    obtain ⟨hk3, hi3⟩ := hp
    obtain ⟨hr, hl3, hl4, hk4⟩ := fin (some (.exit id)) W3 hk3
    exact ⟨_, _, hr, .inr ⟨rfl, .exit id, (hIx _).putObj _ hi3 (by omega) hl3 rfl, hl4, hk4⟩⟩
   | goto t =>
    obtain ⟨hk3, hi3⟩ := hp
    obtain ⟨hr, hl3, hl4, hk4⟩ := fin (some (.goto t)) W3 hk3
    exact ⟨_, _, hr, .inr ⟨rfl, .goto t, (hIx _).putObj _ hi3 (by omega) hl3 rfl, hl4, hk4⟩⟩
   | panic ch => exact hp.elim
   | outgrown => exact hp.elim
  ·rintro e W2 ⟨⟨v, rfl⟩, (⟨xs, hS, hi, hl, hk⟩ | ⟨pre, hSp, c, hi, hl, hk⟩)⟩
   ·exact ⟨none, _, by have := run_endLoop (P := P) hl (by rw [hrec]; simp); rw [hrec] at this; exact this, hdone _ xs _ (Nat.le_refl _) hS (hI.putObj _ hi (by omega) hl rfl) ((World.putObj_heap_other (by omega)).trans hk)⟩
   ·exact ⟨some c, _, by have := run_endLoop (P := P) hl (by rw [hrec]; simp); rw [hrec] at this; exact this, hstop _ c pre _ (Nat.le_refl _) hSp ((hIx c).putObj _ hi (by omega) hl rfl) ((World.putObj_heap_other (by omega)).trans hk)⟩
end

/-! ### slices.Values at []string -/
theorem cell_of_block {W : World} {b : Nat} {v : Value} {t : TypeId} (h : W.heap[b]? = some (.cells #[v] t (0, 0))) : W.cell? ⟨b, 0, none⟩ = some v := by simp [World.cell?, h]
theorem free_of_block {W : World} {b : Nat} {v : Value} {t : TypeId} (h : W.heap[b]? = some (.cells #[v] t (0, 0))) : W.frozen? ⟨b, 0, none⟩ = false := Lib.frozen_of_heap h 0
theorem set_block {W : World} {b : Nat} {v u : Value} {t : TypeId} (h : W.heap[b]? = some (.cells #[v] t (0, 0))) : (W.setCell ⟨b, 0, none⟩ u).heap[b]? = some (.cells #[u] t (0, 0)) := by
 simp [World.setCell, Array.getElem?_modify, h]
theorem set_other {W : World} {b k : Nat} {u : Value} (h : k ≠ b) : (W.setCell ⟨b, 0, none⟩ u).heap[k]? = W.heap[k]? := by
 simp [World.setCell, Array.getElem?_modify, Ne.symm h]
theorem grown_store (W : World) (b : Nat) (v : Value) : W.grownBy (W.setCell ⟨b, 0, none⟩ v) (some b) :=
 ⟨rfl, rfl, rfl, by simp [World.setCell], fun k _ hk => set_other (fun e => hk (by rw [e]))⟩
theorem cell_same {W w : World} {a : Addr} (h : W.heap[a.block]? = w.heap[a.block]?) : W.cell? a = w.cell? a := by
 unfold World.cell?
 rw [h]
def SmK (D : Nat) (A B : World) : Prop := ∀ k, k < D → B.heap[k]? = A.heap[k]?
set_option maxHeartbeats 4000000 in
set_option maxRecDepth 100000 in
theorem values_cell (n : Nat) (hn : 1 ≤ n) (w : World) (bx : Nat) (A0 : Option Addr) (l : List ByteArray) (c : Nat) (hbx : w.heap[bx]? = some (.cells #[.slice A0 l.length c] 23 (0, 0))) (hC : Kd.C Kd.string w A0 l.length l) :
  SeqCell Fence.wide n Tryz.prog 87 #[.pointer (some ⟨bx, 0, none⟩)] (fun s : ByteArray => #[.string s]) (SmK w.heap.size) (fun A B => B = A) (fun xs => xs = l) (fun pr => pr <+: l) (fun pr x => pr ++ [x] <+: l) (SmK w.heap.size w) := by
 intro lp J Jx W hW hJA hY h0
 have hbl : bx < w.heap.size := (Array.getElem?_eq_some_iff.1 hbx).1
 have HW := Aside0.mk hW
 have HY := Aside0.mk hY
 have H0 := Aside0.mk h0
 have HC := Aside0.mk hC
 have c1 := cell_of_block ((hW bx hbl).trans hbx)
 have hmax := hC.2.1
 clear hW hJA hY h0 hC
 refine callsIn_of_wp Tryz.func87 rfl trivial ?_ rfl
 simp only [Tryz.ntmps87, List.size_toArray, List.length_cons, List.length_nil, Nat.reduceAdd, Nat.reduceSub, Array.replicate_succ, Array.replicate_zero, List.push_toArray, List.append_toArray, List.nil_append, List.cons_append]
 gi_wp2
 gi_loopw [7] (fun i wr => ∃ k : Nat, k ≤ l.length ∧ i = .int .i64 k ∧ Aside0 (SmK w.heap.size w wr) ∧ Aside0 (J (l.take k) wr)) (fun i _ => l.length - (match i with | .int _ q => q.toNat | _ => 0))
 case atStart => exact ⟨0, Nat.zero_le _, rfl, HW, H0⟩
 case round =>
  obtain ⟨k, hk, rfl, HS, HJ⟩ := hrel
  by_cases hlt : k < l.length
  ·have p0 : (0 : Int) ≤ (k : Int) := by omega
   have q0 : (k : Int) < (l.length : Int) := by omega
   obtain ⟨ad, rfl, hx0⟩ := Kd.at_string HC.out (k : Int) p0 q0
   have hrd : rdOf ByteArray.empty l (k : Int) = l[k]'hlt := by simp [rdOf, List.getD_eq_getElem?_getD, List.getElem?_eq_getElem hlt]
   rw [hrd] at hx0
   simp only [Int.toNat_natCast] at hx0
   have hx1 : wr.cell? (ad.add k) = some (.string (l[k]'hlt)) := (cell_same (HS.out _ (World.block_lt_of_cell? w _ hx0))).trans hx0
   have hpre : l.take k ++ [l[k]'hlt] <+: l := by
    rw [← List.take_succ_eq_append_getElem hlt]; exact List.take_prefix _ _
   have HT := Aside0.mk (show l.take k ++ [l[k]'hlt] = l.take (k + 1) from (List.take_succ_eq_append_getElem hlt).symm)
   obtain ⟨fn, tmps, assign, body, hy, hR⟩ := HY.out (l.take k) (l[k]'hlt) wr HJ.out hpre
   have HR := Aside0.mk hR
   clear hR hx0 hrd
   gi_wp2
   refine HR.out.mono ?_
   rintro e W2 (⟨rfl, hJ2, hk2⟩ | ⟨rfl, hx2⟩)
   ·rw [HT.out] at hJ2
    have HJ2 := Aside0.mk hJ2
    have HS2 := Aside0.mk (show SmK w.heap.size w W2 from fun j hj => (hk2 j hj).trans (HS.out j hj))
    clear hJ2 hk2 hx1
    gi_wp2
    go_roundw
    case rel => exact ⟨k + 1, by omega, by go_num, HS2, HJ2⟩
    case measure => simp; omega
   ·clear hx1
    gi_wp2
    refine bodyPost_ret (results_none rfl _ _ _) rfl ?_
    exact ⟨⟨_, rfl⟩, .inr ⟨_, hpre, hx2⟩⟩
  ·have hke : l.take k = l := List.take_of_length_le (by omega)
   rw [hke] at HJ
   clear hke
   gi_wp2
   go_end0
   exact ⟨⟨_, rfl⟩, .inl ⟨l, rfl, HJ.out⟩⟩
/-- between two rounds: what has been gathered -/
def SqI (w : World) (pr : List ByteArray) (W : World) : Prop :=
  ∃ v : Value, W.heap[w.heap.size]? = some (.cells #[v] 23 (0, 0)) ∧ W.ownsRow (w.heap.size + 1) 9 1 v pr.length (pr.map Value.string) ∧ w.heap.size + 1 ≤ W.heap.size ∧ Below w.heap.size w W
theorem grown_cells {A B : World} {row : Option Nat} {k n : Nat} {v : Value} {t : TypeId} (hg : A.grownBy B row) (hr : ∀ r, row = some r → n ≤ r) (hk : k < n) (hkA : A.heap[k]? = some (.cells #[v] t (0, 0))) : B.heap[k]? = some (.cells #[v] t (0, 0)) :=
 (hg.block k (Array.getElem?_eq_some_iff.1 hkA).1 (fun e => by have := hr k e.symm; omega)).trans hkA
theorem SqI.own (w : World) (W0 : Nat) (h6 : w.heap.size + 1 ≤ W0) : OwnFrom W0 (SqI w) := by
 rintro s A B row ⟨v, c0, hR, hS, hB⟩ hg hr
 have hr' : ∀ r, row = some r → w.heap.size + 1 ≤ r := fun r e => by have := (hr r e).1; omega
 refine ⟨v, grown_cells hg hr' (by omega) c0, ?_, Nat.le_trans hS hg.size, hB.grown hg hB.size (fun k e => by have := hr' k e; omega)⟩
 refine hR.kept hg ?_
 cases hv : v.ownBlock with
 | none => exact .inl rfl
 | some k =>
  refine .inr (fun e => ?_)
  have hk := own_typed hR k hv
  obtain ⟨cells, hc⟩ := hk
  obtain ⟨_, o, ho, hoc⟩ := hr k e.symm
  rw [hc] at ho
  obtain rfl := Option.some.inj ho
  cases hoc
theorem sq_end (w W : World) (D : Nat) (tmps : Array Value) (v : Value) (l : List ByteArray) (t4 : tmps.getD 4 undef = v) (hD : w.heap.size + 1 ≤ D)
  (hK : W.heap[D]? = some (.deferred (some []))) (hR : W.ownsRow (w.heap.size + 1) 9 1 v l.length (l.map Value.string)) (hB : Below w.heap.size w W) :
  bodyPostM Fence.wide 6 Tryz.prog Tryz.f103 (fun e w' => ∃ v : Value, e = .returned v ∧ w'.ownsRow w.heap.size 9 1 v l.length (l.map Value.string) ∧ Below w.heap.size w w')
   .ret { tmps := tmps, defers := [{ target := .collected D, args := #[] }] } W := by
 refine ⟨by simp, .inl ⟨_, _, rfl, run_takeDeferred hK, ?_⟩⟩
 refine ⟨v, ?_, v, rfl, ?_, hB.trans (belowK_b (w := w) (Nat.le_refl _) W D _ _ (by omega) hK rfl rfl)⟩
 ·have t4' : tmps[4]?.getD undef = v := by simpa using t4
  simp [results, Tryz.f103, go_sem, t4']
 ·refine own_weaken (hR.kept (grownBy_putObj' W D _) ?_) (Nat.le_succ _)
  cases hv : v.ownBlock with
  | none => exact .inl rfl
  | some k =>
   refine .inr (fun e => ?_)
   obtain ⟨cells, hc⟩ := own_typed hR k hv
   injection e with e
   rw [e, hK] at hc
   cases hc
set_option maxHeartbeats 4000000 in
set_option maxRecDepth 100000 in
theorem appendSeq_calls (w : World) (bx : Nat) (A0 : Option Addr) (l : List ByteArray) (c : Nat) (hl : l.length ≤ 1000000) (hbx : w.heap[bx]? = some (.cells #[.slice A0 l.length c] 23 (0, 0))) (hC : Kd.C Kd.string w A0 l.length l) :
  Calls Tryz.prog 103 #[.slice none 0 0, .func (.func 87) #[] #[.pointer (some ⟨bx, 0, none⟩)]] w fun e w' => ∃ v : Value, e = .returned v ∧ w'.ownsRow w.heap.size 9 1 v l.length (l.map Value.string) ∧ Below w.heap.size w w' := by
 have hbl : bx < w.heap.size := (Array.getElem?_eq_some_iff.1 hbx).1
 refine (callsIn_wide (n := 6)).1 ?_
 refine callsIn_of_wp_marks Tryz.func103 rfl trivial ?_ rfl
 simp only [Tryz.ntmps103, List.size_toArray, List.length_cons, List.length_nil, Nat.reduceAdd, Nat.reduceSub, Array.replicate_succ, Array.replicate_zero, List.push_toArray, List.append_toArray, List.nil_append, List.cons_append]
 have hVC := values_cell (6 - 1) (by omega) w bx A0 l c hbx hC
 have g0 : (w.alloc (.cells #[.slice none 0 0] 23)).heap[w.heap.size]? = some (.cells #[.slice none 0 0] 23 (0, 0)) := heap_alloc_new w _
 have hB0 : Below w.heap.size w (w.alloc (.cells #[.slice none 0 0] 23)) := (Below.refl _ w).alloc (Nat.le_refl _) _
 have hsz : (w.alloc (.cells #[.slice none 0 0] 23)).heap.size = w.heap.size + 1 := by simp
 obtain ⟨W0, hW0⟩ : ∃ W0, w.alloc (.cells #[.slice none 0 0] 23) = W0 := ⟨_, rfl⟩
 rw [hW0] at g0 hB0 hsz
 have HW0 := Aside0.mk hW0
 clear hbx hC hW0
 gi_wp2
 rw [HW0.out]
 refine wpIn_rangeFunc_cell (α := ByteArray) (F := Fence.wide) rfl (by omega) (gf := 87) (lb := #[.pointer (some ⟨bx, 0, none⟩)]) rfl trivial (enters_of Tryz.func87 (by kernel_rfl) rfl)
  hVC
  (fun W1 hb => fun k hk => (hb.block k (by omega)).trans (hB0.block k hk))
  (fun A B hab l o hl ho => by rw [hab]; exact ho)
  (fun h k j hj => (k j hj).trans (h j hj))
  (fun W l o o' hl ho _ _ j hj => World.putObj_heap_other (by omega))
  (fun _ => rfl)
  (SqI w) (fun _ _ _ => False) (SqI.own w _ (by omega)) (fun c s A B row h hg hr => h) (fun s A B h hab => by rw [hab]; exact h)
  ⟨.slice none 0 0, g0, own_nil _ _ _ _, by omega, hB0⟩
  (fun x => { tmps := #[.slice none 0 0, .func (.func 87) #[] #[.pointer (some ⟨bx, 0, none⟩)], .pointer (some ⟨w.heap.size, 0, none⟩), undef, .slice none 0 0, .string x, .func (.func 87) #[] #[.pointer (some ⟨bx, 0, none⟩)], .string x, undef, undef, undef, undef, undef], defers := [] })
  ?assign ?body ?done ?stop
 case assign =>
  intro l x W K hK
  gi_wp2
  exact hK
 case stop =>
  intro D c pre W _ _ h
  exact h.elim
 case body =>
  rintro lp pr x W ⟨v, c0, hR, hS, hB⟩ hV
  have hlen : pr.length + 1 ≤ l.length := by have := hV.length_le; simpa using this
  obtain ⟨i0, hi, hzz⟩ := Option.map_eq_some_iff.1 info9
  simp only [Prod.mk.injEq] at hzz
  obtain ⟨hz0, hz1, hz2⟩ := hzz
  have HI0 := Aside0.mk hi
  have HZ0 := Aside0.mk hz0
  have HZ1 := Aside0.mk hz1
  have HZ2 := Aside0.mk hz2
  have HR := Aside0.mk hR
  have HB := Aside0.mk hB
  have C0 := Aside0.mk c0
  have k0 := cell_of_block c0
  clear hi hz0 hz1 hz2 hR hB c0 hV g0 hB0
  gi_wp2_with (gi_at_builtin; refine wpListIn_append_own _ rfl _ _ 23 rfl (w.heap.size + 1) 9 i0 _ 1 16 Tryz.underlying23 HI0.out HZ0.out HZ1.out HZ2.out rfl (by decide) v pr.length (pr.map Value.string) rfl (HR.out.alloc _) ⟨W.heap.size, 0, none⟩ 1 1 [.string x] rfl rfl ?c1 ?c2 ?c3 ?c4 ?c5 ?_)
  case c1 => exact World.news_of_block (cs := #[.string x]) (t := 9) (fr := (0, 0)) (heap_alloc_new W (.cells #[.string x] 9))
  case c2 => intro u hu; simp at hu; subst hu; rfl
  case c3 => unfold maxLen; omega
  case c4 => omega
  case c5 => simp; omega
  intro v' w4 hown' hgrow _
  obtain ⟨g, cap, hv'⟩ : ∃ g cap, v' = .slice (some ⟨g, 0, none⟩) (pr.length + 1) cap := by
   rcases hown'.2 with ⟨_, h0⟩ | ⟨g, cap, cur, hv, _⟩
   ·omega
   ·exact ⟨g, cap, hv⟩
  have hgr : ∀ r, v.ownBlock = some r → w.heap.size + 1 ≤ r := fun r e => own_base HR.out r e
  have hga : W.grownBy w4 v.ownBlock := World.grownBy.trans (World.grownBy_alloc _ _ _) hgrow
  have e0 := grown_cells (n := w.heap.size + 1) hga hgr (by omega) C0.out
  have hko : KeepsOthers W w4 := KeepsOthers.of_grownBy hga (fun j o e ho => by
   obtain ⟨cells, hc⟩ := own_typed HR.out j e
   rw [hc] at ho
   obtain rfl := Option.some.inj ho
   rfl)
  have hkp : SmK w.heap.size W w4 := fun j hj => hga.block _ (by omega) (fun e => by have := hgr _ e.symm; omega)
  have hB4 : Below w.heap.size w w4 := HB.out.grown hga (by omega) (fun k e => by have := hgr k e; omega)
  have hs4 : w.heap.size + 1 ≤ w4.heap.size := by have := hga.size; omega
  have E0 := Aside0.mk e0
  have KO := Aside0.mk hko
  have KP := Aside0.mk hkp
  have B4 := Aside0.mk hB4
  have O4 := Aside0.mk hown'
  have m2 := cell_of_block e0
  have f2 := free_of_block e0
  have HV := Aside0.mk hv'
  rw [hv']
  clear e0 hko hkp hB4 hown' hgrow hga hgr hv' k0
  gi_wp2
  have O5 := O4.out
  rw [HV.out] at O5
  refine ⟨KO.out.trans (KeepsOthers.setCell _ _ _), fun j hj => (set_other (by omega)).trans (KP.out j hj), _, set_block E0.out, ?_, by simpa [World.setCell] using hs4, B4.out.setCell (p := ⟨w.heap.size, 0, none⟩) (Nat.le_refl _) _⟩
  rw [List.map_append, List.length_append]
  refine O5.kept (grown_store w4 w.heap.size _) (.inr (fun e => ?_))
  have := own_base O5 _ e
  omega
 case done =>
  rintro D xs W hD rfl ⟨v, c0, hR, hS, hB⟩ hK
  have HR := Aside0.mk hR
  have HB := Aside0.mk hB
  have HK := Aside0.mk hK
  have k0 := cell_of_block c0
  clear hR hB hK c0 g0 hB0
  gi_wp2
  exact sq_end w W D _ v xs rfl (by omega) HK.out HR.out HB.out
set_option maxHeartbeats 2000000 in
theorem collect_calls (w : World) (bx : Nat) (A0 : Option Addr) (l : List ByteArray) (c : Nat) (hl : l.length ≤ 1000000) (hbx : w.heap[bx]? = some (.cells #[.slice A0 l.length c] 23 (0, 0))) (hC : Kd.C Kd.string w A0 l.length l) :
  Calls Tryz.prog 85 #[.func (.func 87) #[] #[.pointer (some ⟨bx, 0, none⟩)]] w fun e w' => ∃ v : Value, e = .returned v ∧ w'.ownsRow w.heap.size 9 1 v l.length (l.map Value.string) ∧ Below w.heap.size w w' := by
 have HA := Aside0.mk (appendSeq_calls w bx A0 l c hl hbx hC)
 clear hbx hC
 go_enter Tryz.func85, Tryz.ntmps85
 go_wp2_with fail
 refine HA.out.mono ?_
 rintro e w' ⟨v, rfl, ho, hb⟩
 have HO := Aside0.mk ho
 have HB := Aside0.mk hb
 clear ho hb
 go_wp2
 go_ret
 exact ⟨v, rfl, HO.out, HB.out⟩
end Go.Proofs.YtifejhbochkifaaGreatDoor.X

/-! HUnl -/
namespace Go.Proofs.YtifejhbochkifaaGreatDoor.X
open Go.RowKit Go.Sort Go.Proofs.YtifejhbochkifaaGreatDoorW.PrintWords Go.Proofs.YtifejhbochkifaaGreatDoorW.PrintLast Go.Proofs.YtifejhbochkifaaGreatDoorW.PrintMore Go.Proofs.YtifejhbochkifaaGreatDoor.Spec
set_option linter.unusedVariables false
set_option linter.unusedSimpArgs false
/-! ### plain: a sorted list, compacted, is as long as it was just if nothing is in it twice -/
theorem filter_range_len (p : Nat → Bool) : ∀ n, ((List.range n).filter p).length ≤ n ∧ (((List.range n).filter p).length = n ↔ ∀ j, j < n → p j = true) := by
 intro n
 induction n with
 | zero => simp
 | succ n ih =>
  rw [List.range_succ, List.filter_append, List.length_append]
  obtain ⟨h1, h2⟩ := ih
  cases hp : p n with
  | true =>
   simp only [List.filter_cons, hp, if_true, List.filter_nil, List.length_cons, List.length_nil]
   refine ⟨by omega, ⟨fun h j hj => ?_, fun h => ?_⟩⟩
   ·rcases Nat.lt_or_ge j n with hj' | hj'
    ·exact (h2.1 (by omega)) j hj'
    ·rw [show j = n by omega]; exact hp
   ·have := h2.2 (fun j hj => h j (by omega))
    omega
  | false =>
   simp only [List.filter_cons, hp, List.filter_nil, List.length_nil, Bool.false_eq_true, if_false]
   refine ⟨by omega, ⟨fun h => by omega, fun h => ?_⟩⟩
   have := h n (by omega)
   rw [hp] at this; cases this
theorem compact_nodup (zs : List (List UInt8)) (hs : zs.Pairwise (fun a b => a ≤ b)) : (Lib.compact zs).length = zs.length ↔ zs.Nodup := by
 unfold Lib.compact Lib.compactUpTo
 rw [List.length_map, (filter_range_len _ _).2]
 have hg : ∀ j, ∀ h : j < zs.length, zs.toArray[j]! = zs[j] := fun j h => by simp [h]
 constructor
 ·intro hk
  rw [List.nodup_iff_pairwise_ne, List.pairwise_iff_getElem]
  intro i j hi hj hij he
  have hk1 := hk (i + 1) (by omega)
  have hne : zs[i + 1]'(by omega) ≠ zs[i] := by
   unfold Lib.keeps at hk1
   simp only [Bool.or_eq_true, decide_eq_true_eq, Nat.add_sub_cancel, bne_iff_ne, ne_eq] at hk1
   rcases hk1 with h | h
   ·simp at h
   ·rw [hg (i + 1) (by omega), hg i hi] at h; exact h
  rw [List.pairwise_iff_getElem] at hs
  have h1 := hs i (i + 1) hi (by omega) (by omega)
  rcases Nat.lt_or_ge (i + 1) j with h | h
  ·have h2 := hs (i + 1) j (by omega) hj h
   rw [← he] at h2
   exact hne (List.le_antisymm h2 h1)
  ·have : j = i + 1 := by omega
   subst this
   exact hne he.symm
 ·intro hn j hj
  unfold Lib.keeps
  rcases Nat.eq_zero_or_pos j with h0 | h0
  ·subst h0; simp
  ·have : zs.toArray[j]! ≠ zs.toArray[j - 1]! := by
    rw [hg j hj, hg (j - 1) (by omega)]
    intro e
    rw [List.nodup_iff_pairwise_ne, List.pairwise_iff_getElem] at hn
    exact hn (j - 1) j (by omega) hj (by omega) e.symm
   simp only [Bool.or_eq_true, decide_eq_true_eq, bne_iff_ne, ne_eq]
   exact Or.inr this
theorem nodup_bl (l : List ByteArray) : (l.map bl).Nodup ↔ l.Nodup := by
 induction l with
 | nil => simp
 | cons x r ih =>
  rw [List.map_cons, List.nodup_cons, List.nodup_cons, ih]
  have : bl x ∈ r.map bl ↔ x ∈ r := by
   rw [List.mem_map]
   exact ⟨fun ⟨y, hy, e⟩ => bl_inj e ▸ hy, fun h => ⟨x, h, rfl⟩⟩
  rw [this]
theorem sorted_nodup (l : List ByteArray) : (Lib.compact ((l.map bl).mergeSort fun x y => decide (x ≤ y))).length = l.length ↔ l.Nodup := by
 have hp := List.mergeSort_perm (l.map bl) (fun x y => decide (x ≤ y))
 have hs : ((l.map bl).mergeSort fun x y => decide (x ≤ y)).Pairwise (fun a b => a ≤ b) := by
  have := List.pairwise_mergeSort (le := fun x y : List UInt8 => decide (x ≤ y)) (fun a b c h1 h2 => by simp only [decide_eq_true_eq] at *; exact List.le_trans h1 h2) (fun a b => by simp only [Bool.or_eq_true, decide_eq_true_eq]; exact List.le_total a b) (l.map bl)
  exact this.imp (fun h => by simpa using h)
 have h := compact_nodup _ hs
 rw [hp.length_eq, List.length_map] at h
 rw [h, hp.nodup_iff, nodup_bl]

/-! ### the walks -/
theorem below_put {B : Nat} {w0 w : World} (h : Below B w0 w) {g : Nat} (hg : B ≤ g) (n : Nat) (d : Array (List UInt8)) : Below B w0 (putRow encStr (Sort.ahead w n) g 0 d) := by
 have h2 : w.grownBy (putRow encStr (Sort.ahead w n) g 0 d) (some g) := by
  refine ⟨rfl, rfl, rfl, by simp [putRow, mapBlock, Sort.ahead], fun k hk hne => ?_⟩
  have : g ≠ k := fun e => hne (by rw [e])
  simp [putRow, mapBlock, Sort.ahead, Array.getElem?_modify, this]
 refine ⟨h2.os.trans h.os, h2.tape.trans h.tape, h2.output.trans h.output, Nat.le_trans h.size h2.size, fun i hi => ?_⟩
 have : i ≠ g := by omega
 rw [← h.block i hi]
 simp [putRow, mapBlock, Sort.ahead, Array.getElem?_modify, Ne.symm this]
theorem map_enc (l : List ByteArray) : (l.map bl).map encStr = l.map Value.string := by
 rw [List.map_map]
 apply List.map_congr_left
 intro x _
 simp [encStr, bl]
theorem values_calls (A0 : Option Addr) (n c : Nat) (w : World) : Calls Tryz.prog 67 #[.slice A0 n c] w fun e w' => e = .returned (.func (.func 87) #[] #[.pointer (some ⟨w.heap.size, 0, none⟩)]) ∧ w' = w.alloc (.cells #[.slice A0 n c] 23) := by
 go_enter Tryz.func67, Tryz.ntmps67
 go_wp2
 go_ret
 exact ⟨rfl, rfl⟩
def SrtOut (W1 : World) (n : Nat) (l : List ByteArray) (e : Ending) (w' : World) : Prop := ∃ A q, e = .returned (.slice A n q) ∧ n ≤ q ∧ Below W1.heap.size W1 w' ∧ (n = 0 ∨ ∃ g, A = some ⟨g, 0, none⟩ ∧ W1.heap.size ≤ g ∧ Holds encStr w' g 0 ((l.map bl).mergeSort fun x y => decide (x ≤ y)).toArray)
set_option maxHeartbeats 2000000 in
set_option maxRecDepth 100000 in
theorem unlike_calls (A0 : Option Addr) (l : List ByteArray) (c : Nat) (w : World) (hl : l.length ≤ 1000000) (hc : l.length ≤ c) (hC : Kd.C Kd.string w A0 l.length l) :
  Calls Tryz.prog 44 #[.slice A0 l.length c] w fun e w' => e = .returned (.bool (decide l.Nodup)) ∧ Below w.heap.size w w' := by
 obtain ⟨n, hn⟩ : ∃ n, l.length = n := ⟨_, rfl⟩
 have HSN := Aside0.mk (sorted_nodup l)
 have HCL := Aside0.mk (collect_calls (w.alloc (.cells #[.slice A0 l.length c] 23)) w.heap.size A0 l c hl (heap_alloc_new w _) (Kd.C_alloc hC _))
 rw [hn] at HCL ⊢
 have HN := Aside0.mk hn
 have hn6 : n ≤ 1000000 := by omega
 clear hC hc hl hn
 have HSRT := Aside0.mk (show ∀ W1, W1 = w.alloc (.cells #[.slice A0 n c] 23) → Calls Tryz.prog 66 #[.func (.func 87) #[] #[.pointer (some ⟨w.heap.size, 0, none⟩)]] W1 (SrtOut W1 n l) by
  intro W1 hW1
  rw [← hW1] at HCL
  clear hW1
  go_enter Tryz.func66, Tryz.ntmps66
  go_wp2_with fail
  refine HCL.out.mono ?_
  rintro e w2 ⟨v, rfl, ho, hb⟩
  have HB2 := Aside0.mk hb
  clear hb
  rcases ho.2 with ⟨rfl, hz⟩ | ⟨gb, cap, cur, rfl, hbase, hgb, r1, r2, r3, r4⟩
  ·obtain rfl := hz
   clear ho
   go_wp2_with fail
   refine (Tryz.slices_Sort_string_none none 0 w2).mono ?_
   rintro e w3 ⟨rfl, rfl⟩
   go_wp2
   go_ret
   exact ⟨none, 0, rfl, Nat.le_refl _, HB2.out, .inl rfl⟩
  ·have hH : Holds encStr w2 gb 0 (l.map bl).toArray := holds_of_block hgb (by rw [map_enc]; simpa [HN.out] using r4)
   have hgl : gb < w2.heap.size := (Array.getElem?_eq_some_iff.1 hgb).1
   have hlm : (l.map bl).length = n := by rw [List.length_map]; exact HN.out
   have hcS := Tryz.slices_Sort_string gb 0 cap (l.map bl) w2 hH hgl (by omega)
   rw [hlm] at hcS
   have HS := Aside0.mk hcS
   have HH := Aside0.mk hH
   have HR1 := Aside0.mk r1
   have HLM := Aside0.mk hlm
   have HOS := Aside0.mk (fun (k : Nat) (os : Array Obj) => ownsRow_sorted (w := w2) (base := W1.heap.size) (g := gb) (cap := cap) (n := k) (os := os) (ss := l.map bl) (ts := (l.map bl).mergeSort fun x y => decide (x ≤ y)) (by rw [List.length_mergeSort]) hbase hgb (by omega) r2 r3)
   have HBS := Aside0.mk hbase
   clear hcS hH r1 r2 r3 r4 ho hlm
   go_wp2_with fail
   refine HS.out.mono ?_
   rintro e w3 ⟨rfl, k, os, rfl⟩
   have hb3 : Below W1.heap.size W1 (grow (putRow encStr (Sort.ahead w2 k) gb 0 ((l.map bl).mergeSort fun x y => decide (x ≤ y)).toArray) os) := HB2.out.grown (grownBy_sorted _) HB2.out.size (fun j hj => by cases hj; exact HBS.out)
   have ho3 := HOS.out k os
   generalize grow (putRow encStr (Sort.ahead w2 k) gb 0 ((l.map bl).mergeSort fun x y => decide (x ≤ y)).toArray) os = w3 at hb3 ho3 ⊢
   have HB3 := Aside0.mk hb3
   have HO3 := Aside0.mk ho3
   clear hb3 ho3
   go_wp2
   go_ret
   refine ⟨_, _, rfl, HR1.out, HB3.out, .inr ⟨gb, rfl, HBS.out, ?_⟩⟩
   rcases HO3.out.2 with ⟨h0, _⟩ | ⟨g2, cap2, cur2, he, _, hg2, _, _, _, h4⟩
   ·cases h0
   ·injection he with he _ _
    injection he with he
    injection he with he _ _
    subst he
    refine holds_of_block hg2 ?_
    rw [List.length_mergeSort]
    simpa using h4)
 go_enter Tryz.func44, Tryz.ntmps44
 go_wp2_with fail
 refine (values_calls A0 n c w).mono ?_
 rintro e w1 ⟨rfl, rfl⟩
 go_wp2_with fail
 refine (HSRT.out _ rfl).mono ?_
 rintro e w2 ⟨A, q, rfl, hq, hb, hcase⟩
 have HB2 := Aside0.mk (below_then (below_alloc (Below.refl _ w) (.cells #[.slice A0 n c] 23)) (below_alloc (Below.refl _ w) (.cells #[.slice A0 n c] 23)).size hb)
 clear hb
 rcases hcase with h0 | ⟨g, rfl, hg, hH⟩
 ·subst h0
  have hnil : l = [] := List.eq_nil_of_length_eq_zero HN.out
  subst hnil
  go_wp2_with fail
  refine (Tryz.slices_Compact_string_empty A q w2).mono ?_
  rintro e w3 ⟨rfl, rfl⟩
  go_wp2
  go_ret
  exact ⟨rfl, HB2.out⟩
 ·have hlm : ((l.map bl).mergeSort fun x y => decide (x ≤ y)).length = n := by rw [List.length_mergeSort, List.length_map]; exact HN.out
  have hcC := Tryz.slices_Compact_string g 0 q ((l.map bl).mergeSort fun x y => decide (x ≤ y)) w2 hH (by omega) (by omega)
  rw [hlm] at hcC
  obtain ⟨m, hm⟩ : ∃ m, (Lib.compact ((l.map bl).mergeSort fun x y => decide (x ≤ y))).length = m := ⟨_, rfl⟩
  have hsn := HSN.out
  rw [hm, HN.out] at hsn
  have HCC := Aside0.mk hcC
  have HM := Aside0.mk hm
  have HSN2 := Aside0.mk hsn
  have HG := Aside0.mk hg
  clear hcC hH hlm hm hsn hg
  go_wp2_with fail
  refine HCC.out.mono ?_
  rw [HM.out]
  rintro e w3 ⟨rfl, k, rfl⟩
  have HB3 := Aside0.mk (below_put HB2.out (show w.heap.size ≤ g by have := HG.out; simp at this; omega) k (Lib.compact ((l.map bl).mergeSort fun x y => decide (x ≤ y)) ++ List.replicate (n - m) []).toArray)
  generalize putRow encStr (Sort.ahead w2 k) g 0 _ = w4 at HB3 ⊢
  by_cases hmn : m = n
  ·have hd : ((m : Int) == (n : Int)) = true := by rw [hmn]; exact beq_self_eq_true _
   have HD := Aside0.mk (show decide l.Nodup = true from decide_eq_true (HSN2.out.1 hmn))
   go_wp2
   go_ret
   exact ⟨by rw [HD.out]; first | rfl | (simp [hmn]; done), HB3.out⟩
  ·have hd : ((m : Int) == (n : Int)) = false := by rw [beq_eq_false_iff_ne]; omega
   have HD := Aside0.mk (show decide l.Nodup = false from decide_eq_false (fun h => hmn (HSN2.out.2 h)))
   go_wp2
   go_ret
   exact ⟨by rw [HD.out]; first | rfl | (simp [hmn]; done), HB3.out⟩
end Go.Proofs.YtifejhbochkifaaGreatDoor.X

/-! HFits -/
namespace Go.Proofs.YtifejhbochkifaaGreatDoor.X
open Go.RowKit Go.Proofs.YtifejhbochkifaaGreatDoorW.PrintWords Go.Proofs.YtifejhbochkifaaGreatDoorW.PrintLast Go.Proofs.YtifejhbochkifaaGreatDoorW.PrintMore Go.Proofs.YtifejhbochkifaaGreatDoor.Spec
set_option linter.unusedVariables false
set_option linter.unusedSimpArgs false
def idxOf {α : Type} (p : α → Bool) : List α → Int
  | [] => -1
  | x :: r => if p x then 0 else (if idxOf p r < 0 then -1 else idxOf p r + 1)
theorem idxOf_all {α : Type} (p : α → Bool) : ∀ l : List α, (∀ x ∈ l, p x = false) → idxOf p l = -1
 | [], _ => rfl
 | x :: r, h => by
  rw [idxOf, if_neg (by rw [h x (List.mem_cons_self ..)]; simp), idxOf_all p r (fun y hy => h y (List.mem_cons_of_mem _ hy)), if_pos (by omega)]
theorem idxOf_hit {α : Type} (p : α → Bool) : ∀ (k : Nat) (l : List α) (hk : k < l.length), (∀ j (hj : j < k), p (l[j]'(by omega)) = false) → p (l[k]'hk) = true → idxOf p l = k
 | 0, x :: r, _, _, h => by rw [idxOf, if_pos (by simpa using h)]; rfl
 | k + 1, x :: r, hk, hn, h => by
  have h0 : p x = false := hn 0 (by omega)
  have ih := idxOf_hit p k r (by simpa using hk) (fun j hj => by have := hn (j + 1) (by omega); simpa using this) (by simpa using h)
  rw [idxOf, if_neg (by rw [h0]; simp), ih, if_neg (by omega)]
  omega
theorem idxOf_any {α : Type} (p : α → Bool) : ∀ l : List α, decide (0 ≤ idxOf p l) = l.any p
 | [] => rfl
 | x :: r => by
  rw [idxOf, List.any_cons, ← idxOf_any p r]
  cases p x with
  | true => simp
  | false =>
   simp only [Bool.false_eq_true, if_false, Bool.false_or]
   split
   ·rename_i h; rw [decide_eq_false (by omega), decide_eq_false (by omega)]
   ·rename_i h; rw [decide_eq_true (by omega), decide_eq_true (by omega)]
set_option maxHeartbeats 2000000 in
set_option maxRecDepth 100000 in
theorem find_V (p : V → Bool) (A0 : Option Addr) (c0 : Nat) (l0 : List V) (bx : Nat) (w : World) (hr0 : Kd.C k25 w A0 l0.length l0) (hc0 : l0.length ≤ c0)
  (hcl : ∀ x ∈ l0, ∀ W : World, Below w.heap.size w W → ∀ (A3 A4 : Option Addr) (q3 q4 : Nat), x.f3.length ≤ q3 → x.f4.length ≤ q4 → Kd.C k25 W A3 x.f3.length x.f3 → Kd.C Kd.string W A4 x.f4.length x.f4 →
   Calls Tryz.prog 46 #[.agg #[.int .i64 x.f0, .int .i64 x.f1, .string x.f2, .slice A3 x.f3.length q3, .slice A4 x.f4.length q4], .pointer (some ⟨bx, 0, none⟩)] W fun e w' => e = .returned (.bool (p x)) ∧ Below W.heap.size W w') :
  Calls Tryz.prog 69 #[.slice A0 l0.length c0, .func (.func 46) #[] #[.pointer (some ⟨bx, 0, none⟩)]] w fun e w' => e = .returned (.int .i64 (idxOf p l0)) ∧ Below w.heap.size w w' := by
 have hu := Tryz.underlying25
 have HR := Aside0.mk hr0
 have HCL := Aside0.mk hcl
 have hmax := hr0.2.1
 clear hr0 hcl
 go_enter Tryz.func69, Tryz.ntmps69
 go_wp2
 go_loopw [8] (fun i wr => ∃ k : Nat, k ≤ l0.length ∧ i = .int .i64 k ∧ Aside0 (∀ j (hj : j < k) (hjl : j < l0.length), p (l0[j]'hjl) = false) ∧ Aside0 (Below w.heap.size w wr)) (fun i _ => l0.length - (intOf i).toNat)
 case atStart => exact ⟨0, Nat.zero_le _, rfl, ⟨fun j hj => absurd hj (Nat.not_lt_zero _)⟩, ⟨Below.refl _ w⟩⟩
 case round =>
  obtain ⟨k, hkl, rfl, HM, HB⟩ := hrel
  by_cases hlt : k < l0.length
  ·have p0 : (0 : Int) ≤ (k : Int) := by omega
   have q0 : (k : Int) < (l0.length : Int) := by omega
   obtain ⟨ad, A3, q3, A4, q4, rfl, hx0, hx1, hx2, hx3, hx4, hl3, hg3, hl4, hg4⟩ := at_T25 (Kd.C_below HR.out HB.out) (k : Int) p0 q0
   have hrd : rd_T25 l0 (k : Int) = l0[k]'hlt := by simp [rd_T25, List.getD_eq_getElem?_getD, List.getElem?_eq_getElem hlt]
   rw [hrd] at hx0 hx1 hx2 hx3 hx4 hl3 hg3 hl4 hg4
   simp only [Int.toNat_natCast] at hx0 hx1 hx2 hx3 hx4
   have hcl := HCL.out (l0[k]'hlt) (List.getElem_mem hlt) wr HB.out A3 A4 q3 q4 hl3 hl4 hg3 hg4
   clear hrd hl3 hg3 hl4 hg4
   by_cases hp : p (l0[k]'hlt) = true
   ·have hfin := Aside0.mk (idxOf_hit p k l0 hlt (fun j hj => HM.out j hj (by omega)) hp)
    rw [hp] at hcl
    have HC2 := Aside0.mk hcl
    clear hp hcl
    go_wp2_with fail
    refine HC2.out.mono ?_
    rintro e w2 ⟨rfl, hb2⟩
    have HB2 := Aside0.mk (below_then HB.out HB.out.size hb2)
    clear hb2
    go_wp2
    go_ret
    exact ⟨by rw [hfin.out]; rfl, HB2.out⟩
   ·have hp' := Bool.eq_false_iff.2 hp
    rw [hp'] at hcl
    have HC2 := Aside0.mk hcl
    have hnext := Aside0.mk (show ∀ j (hj : j < k + 1) (hjl : j < l0.length), p (l0[j]'hjl) = false from fun j hj hjl => by
     by_cases h : j = k
     ·subst h; exact hp'
     ·exact HM.out j (by omega) hjl)
    clear hp hp' hcl
    go_wp2_with fail
    refine HC2.out.mono ?_
    rintro e w2 ⟨rfl, hb2⟩
    have HB2 := Aside0.mk (below_then HB.out HB.out.size hb2)
    clear hb2
    go_wp2
    go_roundw
    case rel => exact ⟨k + 1, by omega, by go_num, hnext, HB2⟩
    case measure => simp [intOf]; omega
  ·have hfin := Aside0.mk (idxOf_all p l0 (fun x hx => by
    obtain ⟨j, hj, rfl⟩ := List.getElem_of_mem hx
    exact HM.out j (by omega) hj))
   go_wp2
   go_ret
   exact ⟨by rw [hfin.out]; rfl, HB.out⟩
set_option maxHeartbeats 2000000 in
theorem any_V (p : V → Bool) (A0 : Option Addr) (c0 : Nat) (l0 : List V) (bx : Nat) (w : World) (hr0 : Kd.C k25 w A0 l0.length l0) (hc0 : l0.length ≤ c0)
  (hcl : ∀ x ∈ l0, ∀ W : World, Below w.heap.size w W → ∀ (A3 A4 : Option Addr) (q3 q4 : Nat), x.f3.length ≤ q3 → x.f4.length ≤ q4 → Kd.C k25 W A3 x.f3.length x.f3 → Kd.C Kd.string W A4 x.f4.length x.f4 →
   Calls Tryz.prog 46 #[.agg #[.int .i64 x.f0, .int .i64 x.f1, .string x.f2, .slice A3 x.f3.length q3, .slice A4 x.f4.length q4], .pointer (some ⟨bx, 0, none⟩)] W fun e w' => e = .returned (.bool (p x)) ∧ Below W.heap.size W w') :
  Calls Tryz.prog 45 #[.slice A0 l0.length c0, .func (.func 46) #[] #[.pointer (some ⟨bx, 0, none⟩)]] w fun e w' => e = .returned (.bool (l0.any p)) ∧ Below w.heap.size w w' := by
 have HF := Aside0.mk (find_V p A0 c0 l0 bx w hr0 hc0 hcl)
 have hA := idxOf_any p l0
 obtain ⟨i, hi⟩ : ∃ i, idxOf p l0 = i := ⟨_, rfl⟩
 obtain ⟨q, hq⟩ : ∃ b, l0.any p = b := ⟨_, rfl⟩
 rw [hi] at HF hA
 rw [hq] at hA ⊢
 clear hr0 hcl hi hq
 go_enter Tryz.func45, Tryz.ntmps45
 go_wp2_with fail
 refine HF.out.mono ?_
 rintro e w2 ⟨rfl, hb2⟩
 have HB2 := Aside0.mk hb2
 clear hb2
 go_wp2
 go_ret
 exact ⟨rfl, HB2.out⟩
theorem fits_zero (x : V) : fitsB 0 x = false := rfl
theorem fits_low {d : Nat} {x : V} (h : x.f0 < 1) : fitsB (d + 1) x = false := by
 unfold fitsB; rw [decide_eq_false (show ¬ 1 ≤ x.f0 by omega)]; simp
theorem fits_high {d : Nat} {x : V} (h : 6 < x.f0) : fitsB (d + 1) x = false := by
 unfold fitsB; rw [decide_eq_false (show ¬ x.f0 ≤ 6 by omega)]; simp
theorem fits_bare {d : Nat} {x : V} (h : bareB x = false) : fitsB (d + 1) x = false := by
 unfold fitsB; rw [h]; simp
theorem fits_keys {d : Nat} {x : V} (h : (if x.f0 = 6 then x.f4.length == x.f3.length && decide x.f4.Nodup else x.f4.length == 0) = false) : fitsB (d + 1) x = false := by
 unfold fitsB; rw [h]; simp
theorem fits_all {d : Nat} {x : V} (h0 : 1 ≤ x.f0) (h1 : x.f0 ≤ 6) (hb : bareB x = true) (hk : (if x.f0 = 6 then x.f4.length == x.f3.length && decide x.f4.Nodup else x.f4.length == 0) = true) : fitsB (d + 1) x = !(x.f3.any fun y => !fitsB d y) := by
 conv => lhs; unfold fitsB
 rw [decide_eq_true h0, decide_eq_true h1, hb, hk]
 simp only [Bool.true_and]
 induction x.f3 with
 | nil => rfl
 | cons y r ih => rw [List.all_cons, List.any_cons, ih]; cases fitsB d y <;> simp
theorem bare_len {x : V} (h : bareB x = true) : x.f3.length ≤ 64 := by
 unfold bareB at h
 simp only [Bool.and_eq_true, decide_eq_true_eq] at h
 exact h.2
def FitC (d : Nat) : Prop := ∀ (x : V) (A3 A4 : Option Addr) (q3 q4 : Nat) (w : World), x.f3.length ≤ q3 → x.f4.length ≤ q4 → Kd.C k25 w A3 x.f3.length x.f3 → Kd.C Kd.string w A4 x.f4.length x.f4 →
  Calls Tryz.prog 24 #[.agg #[.int .i64 x.f0, .int .i64 x.f1, .string x.f2, .slice A3 x.f3.length q3, .slice A4 x.f4.length q4], .int .i64 (d : Int)] w fun e w' => e = .returned (.bool (fitsB d x)) ∧ Below w.heap.size w w'
set_option maxHeartbeats 2000000 in
set_option maxRecDepth 100000 in
theorem closure_fits (d : Nat) (hd : d ≤ 1000000) (ih : FitC d) (bx : Nat) (x : V) (A3 A4 : Option Addr) (q3 q4 : Nat) (w : World) (h3 : x.f3.length ≤ q3) (h4 : x.f4.length ≤ q4) (g3 : Kd.C k25 w A3 x.f3.length x.f3) (g4 : Kd.C Kd.string w A4 x.f4.length x.f4) (hbx : w.cell? ⟨bx, 0, none⟩ = some (.int .i64 ((d : Int) + 1))) :
  Calls Tryz.prog 46 #[.agg #[.int .i64 x.f0, .int .i64 x.f1, .string x.f2, .slice A3 x.f3.length q3, .slice A4 x.f4.length q4], .pointer (some ⟨bx, 0, none⟩)] w fun e w' => e = .returned (.bool (!fitsB d x)) ∧ Below w.heap.size w w' := by
 have hb : bx < w.heap.size := World.block_lt_of_cell? w _ hbx
 obtain ⟨W1, hW1⟩ : ∃ W, w.alloc (.cells #[.int .i64 x.f0, .int .i64 x.f1, .string x.f2, .slice A3 x.f3.length q3, .slice A4 x.f4.length q4] 25) = W := ⟨_, rfl⟩
 have hb1 := below_alloc (Below.refl _ w) (.cells #[.int .i64 x.f0, .int .i64 x.f1, .string x.f2, .slice A3 x.f3.length q3, .slice A4 x.f4.length q4] 25)
 have bk := blk_new w (.cells #[.int .i64 x.f0, .int .i64 x.f1, .string x.f2, .slice A3 x.f3.length q3, .slice A4 x.f4.length q4] 25)
 rw [hW1] at hb1 bk
 have hx1 := (hb1.cell (p := ⟨bx, 0, none⟩) hb).trans hbx
 have m0 := (blk_cell bk 0).trans (rfl : _ = some (Value.int .i64 x.f0))
 have m1 := (blk_cell bk 1).trans (rfl : _ = some (Value.int .i64 x.f1))
 have m2 := (blk_cell bk 2).trans (rfl : _ = some (Value.string x.f2))
 have m3 := (blk_cell bk 3).trans (rfl : _ = some (Value.slice A3 x.f3.length q3))
 have m4 := (blk_cell bk 4).trans (rfl : _ = some (Value.slice A4 x.f4.length q4))
 have s1 : IntKind.i64.wrap ((d : Int) + 1 - 1) = (d : Int) := by rw [Int.add_sub_cancel]; exact IntWalk.i64_in _ (by omega)
 have s2 : wrap64 ((d : Int) + 1 - 1) = (d : Int) := by unfold wrap64; omega
 have HC := Aside0.mk (ih x A3 A4 q3 q4 W1 h3 h4 (Kd.C_below g3 hb1) (Kd.C_below g4 hb1))
 have HB1 := Aside0.mk hb1
 have HW1 := Aside0.mk hW1
 obtain ⟨fd, hfd⟩ : ∃ fd, fitsB d x = fd := ⟨_, rfl⟩
 rw [hfd] at HC ⊢
 clear hb1 bk hW1 h3 h4 g3 g4 hfd hbx ih
 go_enter Tryz.func46, Tryz.ntmps46
 go_wp2_with (rw [HW1.out])
 refine HC.out.mono ?_
 rintro e w2 ⟨rfl, hb2⟩
 have HB2 := Aside0.mk (below_then HB1.out HB1.out.size hb2)
 clear hb2
 go_wp2
 go_ret
 exact ⟨rfl, HB2.out⟩
set_option maxHeartbeats 8000000 in
set_option maxRecDepth 100000 in
theorem fits_calls : ∀ (d : Nat), d ≤ 1000000 → FitC d := by
 intro d
 induction d with
 | zero =>
  intro _ x A3 A4 q3 q4 w h3 h4 g3 g4
  have bk := blk_new (w.alloc (.cells #[.int .i64 x.f0, .int .i64 x.f1, .string x.f2, .slice A3 x.f3.length q3, .slice A4 x.f4.length q4] 25)) (.cells #[.int .i64 0] 3)
  clear h3 h4 g3 g4
  show Calls _ _ #[_, .int .i64 0] w _
  go_enter Tryz.func24, Tryz.ntmps24
  go_wp2
  go_ret
  exact ⟨rfl, below_alloc (below_alloc (Below.refl _ w) _) _⟩
 | succ d IH =>
  intro hd x A3 A4 q3 q4 w h3 h4 g3 g4
  have IHA := Aside0.mk (IH (by omega))
  clear IH
  obtain ⟨W2, hW2⟩ : ∃ W, (w.alloc (.cells #[.int .i64 x.f0, .int .i64 x.f1, .string x.f2, .slice A3 x.f3.length q3, .slice A4 x.f4.length q4] 25)).alloc (.cells #[.int .i64 ((d : Int) + 1)] 3) = W := ⟨_, rfl⟩
  have hb2 := below_alloc (below_alloc (Below.refl _ w) (.cells #[.int .i64 x.f0, .int .i64 x.f1, .string x.f2, .slice A3 x.f3.length q3, .slice A4 x.f4.length q4] 25)) (.cells #[.int .i64 ((d : Int) + 1)] 3)
  have bk := blk_alloc (blk_new w (.cells #[.int .i64 x.f0, .int .i64 x.f1, .string x.f2, .slice A3 x.f3.length q3, .slice A4 x.f4.length q4] 25)) (.cells #[.int .i64 ((d : Int) + 1)] 3)
  have bd := blk_new (w.alloc (.cells #[.int .i64 x.f0, .int .i64 x.f1, .string x.f2, .slice A3 x.f3.length q3, .slice A4 x.f4.length q4] 25)) (.cells #[.int .i64 ((d : Int) + 1)] 3)
  rw [show (w.alloc (.cells #[.int .i64 x.f0, .int .i64 x.f1, .string x.f2, .slice A3 x.f3.length q3, .slice A4 x.f4.length q4] 25)).heap.size = w.heap.size + 1 by simp] at bd
  rw [hW2] at hb2 bk bd
  have m0 := (blk_cell bk 0).trans (rfl : _ = some (Value.int .i64 x.f0))
  have m1 := (blk_cell bk 1).trans (rfl : _ = some (Value.int .i64 x.f1))
  have m2 := (blk_cell bk 2).trans (rfl : _ = some (Value.string x.f2))
  have m3 := (blk_cell bk 3).trans (rfl : _ = some (Value.slice A3 x.f3.length q3))
  have m4 := (blk_cell bk 4).trans (rfl : _ = some (Value.slice A4 x.f4.length q4))
  have md := (blk_cell bd 0).trans (rfl : _ = some (Value.int .i64 ((d : Int) + 1)))
  have HB2 := Aside0.mk hb2
  have HW2 := Aside0.mk hW2
  have BK := Aside0.mk bk
  have BD := Aside0.mk bd
  have G3 := Aside0.mk (Kd.C_below g3 hb2)
  have G4 := Aside0.mk (Kd.C_below g4 hb2)
  have H3 := Aside0.mk h3
  have H4 := Aside0.mk h4
  have hl3 := g3.2.1
  have d0 : decide ((d : Int) + 1 < 1) = false := decide_eq_false (by omega)
  clear hb2 bk bd hW2 h3 h4 g3 g4
  rw [show (((d + 1 : Nat)) : Int) = (d : Int) + 1 from by omega]
  by_cases hlo : x.f0 < 1
  ·have d1 : decide (x.f0 < 1) = true := decide_eq_true hlo
   rw [fits_low hlo]
   clear hlo
   go_enter Tryz.func24, Tryz.ntmps24
   go_wp2_with (rw [HW2.out])
   go_ret
   exact ⟨rfl, HB2.out⟩
  have d1 : decide (x.f0 < 1) = false := decide_eq_false hlo
  by_cases hhi : 6 < x.f0
  ·have d2 : decide (6 < x.f0) = true := decide_eq_true hhi
   rw [fits_high hhi]
   clear hlo hhi
   go_enter Tryz.func24, Tryz.ntmps24
   go_wp2_with (rw [HW2.out])
   go_ret
   exact ⟨rfl, HB2.out⟩
  have d2 : decide (6 < x.f0) = false := decide_eq_false hhi
  have HBC := Aside0.mk (bare_calls x A3 A4 q3 q4 W2 hl3)
  by_cases hbr : bareB x = true
  case neg =>
   rw [Bool.not_eq_true] at hbr
   rw [fits_bare hbr]
   rw [hbr] at HBC
   clear hlo hhi hbr
   go_enter Tryz.func24, Tryz.ntmps24
   go_wp2_with (rw [HW2.out])
   refine HBC.out.mono ?_
   rintro e w3 ⟨rfl, hb3⟩
   have HB3 := Aside0.mk (below_then HB2.out HB2.out.size hb3)
   clear hb3
   go_wp2
   go_ret
   exact ⟨rfl, HB3.out⟩
  rw [hbr] at HBC
  have hl64 := bare_len hbr
  -- behind bare
  have HANY := Aside0.mk (fun (w4 : World) (hb4 : Below W2.heap.size W2 w4) => any_V (fun y => !fitsB d y) A3 q3 x.f3 (w.heap.size + 1) w4 (Kd.C_below G3.out hb4) H3.out (fun y hy W hW B3 B4 p3 p4 k3 k4 e3 e4 => closure_fits d (by omega) IHA.out (w.heap.size + 1) y B3 B4 p3 p4 W k3 k4 e3 e4 (by
   have hbd := blk_below (blk_below BD.out hb4) hW
   exact (blk_cell hbd 0).trans rfl)))
  by_cases hk6 : x.f0 = 6
  ·have e6 : (x.f0 == 6) = true := by rw [hk6]; rfl
   have e6n : (x.f0 != 6) = false := by rw [hk6]; rfl
   by_cases hlen : x.f4.length = x.f3.length
   case neg =>
    have el : ((x.f4.length : Int) != (x.f3.length : Int)) = true := by rw [bne_iff_ne]; omega
    rw [fits_keys (by rw [if_pos hk6, show (x.f4.length == x.f3.length) = false from by rw [beq_eq_false_iff_ne]; exact hlen]; rfl)]
    clear hlo hhi hbr hk6 hlen HANY hl64
    go_enter Tryz.func24, Tryz.ntmps24
    go_wp2_with (rw [HW2.out])
    refine HBC.out.mono ?_
    rintro e w3 ⟨rfl, hb3⟩
    have HB3 := Aside0.mk (below_then HB2.out HB2.out.size hb3)
    have bk3 := blk_below BK.out hb3
    have k0 := (blk_cell bk3 0).trans (rfl : _ = some (Value.int .i64 x.f0))
    have k3 := (blk_cell bk3 3).trans (rfl : _ = some (Value.slice A3 x.f3.length q3))
    have k4 := (blk_cell bk3 4).trans (rfl : _ = some (Value.slice A4 x.f4.length q4))
    clear hb3 bk3
    go_wp2
    go_ret
    exact ⟨rfl, HB3.out⟩
   have el : ((x.f4.length : Int) != (x.f3.length : Int)) = false := by rw [bne_eq_false_iff_eq]; omega
   have HUN := Aside0.mk (fun (w3 : World) (hb3 : Below W2.heap.size W2 w3) => unlike_calls A4 x.f4 q4 w3 (by omega) H4.out (Kd.C_below G4.out hb3))
   by_cases hnd : x.f4.Nodup
   case neg =>
    rw [fits_keys (by rw [if_pos hk6, decide_eq_false hnd]; simp)]
    rw [decide_eq_false hnd] at HUN
    clear hlo hhi hbr hk6 hlen HANY hl64 hnd
    go_enter Tryz.func24, Tryz.ntmps24
    go_wp2_with (rw [HW2.out])
    refine HBC.out.mono ?_
    rintro e w3 ⟨rfl, hb3⟩
    have HB3 := Aside0.mk (below_then HB2.out HB2.out.size hb3)
    have HU3 := Aside0.mk (HUN.out w3 hb3)
    have bk3 := blk_below BK.out hb3
    have k0 := (blk_cell bk3 0).trans (rfl : _ = some (Value.int .i64 x.f0))
    have k3 := (blk_cell bk3 3).trans (rfl : _ = some (Value.slice A3 x.f3.length q3))
    have k4 := (blk_cell bk3 4).trans (rfl : _ = some (Value.slice A4 x.f4.length q4))
    clear hb3 bk3
    go_wp2_with fail
    refine HU3.out.mono ?_
    rintro e w4 ⟨rfl, hb4⟩
    have HB4 := Aside0.mk (below_then HB3.out HB3.out.size hb4)
    clear hb4
    go_wp2
    go_ret
    exact ⟨rfl, HB4.out⟩
   rw [fits_all (by omega) (by omega) hbr (by rw [if_pos hk6, decide_eq_true hnd, show (x.f4.length == x.f3.length) = true from by rw [beq_iff_eq]; exact hlen]; rfl)]
   rw [decide_eq_true hnd] at HUN
   obtain ⟨fa, hfa⟩ : ∃ fa, (x.f3.any fun y => !fitsB d y) = fa := ⟨_, rfl⟩
   rw [hfa] at HANY ⊢
   clear hlo hhi hbr hk6 hlen hl64 hnd hfa
   go_enter Tryz.func24, Tryz.ntmps24
   go_wp2_with (rw [HW2.out])
   refine HBC.out.mono ?_
   rintro e w3 ⟨rfl, hb3⟩
   have HB3 := Aside0.mk (below_then HB2.out HB2.out.size hb3)
   have HU3 := Aside0.mk (HUN.out w3 hb3)
   have HB23 := Aside0.mk hb3
   have bk3 := blk_below BK.out hb3
   have BK3 := Aside0.mk bk3
   have k0 := (blk_cell bk3 0).trans (rfl : _ = some (Value.int .i64 x.f0))
   have k3 := (blk_cell bk3 3).trans (rfl : _ = some (Value.slice A3 x.f3.length q3))
   have k4 := (blk_cell bk3 4).trans (rfl : _ = some (Value.slice A4 x.f4.length q4))
   clear hb3 bk3
   go_wp2_with fail
   refine HU3.out.mono ?_
   rintro e w4 ⟨rfl, hb4⟩
   have HB4 := Aside0.mk (below_then HB3.out HB3.out.size hb4)
   have HA4 := Aside0.mk (HANY.out w4 (below_then HB23.out HB23.out.size hb4))
   have bk4 := blk_below BK3.out hb4
   have r0 := (blk_cell bk4 0).trans (rfl : _ = some (Value.int .i64 x.f0))
   have r3 := (blk_cell bk4 3).trans (rfl : _ = some (Value.slice A3 x.f3.length q3))
   have r4 := (blk_cell bk4 4).trans (rfl : _ = some (Value.slice A4 x.f4.length q4))
   clear hb4 bk4
   go_wp2_with fail
   refine HA4.out.mono ?_
   rintro e w5 ⟨rfl, hb5⟩
   have HB5 := Aside0.mk (below_then HB4.out HB4.out.size hb5)
   clear hb5
   go_wp2
   go_ret
   exact ⟨rfl, HB5.out⟩
  ·have e6 : (x.f0 == 6) = false := by rw [beq_eq_false_iff_ne]; exact hk6
   have e6n : (x.f0 != 6) = true := by rw [bne_iff_ne]; exact hk6
   by_cases hlen : x.f4.length = 0
   case neg =>
    have el : decide ((0 : Int) < (x.f4.length : Int)) = true := decide_eq_true (by omega)
    rw [fits_keys (by rw [if_neg hk6, beq_eq_false_iff_ne]; exact hlen)]
    obtain ⟨n4, hn4⟩ : ∃ n, x.f4.length = n := ⟨_, rfl⟩
    have hpos : 0 < n4 := by omega
    rw [hn4] at el m4 BK HBC HW2 ⊢
    clear hlo hhi hbr hk6 hlen HANY hl64 hn4 G4 H4
    go_enter Tryz.func24, Tryz.ntmps24
    go_wp2_with (rw [HW2.out])
    refine HBC.out.mono ?_
    rintro e w3 ⟨rfl, hb3⟩
    have HB3 := Aside0.mk (below_then HB2.out HB2.out.size hb3)
    have bk3 := blk_below BK.out hb3
    have k0 := (blk_cell bk3 0).trans (rfl : _ = some (Value.int .i64 x.f0))
    have k3 := (blk_cell bk3 3).trans (rfl : _ = some (Value.slice A3 x.f3.length q3))
    have k4 := (blk_cell bk3 4).trans (rfl : _ = some (Value.slice A4 n4 q4))
    clear hb3 bk3
    go_wp2
    go_ret
    exact ⟨rfl, HB3.out⟩
   have el : decide ((0 : Int) < (x.f4.length : Int)) = false := decide_eq_false (by omega)
   rw [fits_all (by omega) (by omega) hbr (by rw [if_neg hk6, beq_iff_eq]; exact hlen)]
   obtain ⟨fa, hfa⟩ : ∃ fa, (x.f3.any fun y => !fitsB d y) = fa := ⟨_, rfl⟩
   rw [hfa] at HANY ⊢
   obtain ⟨n4, hn4⟩ : ∃ n, x.f4.length = n := ⟨_, rfl⟩
   have hpos : (0 < n4) = False := eq_false (by omega)
   rw [hn4] at el m4 BK HBC HW2 ⊢
   clear hlo hhi hbr hk6 hlen hl64 hfa hn4 G4 H4
   go_enter Tryz.func24, Tryz.ntmps24
   go_wp2_with (rw [HW2.out])
   refine HBC.out.mono ?_
   rintro e w3 ⟨rfl, hb3⟩
   have HB3 := Aside0.mk (below_then HB2.out HB2.out.size hb3)
   have HA3 := Aside0.mk (HANY.out w3 hb3)
   have bk3 := blk_below BK.out hb3
   have k0 := (blk_cell bk3 0).trans (rfl : _ = some (Value.int .i64 x.f0))
   have k3 := (blk_cell bk3 3).trans (rfl : _ = some (Value.slice A3 x.f3.length q3))
   have k4 := (blk_cell bk3 4).trans (rfl : _ = some (Value.slice A4 n4 q4))
   clear hb3 bk3
   go_wp2_with fail
   refine HA3.out.mono ?_
   rintro e w5 ⟨rfl, hb5⟩
   have HB5 := Aside0.mk (below_then HB3.out HB3.out.size hb5)
   clear hb5
   go_wp2
   go_ret
   exact ⟨rfl, HB5.out⟩
end Go.Proofs.YtifejhbochkifaaGreatDoor.X

/-! HRen -/
namespace Go.Proofs.YtifejhbochkifaaGreatDoor.X
open Go.RowKit Go.Proofs.YtifejhbochkifaaGreatDoorW.PrintWords Go.Proofs.YtifejhbochkifaaGreatDoorW.PrintLast Go.Proofs.YtifejhbochkifaaGreatDoorW.PrintMore Go.Proofs.YtifejhbochkifaaGreatDoor.Spec
set_option linter.unusedVariables false
set_option linter.unusedSimpArgs false
theorem commas_len (l : List (List UInt8)) : ∀ x ∈ l, x.length ≤ (commas l).length := by
 induction l with
 | nil => intro x hx; cases hx
 | cons y r ih =>
  intro x hx
  rw [commas_cons, List.length_append]
  rcases List.mem_cons.1 hx with rfl | hx
  ·omega
  ·have := ih x hx
   cases r with
   | nil => cases hx
   | cons z r => rw [if_neg (by simp), List.length_cons]; omega
theorem esc1_pos (c : UInt8) : 1 ≤ (esc1 c).length := by
 unfold esc1
 split
 ·simp
 ·split <;> simp
theorem jq_len (l : List UInt8) : l.length + 2 ≤ (jq l).length := by
 have h : l.length ≤ (escL l).length := by
  induction l with
  | nil => simp
  | cons c r ih =>
   have h1 := esc1_pos c
   simp only [escL, List.flatMap_cons, List.length_append, List.length_cons] at *
   omega
 unfold jq
 simp only [List.length_cons, List.length_append, List.length_nil]
 omega
theorem join_commas (l : List (List UInt8)) : Lib.join l [44] = commas l := by
 cases l with
 | nil => rfl
 | cons x r =>
  rw [Lib.join_cons]
  induction r generalizing x with
  | nil => simp [Lib.joinTail, commas]
  | cons y r ih =>
   rw [show commas (x :: y :: r) = x ++ 44 :: commas (y :: r) from rfl, ← ih y]
   simp [Lib.joinTail]
def partsR (d : Nat) (x : V) : List (List UInt8) := if x.f0 = 6 then List.zipWith (fun k y => jq (bl k) ++ 58 :: rend d y) x.f4 x.f3 else x.f3.map (rend d)
theorem map_bl_ba (l : List (List UInt8)) : (l.map ba).map bl = l := by
 rw [List.map_map]
 have : (bl ∘ ba) = id := by funext a; simp
 rw [this, List.map_id]
theorem take_ba (l : List (List UInt8)) (k : Nat) (h : k < l.length) : (l.take (k + 1)).map ba = (l.take k).map ba ++ [ba (l[k]'h)] := by
 rw [List.take_succ_eq_append_getElem h, List.map_append]
 rfl
def RenC (d : Nat) : Prop := ∀ (x : V) (A3 A4 : Option Addr) (q3 q4 : Nat) (w : World), fitsB d x = true → (rend d x).length ≤ 1000000000 → GOK w → x.f3.length ≤ q3 → x.f4.length ≤ q4 → Kd.C k25 w A3 x.f3.length x.f3 → Kd.C Kd.string w A4 x.f4.length x.f4 →
  Calls Tryz.prog 25 #[.agg #[.int .i64 x.f0, .int .i64 x.f1, .string x.f2, .slice A3 x.f3.length q3, .slice A4 x.f4.length q4]] w fun e w' => e = .returned (.string (ba (rend d x))) ∧ Below w.heap.size w w'
theorem quote_calls (t : ByteArray) (h : t.size ≤ 1000000000000) (w : World) : Calls Tryz.prog 49 #[.string t] w fun e w' => e = .returned (.string (ba (jq (bl t)))) ∧ Below w.heap.size w w' :=
 json_quote.calls t _ w (by unfold json_quote.f; rw [if_pos h])
theorem join_calls (A : Option Addr) (c : Nat) (l : List (List UInt8)) (h : (commas l).length ≤ 1000000000) (hl : l.length ≤ 1000000000) (hc : l.length ≤ c) (w : World) (hC : Kd.C Kd.string w A (l.map ba).length (l.map ba)) : Calls Tryz.prog 50 #[.slice A l.length c, .string ⟨#[44]⟩] w fun e w' => e = .returned (.string (ba (commas l))) ∧ Below w.heap.size w w' := by
 have := strings_Join.calls A c (l.map ba) ⟨#[44]⟩ (ba (commas l)) w hC (by rw [List.length_map]; exact hc) (by
  unfold strings_Join.f
  rw [map_bl_ba, show bl (⟨#[44]⟩ : ByteArray) = [44] from rfl, join_commas, if_pos ⟨by omega, by rw [List.length_map]; omega⟩])
 rw [List.length_map] at this
 exact this
set_option maxHeartbeats 8000000 in
set_option maxRecDepth 100000 in
theorem render_calls : ∀ (d : Nat), RenC d := by
 intro d
 induction d with
 | zero => intro x A3 A4 q3 q4 w hf; simp [fitsB] at hf
 | succ d IH =>
  intro x A3 A4 q3 q4 w hf hlen hG h3 h4 g3 g4
  obtain ⟨⟨p0, p1⟩, hbare, hkeys, hall⟩ := fits_succ hf
  have bk := blk_new w (.cells #[.int .i64 x.f0, .int .i64 x.f1, .string x.f2, .slice A3 x.f3.length q3, .slice A4 x.f4.length q4] 25)
  have hb1 := below_alloc (Below.refl _ w) (.cells #[.int .i64 x.f0, .int .i64 x.f1, .string x.f2, .slice A3 x.f3.length q3, .slice A4 x.f4.length q4] 25)
  obtain ⟨W1, hW1⟩ : ∃ W, w.alloc (.cells #[.int .i64 x.f0, .int .i64 x.f1, .string x.f2, .slice A3 x.f3.length q3, .slice A4 x.f4.length q4] 25) = W := ⟨_, rfl⟩
  have hz1 : (w.alloc (.cells #[.int .i64 x.f0, .int .i64 x.f1, .string x.f2, .slice A3 x.f3.length q3, .slice A4 x.f4.length q4] 25)).heap.size = w.heap.size + 1 := by simp
  rw [hW1] at bk hb1 hz1
  have HW1 := Aside0.mk hW1
  have HB1 := Aside0.mk hb1
  have BK1 := Aside0.mk bk
  have m0 := (blk_cell bk 0).trans (rfl : _ = some (Value.int .i64 x.f0))
  have m1 := (blk_cell bk 1).trans (rfl : _ = some (Value.int .i64 x.f1))
  have m2 := (blk_cell bk 2).trans (rfl : _ = some (Value.string x.f2))
  have m3 := (blk_cell bk 3).trans (rfl : _ = some (Value.slice A3 x.f3.length q3))
  have m4 := (blk_cell bk 4).trans (rfl : _ = some (Value.slice A4 x.f4.length q4))
  have HG1 := Aside0.mk (hG.below hb1)
  clear bk hb1 hW1
  by_cases c1 : x.f0 = 1
  ·have e1 : (x.f0 == 1) = true := by rw [c1]; rfl
   rw [show rend (d + 1) x = w_null by rw [rend, if_pos c1]]
   clear c1 hf hlen hG h3 h4 g3 g4 hbare hkeys hall IH p0 p1
   go_enter Tryz.func25, Tryz.ntmps25
   go_wp2_with (rw [HW1.out])
   go_ret
   exact ⟨rfl, HB1.out⟩
  have n1 : (x.f0 == 1) = false := by rw [beq_eq_false_iff_ne]; exact c1
  by_cases c2 : x.f0 = 2
  ·have e2 : (x.f0 == 2) = true := by rw [c2]; rfl
   have hr : ba (rend (d + 1) x) = ⟨(Lib.formatBool (x.f1 == 1)).toArray⟩ := by
    rw [rend, if_neg c1, if_pos c2]
    by_cases h : x.f1 = 1
    ·rw [if_pos h, h]; rfl
    ·rw [if_neg h, show (x.f1 == 1) = false by rw [beq_eq_false_iff_ne]; exact h]; rfl
   rw [hr]
   have HFB := Aside0.mk (fun (q : Bool) (W : World) => Tryz.strconv_FormatBool q W)
   obtain ⟨q, hq⟩ : ∃ q, (x.f1 == 1) = q := ⟨_, rfl⟩
   rw [hq]
   clear c1 c2 hf hlen hG h3 h4 g3 g4 hbare hkeys hall IH p0 p1 hr
   go_enter Tryz.func25, Tryz.ntmps25
   go_wp2_with (rw [HW1.out])
   refine (HFB.out q W1).mono ?_
   rintro e w2 ⟨rfl, rfl⟩
   go_wp2
   go_ret
   exact ⟨rfl, HB1.out⟩
  have n2 : (x.f0 == 2) = false := by rw [beq_eq_false_iff_ne]; exact c2
  unfold bareB at hbare
  simp only [Bool.and_eq_true, Bool.or_eq_true, beq_iff_eq, decide_eq_true_eq] at hbare
  obtain ⟨⟨⟨hb1, hb2⟩, hb3⟩, hb4⟩ := hbare
  by_cases c3 : x.f0 = 3
  ·have e3 : (x.f0 == 3) = true := by rw [c3]; rfl
   have hr : rend (d + 1) x = Lib.itoa x.f1 := by rw [rend, if_neg c1, if_neg c2, if_pos c3]
   rw [hr]
   have HF := Aside0.mk (fmt_calls x.f1 (by omega) (by omega) W1 HG1.out)
   clear c1 c2 c3 hf hlen hG h3 h4 g3 g4 hkeys hall IH p0 p1 hr hb1 hb2 hb3 hb4
   go_enter Tryz.func25, Tryz.ntmps25
   go_wp2_with (rw [HW1.out])
   refine HF.out.mono ?_
   rintro e w2 ⟨rfl, hb⟩
   have HB2 := Aside0.mk (below_then HB1.out HB1.out.size hb)
   clear hb
   go_wp2
   go_ret
   exact ⟨rfl, HB2.out⟩
  have n3 : (x.f0 == 3) = false := by rw [beq_eq_false_iff_ne]; exact c3
  by_cases c4 : x.f0 = 4
  ·have e4 : (x.f0 == 4) = true := by rw [c4]; rfl
   have hr : rend (d + 1) x = jq (bl x.f2) := by rw [rend, if_neg c1, if_neg c2, if_neg c3, if_pos c4]
   rw [hr] at hlen ⊢
   have HF := Aside0.mk (quote_calls x.f2 (by have := jq_len (bl x.f2); rw [bl_length] at this; omega) W1)
   clear c1 c2 c3 c4 hf hlen hG h3 h4 g3 g4 hkeys hall IH p0 p1 hr hb1 hb2 hb3 hb4
   go_enter Tryz.func25, Tryz.ntmps25
   go_wp2_with (rw [HW1.out])
   refine HF.out.mono ?_
   rintro e w2 ⟨rfl, hb⟩
   have HB2 := Aside0.mk (below_then HB1.out HB1.out.size hb)
   clear hb
   go_wp2
   go_ret
   exact ⟨rfl, HB2.out⟩
  have n4 : (x.f0 == 4) = false := by rw [beq_eq_false_iff_ne]; exact c4
  have HIH := Aside0.mk IH
  have G3 := Aside0.mk (Kd.C_below g3 HB1.out)
  have G4 := Aside0.mk (Kd.C_below g4 HB1.out)
  have H3 := Aside0.mk h3
  have H4 := Aside0.mk h4
  have HALL := Aside0.mk hall
  clear IH g3 g4 h3 h4 hall hf hG hb1 hb2 hb3
  have hP : (partsR d x).length = x.f3.length := by
   unfold partsR
   split
   ·rename_i h
    rw [if_pos h] at hkeys
    rw [Bool.and_eq_true] at hkeys
    have : x.f4.length = x.f3.length := by simpa using hkeys.1
    rw [List.length_zipWith, this]; simp
   ·rw [List.length_map]
  by_cases ck : x.f0 = 5
  ·have e5 : (x.f0 == 5) = (5 == 5) := by rw [ck]; rfl
   have e6 : (x.f0 == 6) = (5 == 6) := by rw [ck]; rfl
   rw [show ((5 : Nat) == 5) = !false from rfl] at e5
   rw [show ((5 : Nat) == 6) = false from rfl] at e6
   have hr : rend (d + 1) x = 91 :: (commas (partsR d x) ++ [93]) := by
    rw [rend, if_neg c1, if_neg c2, if_neg c3, if_neg c4]
    rw [if_pos ck]; unfold partsR; rw [if_neg (by omega)]
   rw [hr] at hlen ⊢
   simp only [List.length_cons, List.length_append, List.length_nil] at hlen
   have hpk : ∀ k, ∀ h : k < x.f3.length, ∃ h2 : k < (partsR d x).length, (partsR d x)[k]'h2 =
     rend d (x.f3[k]'h) := fun k h => ⟨by rw [hP]; exact h, by unfold partsR; simp only [if_neg (show ¬ x.f0 = 6 by omega)]; simp⟩
   have hplen : ∀ k, ∀ h : k < (partsR d x).length, ((partsR d x)[k]'h).length ≤ 1000000000 := fun k h => by
    have := commas_len (partsR d x) _ (List.getElem_mem h)
    omega
   have HPK := Aside0.mk hpk
   have HPL := Aside0.mk hplen
   obtain ⟨P, hPP⟩ : ∃ P, partsR d x = P := ⟨_, rfl⟩
   rw [hPP] at hP hlen HPK HPL ⊢
   have HLEN := Aside0.mk hlen
   clear hr hpk hplen hPP hkeys ck c1 c2 c3 c4 p0 p1 hlen
   go_enter Tryz.func25, Tryz.ntmps25
   go_wp2_with (rw [HW1.out])
   go_loopw [3, 30] (fun v3 i wr => ∃ k : Nat, k ≤ x.f3.length ∧ i = .int .i64 k ∧ Aside0 (Kd.R Kd.string 9 wr (w.heap.size + 1) (fun _ => True) v3 ((P.take k).map ba)) ∧ Aside0 (Below w.heap.size w wr) ∧ Aside0 (wr.heap[w.heap.size]? = some (.cells #[.int .i64 x.f0, .int .i64 x.f1, .string x.f2, .slice A3 x.f3.length q3, .slice A4 x.f4.length q4] 25 (0, 0))) ∧ Aside0 (Below W1.heap.size W1 wr)) (fun _ i _ => x.f3.length - (intOf i).toNat)
   case atStart => exact ⟨0, Nat.zero_le _, rfl, ⟨Kd.R_nil _ _ _ _ _⟩, HB1, BK1, ⟨Below.refl _ _⟩⟩
   case round =>
    obtain ⟨k, hk, rfl, HO, HB, BK, HBW⟩ := hrel
    clear m0 m1 m2 m3 m4
    have hzr : w.heap.size + 1 ≤ wr.heap.size := by have := HBW.out.size; omega
    by_cases hlt : k < x.f3.length
    ·have p0 : (0 : Int) ≤ (k : Int) := by omega
     have q0 : (k : Int) < (x.f3.length : Int) := by omega
     obtain ⟨ad, B3, r3, B4, r4, rfl, hx0, hx1, hx2, hx3, hx4, hl3, hg3, hl4, hg4⟩ := at_T25 (Kd.C_below G3.out HBW.out) (k : Int) p0 q0
     have hrd : rd_T25 x.f3 (k : Int) = x.f3[k]'hlt := by simp [rd_T25, List.getD_eq_getElem?_getD, List.getElem?_eq_getElem hlt]
     rw [hrd] at hx0 hx1 hx2 hx3 hx4 hl3 hg3 hl4 hg4
     simp only [Int.toNat_natCast] at hx0 hx1 hx2 hx3 hx4
     obtain ⟨hkP, hkE⟩ := HPK.out k hlt
     obtain ⟨y, hy⟩ : ∃ y, x.f3[k]'hlt = y := ⟨_, rfl⟩
     have hyf := HALL.out _ (List.getElem_mem hlt)
     rw [hy] at hx0 hx1 hx2 hx3 hx4 hl3 hg3 hl4 hg4 hkE hyf
     have hpl := HPL.out k hkP
     have hylen : (rend d y).length ≤ 1000000000 := by
      rw [hkE] at hpl
      omega
     have HYR := Aside0.mk (fun (W : World) (hW : Below wr.heap.size wr W) => HIH.out y B3 B4 r3 r4 W hyf hylen (HG1.out.below (below_then HBW.out HBW.out.size hW)) hl3 hl4 (Kd.C_below hg3 hW) (Kd.C_below hg4 hW))
     have HKE := Aside0.mk (show (P.take (k + 1)).map ba = (P.take k).map ba ++ [ba (P[k]'hkP)] from take_ba P k hkP)
     have HKE2 := Aside0.mk hkE
     have HPL2 := Aside0.mk hpl
     have k0 := (blk_cell BK.out 0).trans (rfl : _ = some (Value.int .i64 x.f0))
     have k4 := (blk_cell BK.out 4).trans (rfl : _ = some (Value.slice A4 x.f4.length q4))
     clear hrd hl3 hg3 hl4 hg4 hy hyf hylen hkE hpl
     go_wp2_with fail
     refine (HYR.out _ (below_alloc (Below.refl _ wr) _)).mono ?_
     rintro e w2 ⟨rfl, hb2⟩
     have hbr := below_then (below_alloc (Below.refl _ wr) (.cells #[.int .i64 y.f0, .int .i64 y.f1, .string y.f2, .slice B3 y.f3.length r3, .slice B4 y.f4.length r4] 25)) (below_alloc (Below.refl _ wr) (.cells #[.int .i64 y.f0, .int .i64 y.f1, .string y.f2, .slice B3 y.f3.length r3, .slice B4 y.f4.length r4] 25)).size hb2
     have BK2 := Aside0.mk (blk_below BK.out hbr)
     have HO2 := Aside0.mk (Kd.R_below HO.out hbr)
     have HBW2 := Aside0.mk (below_then HBW.out HBW.out.size hbr)
     have HB2 := Aside0.mk (below_then HB.out HB.out.size hbr)
     have hzr2 : w.heap.size + 1 ≤ w2.heap.size := Nat.le_trans hzr hbr.size
     have k0 := (blk_cell BK2.out 0).trans (rfl : _ = some (Value.int .i64 x.f0))
     have k4 := (blk_cell BK2.out 4).trans (rfl : _ = some (Value.slice A4 x.f4.length q4))
     obtain ⟨Y, hY⟩ : ∃ Y, ba (rend d y) = Y := ⟨_, rfl⟩
     have HYY := Aside0.mk hY
     have hYs : Y.size = (rend d y).length := by rw [← hY, size_ba]
     rw [hY]
     clear hb2 hbr hx0 hx1 hx2 hx3 hx4 hY HYR
     clear hYs
     go_wp2_with (first | ((with_reducible refine gate_builtin (b := .append) (xs := #[.tmp 49, .tmp 51]) rfl ?_); at_builtin; refine Kd.R_append Kd.string (w0 := w2) (w.heap.size + 1) rfl (.tmp 49) (.tmp 51) 23 9 (.string ⟨#[]⟩) 16 rfl Tryz.underlying23 info9 rfl (by decide) (by omega) u3 ((P.take k).map ba) Y [.string Y] (fun _ => True) (fun _ => False) rfl rfl ?aP (fun _ hk => hk.elim) ?aF ?aO ?aB ?aS ?aL ?_; (case aP => exact rfl); (case aB => exact Below.refl _ _); (case aF => exact (fun _ _ => trivial)); (case aO => exact HO2.out); (case aS => omega); (case aL => (have h_ := List.length_take_le k P; rw [List.length_map]; omega)); intro v9 w9 ho hb hg hat; have HO9 := Aside0.mk ho; have HG9 := Aside0.mk hg; have HB9 := Aside0.mk hb; clear ho hb hg hat))
     obtain ⟨A9, q9, rfl⟩ := Kd.R_slice HO9.out
     have hg9 := HG9.out
     go_wp2
     go_roundw
     case rel =>
      refine ⟨k + 1, by omega, by go_num, ⟨?_⟩, ⟨HB2.out.grown hg9 HB2.out.size (fun j e => ?_)⟩, ⟨?_⟩, ⟨HBW2.out.grown hg9 HBW2.out.size (fun j e => ?_)⟩⟩
      ·rw [HKE.out, HKE2.out, HYY.out]; exact HO9.out
      ·obtain ⟨_, ho⟩ := Kd.R_own HO2.out; have := own_base ho j e; omega
      ·exact (hg9.block _ (by omega) (fun e => by obtain ⟨_, ho⟩ := Kd.R_own HO2.out; have := own_base ho _ e.symm; omega)).trans BK2.out
      ·obtain ⟨_, ho⟩ := Kd.R_own HO2.out; have := own_base ho j e; omega
     case measure => simp [intOf]; omega
    ·have hke : P.take k = P := List.take_of_length_le (by omega)
     rw [hke] at HO
     obtain ⟨A9, q9, hl9, hrd⟩ := Kd.R_reads HO.out
     rw [List.length_map] at hl9
     have hpn : P.length ≤ q9 := by have := hrd.1; rw [List.length_map] at this; exact this
     have HJ := Aside0.mk (join_calls A9 q9 P (by have := HLEN.out; omega) (by omega) hpn wr hrd.2)
     rw [hP] at hl9 HJ
     obtain rfl := hl9
     have k0 := (blk_cell BK.out 0).trans (rfl : _ = some (Value.int .i64 x.f0))
     obtain ⟨J, hJ⟩ : ∃ J, ba (commas P) = J := ⟨_, rfl⟩
     rw [hJ] at HJ
     have hJs : J.size = (commas P).length := by rw [← hJ, size_ba]
     have HJJ := Aside0.mk hJ
     have z1 : (9223372036854775807 < 1 + J.size) = False := eq_false (by have := HLEN.out; omega)
     have z2 : (9223372036854775807 < 1 + J.size + 1) = False := eq_false (by have := HLEN.out; omega)
     clear hke hrd hpn hJ hJs
     go_wp2_with fail
     refine HJ.out.mono ?_
     rintro e w2 ⟨rfl, hb2⟩
     have HB2 := Aside0.mk (below_then HB.out HB.out.size hb2)
     clear hb2
     go_wp2
     go_ret
     refine ⟨?_, HB2.out⟩
     rw [show ba (91 :: (commas P ++ [93])) = (⟨#[91]⟩ : ByteArray) ++ J ++ (⟨#[93]⟩ : ByteArray) by rw [← HJJ.out]; apply bl_inj; rw [bl_append, bl_append, bl_ba, bl_ba]; simp [bl]]
     rfl
  by_cases ck : x.f0 = 6
  ·have e5 : (x.f0 == 5) = (6 == 5) := by rw [ck]; rfl
   have e6 : (x.f0 == 6) = (6 == 6) := by rw [ck]; rfl
   rw [show ((6 : Nat) == 5) = !true from rfl] at e5
   rw [show ((6 : Nat) == 6) = true from rfl] at e6
   have hr : rend (d + 1) x = 123 :: (commas (partsR d x) ++ [125]) := by
    rw [rend, if_neg c1, if_neg c2, if_neg c3, if_neg c4]
    rw [if_neg (by omega)]; rfl
   rw [hr] at hlen ⊢
   simp only [List.length_cons, List.length_append, List.length_nil] at hlen
   have hpk : ∀ k, ∀ h : k < x.f3.length, ∃ h2 : k < (partsR d x).length, (partsR d x)[k]'h2 =
     jq (bl (x.f4.getD k ⟨#[]⟩)) ++ 58 :: rend d (x.f3[k]'h) := fun k h => ⟨by rw [hP]; exact h, by
      have hk4 : k < x.f4.length := by
       rw [if_pos ck, Bool.and_eq_true] at hkeys
       have : x.f4.length = x.f3.length := by simpa using hkeys.1
       omega
      unfold partsR; simp only [if_pos ck]; rw [List.getElem_zipWith, List.getD_eq_getElem?_getD, List.getElem?_eq_getElem hk4]; rfl⟩
   have hk4 : x.f4.length = x.f3.length := by
    rw [if_pos ck, Bool.and_eq_true] at hkeys
    simpa using hkeys.1
   have hplen : ∀ k, ∀ h : k < (partsR d x).length, ((partsR d x)[k]'h).length ≤ 1000000000 := fun k h => by
    have := commas_len (partsR d x) _ (List.getElem_mem h)
    omega
   have HPK := Aside0.mk hpk
   have HK4 := Aside0.mk hk4
   clear hk4
   have HPL := Aside0.mk hplen
   obtain ⟨P, hPP⟩ : ∃ P, partsR d x = P := ⟨_, rfl⟩
   rw [hPP] at hP hlen HPK HPL ⊢
   have HLEN := Aside0.mk hlen
   clear hr hpk hplen hPP hkeys ck c1 c2 c3 c4 p0 p1 hlen
   go_enter Tryz.func25, Tryz.ntmps25
   go_wp2_with (rw [HW1.out])
   go_loopw [3, 30] (fun v3 i wr => ∃ k : Nat, k ≤ x.f3.length ∧ i = .int .i64 k ∧ Aside0 (Kd.R Kd.string 9 wr (w.heap.size + 1) (fun _ => True) v3 ((P.take k).map ba)) ∧ Aside0 (Below w.heap.size w wr) ∧ Aside0 (wr.heap[w.heap.size]? = some (.cells #[.int .i64 x.f0, .int .i64 x.f1, .string x.f2, .slice A3 x.f3.length q3, .slice A4 x.f4.length q4] 25 (0, 0))) ∧ Aside0 (Below W1.heap.size W1 wr)) (fun _ i _ => x.f3.length - (intOf i).toNat)
   case atStart => exact ⟨0, Nat.zero_le _, rfl, ⟨Kd.R_nil _ _ _ _ _⟩, HB1, BK1, ⟨Below.refl _ _⟩⟩
   case round =>
    obtain ⟨k, hk, rfl, HO, HB, BK, HBW⟩ := hrel
    clear m0 m1 m2 m3 m4
    have hzr : w.heap.size + 1 ≤ wr.heap.size := by have := HBW.out.size; omega
    by_cases hlt : k < x.f3.length
    ·have p0 : (0 : Int) ≤ (k : Int) := by omega
     have q0 : (k : Int) < (x.f3.length : Int) := by omega
     obtain ⟨ad, B3, r3, B4, r4, rfl, hx0, hx1, hx2, hx3, hx4, hl3, hg3, hl4, hg4⟩ := at_T25 (Kd.C_below G3.out HBW.out) (k : Int) p0 q0
     have hrd : rd_T25 x.f3 (k : Int) = x.f3[k]'hlt := by simp [rd_T25, List.getD_eq_getElem?_getD, List.getElem?_eq_getElem hlt]
     rw [hrd] at hx0 hx1 hx2 hx3 hx4 hl3 hg3 hl4 hg4
     simp only [Int.toNat_natCast] at hx0 hx1 hx2 hx3 hx4
     obtain ⟨hkP, hkE⟩ := HPK.out k hlt
     obtain ⟨y, hy⟩ : ∃ y, x.f3[k]'hlt = y := ⟨_, rfl⟩
     have hyf := HALL.out _ (List.getElem_mem hlt)
     rw [hy] at hx0 hx1 hx2 hx3 hx4 hl3 hg3 hl4 hg4 hkE hyf
     have hpl := HPL.out k hkP
     have hylen : (rend d y).length ≤ 1000000000 := by
      rw [hkE] at hpl
      simp only [List.length_append, List.length_cons] at hpl
      omega
     have HYR := Aside0.mk (fun (W : World) (hW : Below wr.heap.size wr W) => HIH.out y B3 B4 r3 r4 W hyf hylen (HG1.out.below (below_then HBW.out HBW.out.size hW)) hl3 hl4 (Kd.C_below hg3 hW) (Kd.C_below hg4 hW))
     have HKE := Aside0.mk (show (P.take (k + 1)).map ba = (P.take k).map ba ++ [ba (P[k]'hkP)] from take_ba P k hkP)
     have HKE2 := Aside0.mk hkE
     have HPL2 := Aside0.mk hpl
     have k0 := (blk_cell BK.out 0).trans (rfl : _ = some (Value.int .i64 x.f0))
     have k4 := (blk_cell BK.out 4).trans (rfl : _ = some (Value.slice A4 x.f4.length q4))
     clear hrd hl3 hg3 hl4 hg4 hy hyf hylen hkE hpl
     go_wp2_with fail
     refine (HYR.out _ (below_alloc (Below.refl _ wr) _)).mono ?_
     rintro e w2 ⟨rfl, hb2⟩
     have hbr := below_then (below_alloc (Below.refl _ wr) (.cells #[.int .i64 y.f0, .int .i64 y.f1, .string y.f2, .slice B3 y.f3.length r3, .slice B4 y.f4.length r4] 25)) (below_alloc (Below.refl _ wr) (.cells #[.int .i64 y.f0, .int .i64 y.f1, .string y.f2, .slice B3 y.f3.length r3, .slice B4 y.f4.length r4] 25)).size hb2
     have BK2 := Aside0.mk (blk_below BK.out hbr)
     have HO2 := Aside0.mk (Kd.R_below HO.out hbr)
     have HBW2 := Aside0.mk (below_then HBW.out HBW.out.size hbr)
     have HB2 := Aside0.mk (below_then HB.out HB.out.size hbr)
     have hzr2 : w.heap.size + 1 ≤ w2.heap.size := Nat.le_trans hzr hbr.size
     have k0 := (blk_cell BK2.out 0).trans (rfl : _ = some (Value.int .i64 x.f0))
     have k4 := (blk_cell BK2.out 4).trans (rfl : _ = some (Value.slice A4 x.f4.length q4))
     obtain ⟨Y, hY⟩ : ∃ Y, ba (rend d y) = Y := ⟨_, rfl⟩
     have HYY := Aside0.mk hY
     have hYs : Y.size = (rend d y).length := by rw [← hY, size_ba]
     rw [hY]
     clear hb2 hbr hx0 hx1 hx2 hx3 hx4 hY HYR
     obtain ⟨ad4, rfl, hkx⟩ := Kd.at_string (Kd.C_below G4.out HBW2.out) (k : Int) p0 (by have := HK4.out; omega)
     have hkl : k < x.f4.length := by have := HK4.out; omega
     have hrk : rdOf ByteArray.empty x.f4 (k : Int) = x.f4[k]'hkl := by simp [rdOf, List.getD_eq_getElem?_getD, List.getElem?_eq_getElem hkl]
     rw [hrk] at hkx
     simp only [Int.toNat_natCast] at hkx
     have hgd : x.f4.getD k ⟨#[]⟩ = x.f4[k]'hkl := by rw [List.getD_eq_getElem?_getD, List.getElem?_eq_getElem hkl]; rfl
     obtain ⟨kk, hkk⟩ : ∃ kk, x.f4[k]'hkl = kk := ⟨_, rfl⟩
     rw [hkk] at hkx
     have HKK := Aside0.mk (hgd.trans hkk)
     have hpl2 := HPL2.out
     rw [HKE2.out, HKK.out] at hpl2
     simp only [List.length_append, List.length_cons] at hpl2
     have hjl := jq_len (bl kk)
     rw [bl_length] at hjl
     have HQ := Aside0.mk (quote_calls kk (by omega) w2)
     obtain ⟨Q, hQ⟩ : ∃ Q, ba (jq (bl kk)) = Q := ⟨_, rfl⟩
     have hQs : Q.size = (jq (bl kk)).length := by rw [← hQ, size_ba]
     rw [hQ] at HQ
     have HQQ := Aside0.mk hQ
     have qk : (k : Int) < (x.f4.length : Int) := by omega
     have z1 : (9223372036854775807 < Q.size + 1) = False := eq_false (by omega)
     have z2 : (9223372036854775807 < Q.size + 1 + Y.size) = False := eq_false (by omega)
     have HSZ := Aside0.mk (show Q.size + 1 + Y.size ≤ 1000000000 by omega)
     clear hrk hgd hkk hpl2 hjl hQ hQs hYs
     go_wp2_with fail
     refine HQ.out.mono ?_
     rintro e w3 ⟨rfl, hb3⟩
     have BK3 := Aside0.mk (blk_below BK2.out hb3)
     have HO3 := Aside0.mk (Kd.R_below HO2.out hb3)
     have HBW3 := Aside0.mk (below_then HBW2.out HBW2.out.size hb3)
     have HB3 := Aside0.mk (below_then HB2.out HB2.out.size hb3)
     have hzr3 : w.heap.size + 1 ≤ w3.heap.size := Nat.le_trans hzr2 hb3.size
     clear hb3 hkx k0 k4
     go_wp2_with (first | ((with_reducible refine gate_builtin (b := .append) (xs := #[.tmp 49, .tmp 51]) rfl ?_); at_builtin; refine Kd.R_append Kd.string (w0 := w3) (w.heap.size + 1) rfl (.tmp 49) (.tmp 51) 23 9 (.string ⟨#[]⟩) 16 rfl Tryz.underlying23 info9 rfl (by decide) (by omega) u3 ((P.take k).map ba) (Q ++ (⟨#[58]⟩ : ByteArray) ++ Y) [.string (Q ++ (⟨#[58]⟩ : ByteArray) ++ Y)] (fun _ => True) (fun _ => False) rfl rfl ?aP (fun _ hk => hk.elim) ?aF ?aO ?aB ?aS ?aL ?_; (case aP => exact rfl); (case aB => exact Below.refl _ _); (case aF => exact (fun _ _ => trivial)); (case aO => exact HO3.out); (case aS => omega); (case aL => (have h_ := List.length_take_le k P; rw [List.length_map]; omega)); intro v9 w9 ho hb hg hat; have HO9 := Aside0.mk ho; have HG9 := Aside0.mk hg; have HB9 := Aside0.mk hb; clear ho hb hg hat))
     obtain ⟨A9, q9, rfl⟩ := Kd.R_slice HO9.out
     have hg9 := HG9.out
     go_wp2
     go_roundw
     case rel =>
      refine ⟨k + 1, by omega, by go_num, ⟨?_⟩, ⟨HB3.out.grown hg9 HB3.out.size (fun j e => ?_)⟩, ⟨?_⟩, ⟨HBW3.out.grown hg9 HBW3.out.size (fun j e => ?_)⟩⟩
      ·rw [HKE.out, HKE2.out, HKK.out, show ba (jq (bl kk) ++ 58 :: rend d y) = Q ++ (⟨#[58]⟩ : ByteArray) ++ Y by rw [← HQQ.out, ← HYY.out]; apply bl_inj; rw [bl_append, bl_append, bl_ba, bl_ba, bl_ba]; simp [bl]]; exact HO9.out
      ·obtain ⟨_, ho⟩ := Kd.R_own HO3.out; have := own_base ho j e; omega
      ·exact (hg9.block _ (by omega) (fun e => by obtain ⟨_, ho⟩ := Kd.R_own HO3.out; have := own_base ho _ e.symm; omega)).trans BK3.out
      ·obtain ⟨_, ho⟩ := Kd.R_own HO3.out; have := own_base ho j e; omega
     case measure => simp [intOf]; omega
    ·have hke : P.take k = P := List.take_of_length_le (by omega)
     rw [hke] at HO
     obtain ⟨A9, q9, hl9, hrd⟩ := Kd.R_reads HO.out
     rw [List.length_map] at hl9
     have hpn : P.length ≤ q9 := by have := hrd.1; rw [List.length_map] at this; exact this
     have HJ := Aside0.mk (join_calls A9 q9 P (by have := HLEN.out; omega) (by omega) hpn wr hrd.2)
     rw [hP] at hl9 HJ
     obtain rfl := hl9
     have k0 := (blk_cell BK.out 0).trans (rfl : _ = some (Value.int .i64 x.f0))
     obtain ⟨J, hJ⟩ : ∃ J, ba (commas P) = J := ⟨_, rfl⟩
     rw [hJ] at HJ
     have hJs : J.size = (commas P).length := by rw [← hJ, size_ba]
     have HJJ := Aside0.mk hJ
     have z1 : (9223372036854775807 < 1 + J.size) = False := eq_false (by have := HLEN.out; omega)
     have z2 : (9223372036854775807 < 1 + J.size + 1) = False := eq_false (by have := HLEN.out; omega)
     clear hke hrd hpn hJ hJs
     go_wp2_with fail
     refine HJ.out.mono ?_
     rintro e w2 ⟨rfl, hb2⟩
     have HB2 := Aside0.mk (below_then HB.out HB.out.size hb2)
     clear hb2
     go_wp2
     go_ret
     refine ⟨?_, HB2.out⟩
     rw [show ba (123 :: (commas P ++ [125])) = (⟨#[123]⟩ : ByteArray) ++ J ++ (⟨#[125]⟩ : ByteArray) by rw [← HJJ.out]; apply bl_inj; rw [bl_append, bl_append, bl_ba, bl_ba]; simp [bl]]
     rfl
  omega
end Go.Proofs.YtifejhbochkifaaGreatDoor.X
