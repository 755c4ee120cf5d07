/- row.Texts: each text's length, a colon, the text; and what the library's conversions want of a world. -/
import Derived.Test.YtkjheoilidpckaaDoorHCut
import Derived.Lib.AppendIntMem
import Derived.Lib.SmallJoins
import Derived.Deep.LoopGhost
namespace Go.Proofs.YtkjheoilidpckaaDoor.X
open Go.RowKit Go.Proofs.YtkjheoilidpckaaDoorW.PrintWords Go.Proofs.YtkjheoilidpckaaDoorW.PrintLast Go.Proofs.YtkjheoilidpckaaDoorW.PrintMore Go.Proofs.YtkjheoilidpckaaDoor.Spec
set_option linter.unusedVariables false
set_option linter.unusedSimpArgs false

/-- the table of the powers of ten, and the two errors' variables -/
def GOK (w : World) : Prop := Lib.TabIs Tryd.prog w "internal/strconv.uint64pow10" .u64 Lib.pow10Tab ∧ (∃ tp p, w.var? Tryd.prog "strconv.ErrSyntax" = some #[.iface tp p]) ∧ (∃ tp p, w.var? Tryd.prog "strconv.ErrRange" = some #[.iface tp p])
theorem GOK.below {w w' : World} (h : GOK w) (hb : Below w.heap.size w w') : GOK w' := by
  obtain ⟨h1, ⟨tp, p, h2⟩, tp', p', h3⟩ := h
  refine ⟨?_, ⟨tp, p, ?_⟩, tp', p', ?_⟩
  · exact Joins.tab_stays (g := 3) (by kernel_rfl) h1 hb (Nat.le_refl _)
  · exact Joins.var_stays (g := 1) (by kernel_rfl) h2 hb (Nat.le_refl _)
  · exact Joins.var_stays (g := 2) (by kernel_rfl) h3 hb (Nat.le_refl _)
theorem GOK.drawn {w w' : World} (h : GOK w) (hb : Drawn0 w w') : GOK w' := by
  obtain ⟨n, rfl⟩ := hb
  exact h
theorem GOK.drewN {w : World} (n : Nat) (h : GOK w) : GOK (w.drewN n) := h

theorem itoa_calls (n : Int) (h0 : -9223372036854775808 ≤ n) (h1 : n ≤ 9223372036854775807) (w : World) (hG : GOK w) :
    Calls Tryd.prog 28 #[.int .i64 n] w fun e w' => e = .returned (.string (ba (Lib.itoa n))) ∧ Below w.heap.size w w' := by
  refine (Tryd.strconv_Itoa n h0 h1 w hG.1).mono ?_
  rintro e w' ⟨rfl, k, os, rfl⟩
  exact ⟨rfl, Lib.below_grow _ w (Nat.le_refl _) k os⟩

def strconv_Itoa.f (n : Int) : Option ByteArray := if -9223372036854775808 ≤ n ∧ n ≤ 9223372036854775807 then some (ba (Lib.itoa n)) else none
theorem strconv_Itoa.calls (a0 : Int) (r : ByteArray) (w : World) (h : strconv_Itoa.f a0 = some r) (hG : GOK w := by first | assumption | exact hG | exact GOK.drewN _ hG | exact GOK.below hG (by repeat (first | (with_reducible first | exact HB.out | apply below_alloc | apply pw_below_drewN | apply below_drew1 | refine below_set ?_ (Aside0.out (by assumption))) | exact HB.out))) :
    Calls Tryd.prog 28 #[.int .i64 a0] w fun e w' => e = .returned (.string r) ∧ Below w.heap.size w w' := by
  unfold strconv_Itoa.f at h
  split at h
  case isFalse => cases h
  rename_i hs
  obtain rfl := Option.some.inj h
  exact itoa_calls a0 hs.1 hs.2 w hG

/-- a text with its length ahead; texts as one -/
def tx1 (s : ByteArray) : List UInt8 := Lib.itoa (s.size : Int) ++ (58 :: bl s)
def txL : List ByteArray → List UInt8
  | [] => []
  | s :: r => tx1 s ++ txL r
theorem txL_append (a b : List ByteArray) : txL (a ++ b) = txL a ++ txL b := by
  induction a with
  | nil => rfl
  | cons x r ih => simp [txL, ih]
theorem below_on' {w0 a b : World} (h : Below w0.heap.size w0 a) (k : Below a.heap.size a b) : Below w0.heap.size w0 b := h.trans (k.mono h.size)
theorem isb_below {T e : TypeId} {B b : Nat} {bs : List Value} {w w' : World} (h : Lib.IsBuilder T e B b bs w) (hb : Below w.heap.size w w') : Lib.IsBuilder T e B b bs w' := by
  have at_below : ∀ p, Lib.BuilderAt T e B b p bs w → Lib.BuilderAt T e B b p bs w' := by
    rintro p ⟨hB, v, h1, h2, h3⟩
    exact ⟨hB, v, blk_below h1 hb, own_move h2 (fun k hk => by obtain ⟨cells, hc⟩ := own_typed h2 k hk; exact hb.block k (blk_lt hc)), h3⟩
  exact h.imp (at_below _) (at_below _)
theorem txL_take (l : List ByteArray) (k : Nat) (hk : k < l.length) : txL (l.take (k + 1)) = txL (l.take k) ++ tx1 (l[k]'hk) := by
  rw [List.take_succ_eq_append_getElem hk, txL_append]
  simp [txL]

def row_Texts.f (l : List ByteArray) : Option ByteArray := if (txL l).length ≤ 1000000000000 ∧ l.length ≤ 1000000000000 then some (ba (txL l)) else none
theorem txL_part (l : List ByteArray) (k : Nat) : (txL (l.take k)).length ≤ (txL l).length := by
  have := congrArg List.length (txL_append (l.take k) (l.drop k))
  rw [List.take_append_drop, List.length_append] at this
  omega

set_option maxHeartbeats 4000000 in
set_option maxRecDepth 100000 in
theorem row_Texts.calls (A0 : Option Addr) (c0 : Nat) (l0 : List ByteArray) (r : ByteArray) (w : World) (hr0 : Kd.C Kd.string w A0 l0.length l0) (hc0 : l0.length ≤ c0) (h : row_Texts.f l0 = some r) (hG : GOK w := by first | assumption | exact hG | exact GOK.drewN _ hG | exact GOK.below hG (by repeat (first | (with_reducible first | exact HB.out | apply below_alloc | apply pw_below_drewN | apply below_drew1 | refine below_set ?_ (Aside0.out (by assumption))) | exact HB.out))) :
    Calls Tryd.prog 12 #[.slice A0 l0.length c0] w fun e w' => e = .returned (.string r) ∧ Below w.heap.size w w' := by
  unfold row_Texts.f at h
  split at h
  case isFalse => cases h
  rename_i hs
  obtain rfl := Option.some.inj h
  clear h
  have HS := Aside0.mk hs
  have HR := Aside0.mk hr0
  have HG := Aside0.mk hG
  have hl1 : l0.length ≤ 1000000000000 := hs.2
  clear hs hr0 hG
  go_enter Tryd.func12, Tryd.ntmps12
  go_wp2
  go_loopw [8] (fun i wr => ∃ k : Nat, k ≤ l0.length ∧ i = .int .i64 k ∧ Aside0 (Lib.IsBuilder 56 5 w.heap.size w.heap.size (Lib.byteCells (txL (l0.take k))) wr) ∧ Aside0 (Below w.heap.size w wr)) (fun i _ => l0.length - (intOf i).toNat)
  case atStart =>
    exact ⟨0, Nat.zero_le _, rfl, ⟨Lib.fresh_isBuilder 56 5 w⟩, ⟨(Below.refl _ w).alloc (Nat.le_refl _) _⟩⟩
  case round =>
    obtain ⟨k, hk, rfl, HI, HB⟩ := hrel
    have hBw : w.heap.size ≤ wr.heap.size := HB.out.size
    have hwk : IntKind.i64.wrap ((k : Int) + 1) = (k : Int) + 1 := IntWalk.i64_in _ (by omega)
    by_cases hlt : k < l0.length
    · have hltd : decide ((k : Int) < l0.length) = true := decide_eq_true (by omega)
      obtain ⟨x, hx⟩ : ∃ x, l0[k]'hlt = x := ⟨_, rfl⟩
      obtain ⟨ad, rfl, hcell⟩ := Kd.at_string (Kd.C_below HR.out HB.out) (k : Int) (by omega) (by omega)
      rw [show rdOf ByteArray.empty l0 (k : Int) = x from by simp [rdOf, List.getD_eq_getElem?_getD, List.getElem?_eq_getElem hlt, hx]] at hcell
      simp only [Int.toNat_natCast] at hcell
      have HTX := Aside0.mk (show txL (l0.take (k + 1)) = txL (l0.take k) ++ tx1 x by rw [txL_take l0 k hlt, hx])
      have hlen : (txL (l0.take k)).length + (tx1 x).length ≤ 1000000000000 := by
        have h1 := txL_part l0 (k + 1)
        rw [HTX.out, List.length_append] at h1
        have := HS.out.1
        omega
      have hlx : x.size + 1 + (Lib.itoa (x.size : Int)).length = (tx1 x).length := by simp [tx1, bl_length]; omega
      have HLEN := Aside0.mk hlen
      have HLX := Aside0.mk hlx
      have z1 : (9223372036854775807 < (Lib.itoa (x.size : Int)).length + 1) = False := eq_false (by omega)
      have z2 : (9223372036854775807 < (Lib.itoa (x.size : Int)).length + 1 + x.size) = False := eq_false (by omega)
      clear hx hlen hlx
      go_wp2_with fail
      refine (itoa_calls (x.size : Int) (by omega) (by have := HLEN.out; have := HLX.out; omega) wr (HG.out.below HB.out)).mono ?_
      rintro e w1 ⟨rfl, hb1⟩
      have B1 := Aside0.mk hb1
      clear hb1
      go_wp2_with fail
      refine (Sh.Builder_WriteString w.heap.size w.heap.size (Lib.byteCells (txL (l0.take k))) _ w1 (isb_below HI.out B1.out) (by rw [Lib.byteCells_length, ByteArray.size_append, ByteArray.size_append, size_ba]; have := HLEN.out; have := HLX.out; rw [show (⟨#[58]⟩ : ByteArray).size = 1 from rfl]; omega) (Nat.le_trans hBw B1.out.size)).mono ?_
      rintro e w2 ⟨rfl, h2, hb2⟩
      have hbl : Lib.strCells (ba (Lib.itoa (x.size : Int)) ++ ⟨#[58]⟩ ++ x) = Lib.byteCells (tx1 x) := by
        show Lib.byteCells (bl (ba (Lib.itoa (x.size : Int)) ++ ⟨#[58]⟩ ++ x)) = _
        rw [bl_append, bl_append, bl_ba, show bl (⟨#[58]⟩ : ByteArray) = [58] from rfl]
        simp [tx1]
      have H2 := Aside0.mk (show Lib.BuilderAt _ _ _ _ _ (Lib.byteCells (txL (l0.take (k + 1)))) w2 from by rw [HTX.out, Lib.byteCells_append, ← hbl]; exact h2)
      have HB2 := Aside0.mk ((below_on' HB.out B1.out).trans hb2)
      clear h2 hb2 hbl
      go_wp2
      go_roundw
      case rel => exact ⟨k + 1, by omega, by go_num, ⟨Or.inr H2.out⟩, HB2⟩
      case measure => simp [intOf]; omega
    · have hltd : decide ((k : Int) < l0.length) = false := decide_eq_false (by omega)
      have hkl : k = l0.length := by omega
      subst hkl
      rw [List.take_length] at HI
      go_wp2_with fail
      refine (Sh.Builder_String_any w.heap.size w.heap.size (txL l0) wr HI.out hBw).mono ?_
      rintro e w2 ⟨rfl, hb2⟩
      have HB2 := Aside0.mk (HB.out.trans hb2)
      clear hb2
      go_wp2
      go_ret
      exact ⟨rfl, HB2.out⟩
end Go.Proofs.YtkjheoilidpckaaDoor.X
