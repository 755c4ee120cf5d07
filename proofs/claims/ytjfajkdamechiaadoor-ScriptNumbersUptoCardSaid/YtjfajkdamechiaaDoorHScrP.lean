/- script.Print: the lines of any steps, into a builder. -/
import Derived.Test.YtjfajkdamechiaaDoorHLine
import Derived.WalkKit
import Derived.Deep.LoopGhost
import Derived.IntWalk
namespace Go.Proofs.YtjfajkdamechiaaDoor.X
open Go.RowKit Go.Proofs.YtjfajkdamechiaaDoorW.PrintWords Go.Proofs.YtjfajkdamechiaaDoorW.PrintLast Go.Proofs.YtjfajkdamechiaaDoorW.PrintMore Go.Proofs.YtjfajkdamechiaaDoor.Spec
set_option linter.unusedVariables false
set_option linter.unusedSimpArgs false

def textL (l : List S36) : List UInt8 := l.flatMap lineL
theorem textL_append (a b : List S36) : textL (a ++ b) = textL a ++ textL b := by simp [textL]
theorem textL_take (l : List S36) (k : Nat) (hk : k < l.length) : textL (l.take (k + 1)) = textL (l.take k) ++ lineL (l[k]'hk) := by
  rw [List.take_succ_eq_append_getElem hk, textL_append]
  simp [textL]
theorem textL_part (l : List S36) (k : Nat) : (textL (l.take k)).length ≤ (textL l).length := by
  have := congrArg List.length (textL_append (l.take k) (l.drop k))
  rw [List.take_append_drop, List.length_append] at this
  omega
def script_Print.f (l : List S36) : Option ByteArray := if (textL l).length ≤ 1000000000000 ∧ l.length ≤ 1000000000000 ∧ (∀ s ∈ l, stOk s) then some (ba (textL l)) else none

set_option maxHeartbeats 4000000 in
set_option maxRecDepth 100000 in
theorem script_Print.calls (A0 : Option Addr) (c0 : Nat) (l0 : List (S36)) (r : ByteArray) (w : World) (hr0 : Kd.C k36 w A0 l0.length l0) (hc0 : l0.length ≤ c0) (h : script_Print.f l0 = some r) (hG : GOK w := by first | assumption | exact hG | exact GOK.drewN _ hG | exact GOK.below hG (by repeat (first | (with_reducible first | exact HB.out | apply below_alloc | apply pw_below_drewN | apply below_drew1 | refine below_set ?_ (Aside0.out (by assumption))) | exact HB.out))) :
    Calls Tryd.prog 10 #[.slice A0 l0.length c0] w fun e w' => e = .returned (.string r) ∧ Below w.heap.size w w' := by
  have hu := Tryd.underlying36
  have hu2 := Tryd.underlying34
  unfold script_Print.f at h
  split at h
  case isFalse => cases h
  rename_i hs
  obtain rfl := Option.some.inj h
  clear h
  have HS := Aside0.mk hs
  have HR := Aside0.mk hr0
  have HG := Aside0.mk hG
  have hl1 : l0.length ≤ 1000000000000 := hs.2.1
  clear hs hr0 hG
  go_enter Tryd.func10, Tryd.ntmps10
  go_wp2
  go_loopw [10] (fun i wr => ∃ k : Nat, k ≤ l0.length ∧ i = .int .i64 k ∧ Aside0 (Lib.IsBuilder 41 5 w.heap.size w.heap.size (Lib.byteCells (textL (l0.take k))) wr) ∧ Aside0 (Below w.heap.size w wr)) (fun i _ => l0.length - (intOf i).toNat)
  case atStart =>
    exact ⟨0, Nat.zero_le _, rfl, ⟨Lib.fresh_isBuilder 41 5 w⟩, ⟨(Below.refl _ w).alloc (Nat.le_refl _) _⟩⟩
  case round =>
    obtain ⟨k, hk, rfl, HI, HB⟩ := hrel
    have hBw : w.heap.size ≤ wr.heap.size := HB.out.size
    have hwk : IntKind.i64.wrap ((k : Int) + 1) = (k : Int) + 1 := IntWalk.i64_in _ (by omega)
    by_cases hlt : k < l0.length
    · have hltd : decide ((k : Int) < l0.length) = true := decide_eq_true (by omega)
      obtain ⟨x, hx⟩ : ∃ x, l0[k]'hlt = x := ⟨_, rfl⟩
      obtain ⟨ad, A12, c12, rfl, hx0, hx1, hx2, hx3, hx4, hx5, hx6, hx7, hx8, hx9, hx10, hx11, hx12, hl12, hC12⟩ := at_T36 (Kd.C_below HR.out HB.out) (k : Int) (by omega) (by omega)
      have hrd : rd_T36 l0 (k : Int) = x := by simp [rd_T36, List.getD_eq_getElem?_getD, List.getElem?_eq_getElem hlt, hx]
      rw [hrd] at hx0 hx1 hx2 hx3 hx4 hx5 hx6 hx7 hx8 hx9 hx10 hx11 hx12 hl12 hC12
      simp only [Int.toNat_natCast] at hx0 hx1 hx2 hx3 hx4 hx5 hx6 hx7 hx8 hx9 hx10 hx11 hx12
      have HC12 := Aside0.mk hC12
      have HTX := Aside0.mk (show textL (l0.take (k + 1)) = textL (l0.take k) ++ lineL x by rw [textL_take l0 k hlt, hx])
      have hlen : (textL (l0.take k)).length + (lineL x).length ≤ 1000000000000 := by
        have h1 := textL_part l0 (k + 1)
        rw [HTX.out, List.length_append] at h1
        have := HS.out.1
        omega
      have HLEN := Aside0.mk hlen
      obtain ⟨q, hq⟩ := (line_ev x (HS.out.2.2 x (hx ▸ List.getElem_mem hlt))).get
      have HQ := Aside0.mk hq
      clear hx hlen hC12 hrd hq
      go_wp2_with fail
      refine (script_line.calls q _ _ _ _ _ _ _ _ _ _ _ _ A12 c12 x.f7 _ _ (Kd.C_alloc HC12.out _) hl12 HQ.out (hG := HG.out.below (below_alloc HB.out _))).mono ?_
      rintro e w1 ⟨rfl, hb1⟩
      have B1 := Aside0.mk (below_on' (below_alloc (Below.refl _ wr) (.cells #[.int .i64 x.f0, .int .i64 x.f1, .string x.f2.f0, .string x.f2.f1, .string x.f2.f2, .string x.f2.f3, .string x.f2.f4, .string x.f2.f5, .string x.f3, .string x.f4, .string x.f5, .string x.f6, .slice A12 x.f7.length c12] 36)) hb1)
      clear hb1
      go_wp2_with fail
      refine (Sh.Builder_WriteString w.heap.size w.heap.size (Lib.byteCells (textL (l0.take k))) _ w1 (isb_below HI.out B1.out) (by rw [Lib.byteCells_length, size_ba]; have := HLEN.out; omega) (Nat.le_trans hBw B1.out.size)).mono ?_
      rintro e w2 ⟨rfl, h2, hb2⟩
      have hbl : Lib.strCells (ba (lineL x)) = Lib.byteCells (lineL x) := by
        show Lib.byteCells (bl (ba (lineL x))) = _
        rw [bl_ba]
      have H2 := Aside0.mk (show Lib.BuilderAt _ _ _ _ _ (Lib.byteCells (textL (l0.take (k + 1)))) w2 from by rw [HTX.out, Lib.byteCells_append, ← hbl]; exact h2)
      have HB2 := Aside0.mk ((below_on' HB.out B1.out).trans hb2)
      clear h2 hb2 hbl
      go_wp2
      go_roundw
      case rel => exact ⟨k + 1, by omega, by go_num, ⟨Or.inr H2.out⟩, HB2⟩
      case measure => simp [intOf]; omega
    · have hltd : decide ((k : Int) < l0.length) = false := decide_eq_false (by omega)
      have hkl : k = l0.length := by omega
      subst hkl
      rw [List.take_length] at HI
      go_wp2_with fail
      refine (Sh.Builder_String_any w.heap.size w.heap.size (textL l0) wr HI.out hBw).mono ?_
      rintro e w2 ⟨rfl, hb2⟩
      have HB2 := Aside0.mk (HB.out.trans hb2)
      clear hb2
      go_wp2
      go_ret
      exact ⟨rfl, HB2.out⟩
end Go.Proofs.YtjfajkdamechiaaDoor.X
