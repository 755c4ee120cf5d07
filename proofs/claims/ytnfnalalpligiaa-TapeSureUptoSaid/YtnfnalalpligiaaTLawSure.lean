/- TapeSure: its walk. -/
import Derived.Test.YtnfnalalpligiaaTOwn
import Derived.Test.YtnfnalalpligiaaTHead
namespace Go.Proofs.Ytnfnalalpligiaa.X
open Go.RowKit Go.Proofs.YtnfnalalpligiaaW.PrintWords Go.Proofs.YtnfnalalpligiaaW.PrintLast Go.Proofs.YtnfnalalpligiaaW.PrintMore
set_option linter.unusedVariables false
set_option linter.unusedSimpArgs false

theorem wr_some (zs b : List Int) (f : Int) (d : Bool) : ∃ r, r ≤ b.length ∧ wr zs b f d = zs ++ b.take r := by
  have h := tk_range f d b.length false (by omega)
  exact ⟨(tk f d b.length false).toNat, by omega, rfl⟩
theorem fz_le (f : Int) (d : Bool) (n : Int) (h : f ≤ 9223372036854775807) (hn : 0 ≤ n) : fz f d n ≤ 9223372036854775807 := by
  unfold fz
  split
  · exact h
  · split
    · exact h
    · split <;> omega

set_option maxHeartbeats 16000000 in
set_option maxRecDepth 100000 in
theorem sure_walk (A0 : Option Addr) (c0 : Nat) (l0 : List Int) (A1 : Option Addr) (c1 : Nat) (l1 : List Int) (a2 a3 : Int) (w : World) (hr0 : Kd.C (Kd.int .u8) w A0 l0.length l0) (hc0 : l0.length ≤ c0)
    (hr1 : Kd.C (Kd.int .u8) w A1 l1.length l1) (hc1 : l1.length ≤ c1) (h2 : a2 ≤ 9223372036854775807) (h3 : 0 ≤ a3 ∧ a3 < 256) :
    Calls Try.prog 3 #[.slice A0 l0.length c0, .slice A1 l1.length c1, .int .i64 a2, .int .u8 a3] w fun e w' => e = .returned (.bool true) ∧ Below w.heap.size w w' := by
  obtain ⟨i0, hi, hz0, hz1, hz2⟩ := info_parts i5
  have HA := Aside0.mk (Arg.ofC hr0 hc0)
  have HB := Aside0.mk (Arg.ofC hr1 hc1)
  clear hr0 hr1
  by_cases k1 : 500 < l0.length
  · have hq1 : decide ((l0.length : Int) > 500) = true := decide_eq_true (by omega)
    clear k1
    go_enter Try.func3, Try.ntmps3
    go_wp2_with fail
    refine (answers_calls w).mono ?_
    rintro e w1 ⟨rfl, hb⟩
    have HB := Aside0.mk hb
    clear hb
    go_wp2
    go_ret
    exact ⟨rfl, HB.out⟩
  by_cases k2 : 500 < l1.length
  · have hq1 : decide ((l0.length : Int) > 500) = false := decide_eq_false (by omega)
    have hq2 : decide ((l1.length : Int) > 500) = true := decide_eq_true (by omega)
    clear k1 k2
    go_enter Try.func3, Try.ntmps3
    go_wp2_with fail
    refine (answers_calls w).mono ?_
    rintro e w1 ⟨rfl, hb⟩
    have HB := Aside0.mk hb
    clear hb
    go_wp2
    go_ret
    exact ⟨rfl, HB.out⟩
  have hq1 : decide ((l0.length : Int) > 500) = false := decide_eq_false (by omega)
  have hq2 : decide ((l1.length : Int) > 500) = false := decide_eq_false (by omega)
  have HL := Aside0.mk (show l0.length ≤ 500 ∧ l1.length ≤ 500 by omega)
  have H2 := Aside0.mk h2
  have H3 := Aside0.mk h3
  have hw0 : IntKind.i64.wrap a3 = a3 := IntWalk.i64_in _ (by omega)
  clear k1 k2 h2 h3
  go_enter Try.func3, Try.ntmps3
  go_wp2_with fail
  refine (L_new (w0 := w) (Below.refl _ w)).mono ?_
  rintro e w1 ⟨p, rfl, ht, hp, hb, hB⟩
  have T1 := Aside0.mk ht
  have B1 := Aside0.mk hB
  clear ht hp hb hB
  go_wp2_with fail
  refine (L_write (w0 := w) T1.out B1.out (HA.out.at B1.out _ T1.out.hp) (by omega) (by have := HL.out; simp; omega)).mono ?_
  rintro e w2 ⟨rfl, g2, hd⟩
  have T2 := Aside0.mk (show Tp w.heap.size 44 w2 p g2 l0 0 (-1) false from by have h := hd.tp; simpa [wr, tk, fz, dn] using h)
  have B2 := Aside0.mk hd.be
  clear hd T1 B1
  go_wp2_with fail
  refine (L_sync (w0 := w) T2.out B2.out (by omega)).mono ?_
  rintro e w3 ⟨rfl, hd⟩
  have T3 := Aside0.mk (show Tp w.heap.size 44 w3 p g2 l0 (l0.length : Int) (-1) false from hd.tp)
  have B3 := Aside0.mk hd.be
  clear hd T2 B2
  go_wp2_with fail
  refine (L_fuse (w0 := w) T3.out B3.out a3).mono ?_
  rintro e w4 ⟨rfl, hd⟩
  have T4 := Aside0.mk (show Tp w.heap.size 44 w4 p g2 l0 (l0.length : Int) a3 false from by have h := hd.tp; rw [show max a3 0 = a3 from by have := H3.out; omega] at h; exact h)
  have B4 := Aside0.mk hd.be
  clear hd T3 B3
  go_wp2_with fail
  refine (L_write (w0 := w) T4.out B4.out (HB.out.at B4.out _ T4.out.hp) (by have := H3.out; omega) (by have := HL.out; omega)).mono ?_
  rintro e w5 ⟨rfl, g5, hd⟩
  obtain ⟨n, hn, hwn⟩ := wr_some l0 l1 a3 false
  have T5 := Aside0.mk (show Tp w.heap.size 44 w5 p g5 (l0 ++ l1.take n) (l0.length : Int) (fz a3 false l1.length) (dn a3 false l1.length) from by have h := hd.tp; rw [hwn] at h; exact h)
  have B5 := Aside0.mk hd.be
  have HN := Aside0.mk hn
  have hln : (l0 ++ l1.take n).length = l0.length + n := by rw [List.length_append, List.length_take]; omega
  have HLN := Aside0.mk hln
  clear hd T4 B4 hn hwn hln
  go_wp2_with fail
  refine (L_crash (w0 := w) T5.out B5.out a2 (by omega) (by rw [HLN.out]; omega) (by rw [HLN.out]; have := HL.out; have := HN.out; omega) H2.out).mono ?_
  rintro e w6 ⟨rfl, hd⟩
  obtain ⟨r, hr⟩ : ∃ r : Nat, ((l0.length : Int) + min (max a2 0) (((l0 ++ l1.take n).length : Int) - l0.length)) = ((l0.length + r : Nat) : Int) ∧ r ≤ n := by
    rw [HLN.out]
    exact ⟨(min (max a2 0) (((l0.length + n : Nat) : Int) - l0.length)).toNat, by omega, by omega⟩
  have hzs : (l0 ++ l1.take n).take (l0.length + r) = l0 ++ l1.take r := by
    rw [List.take_append, List.take_of_length_le (by omega), List.take_take]
    congr 2
    omega
  have T6 := Aside0.mk (show Tp w.heap.size 44 w6 p g5 (l0 ++ l1.take r) ((l0.length + r : Nat) : Int) (-1) false from by
    have h := hd.tp
    rw [hr.1, Int.toNat_natCast, hzs] at h
    exact h)
  have HR := Aside0.mk (show r ≤ l1.length by have := HN.out; omega)
  have B6 := Aside0.mk hd.be
  obtain ⟨zs, hz⟩ : ∃ zs, l0 ++ l1.take r = zs := ⟨_, rfl⟩
  have HZ := Aside0.mk hz
  rw [hz] at T6
  have HZL := Aside0.mk (show zs.length = l0.length + r by rw [← hz, List.length_append, List.length_take]; have := HR.out; omega)
  clear hd T5 B5 hr hzs HN HLN hz n
  go_wp2_with fail
  refine (L_bytes (w0 := w) T6.out B6.out (by rw [HZL.out]; have := HL.out; have := HR.out; omega)).mono ?_
  rintro e w7 ⟨ao, cap, bb, rfl, h1, _, h3, _, h5⟩
  have T7 := Aside0.mk h3
  have B7 := Aside0.mk h5
  have HC := Aside0.mk h1
  clear h1 h3 h5 T6 B6
  have hle := HC.out.reads.2.2
  have e1 : ((zs.length : Int) ≥ (l0.length : Int)) = True := eq_true (by rw [HZL.out]; omega)
  have e1' : decide ((zs.length : Int) ≥ (l0.length : Int)) = true := decide_eq_true (by rw [HZL.out]; omega)
  have e2 : IntKind.i64.wrap ((l0.length : Int) + l1.length) = (l0.length : Int) + l1.length := IntWalk.i64_in _ (by have := HL.out; omega)
  have e3 : decide ((zs.length : Int) ≤ (l0.length : Int) + l1.length) = true := decide_eq_true (by rw [HZL.out]; have := HR.out; omega)
  have e4 : IntKind.i64.wrap ((zs.length : Int) - l0.length) = (zs.length : Int) - l0.length := IntWalk.i64_in _ (by rw [HZL.out]; have := HL.out; have := HR.out; omega)
  have e5 : ((l0.length + r : Nat) : Int) = (zs.length : Int) := by rw [HZL.out]
  have T8 := Aside0.mk (show Tp w.heap.size 44 w7 p g5 zs (zs.length : Int) (-1) false from by have h := T7.out; rw [e5] at h; exact h)
  have hcut1 : ∀ W, (Instr.slice 22 (.slice ao zs.length cap) none (some (.int .i64 (l0.length : Int))) none).run Try.prog W = .ok (.slice ao l0.length cap) W := by
    have := cut_to (P := Try.prog) 22 5 .i64 Try.underlying22 hi ao zs.length cap l0.length (by omega) (by rw [HZL.out]; omega) hle
    simpa using this
  obtain ⟨A', hcut2, hrd2, _⟩ := print_cut_int (P := Try.prog) (k := .u8) 22 5 Try.underlying22 hi hz1 ao cap zs (l0.length : Int) (by omega) (by rw [HZL.out]; omega) hle
  have hdr : zs.drop l0.length = l1.take r := by rw [← HZ.out, List.drop_left]
  have hlr : (l1.take r).length = r := by rw [List.length_take]; have := HR.out; omega
  rw [Int.toNat_natCast, hdr, hlr] at hcut2 hrd2
  clear hlr
  have hcut3 : ∀ W, (Instr.slice 22 (.slice A1 l1.length c1) none (some (.int .i64 ((zs.length : Int) - l0.length))) none).run Try.prog W = .ok (.slice A1 r c1) W := by
    have := cut_to (P := Try.prog) 22 5 .i64 Try.underlying22 hi A1 l1.length c1 ((zs.length : Int) - l0.length) (by rw [HZL.out]; omega) (by rw [HZL.out]; have := HR.out; omega) hc1
    rw [show ((zs.length : Int) - l0.length).toNat = r by rw [HZL.out]; omega] at this
    exact this
  have HRD2 := Aside0.mk hrd2
  clear hrd2 hdr e5 T7 hi hz0 hz1 hz2 i0
  have conv : ∀ w9, Below w7.drew.heap.size w7.drew w9 → Below w7.heap.size w7 w9 ∧ Below w.heap.size w w9 ∧
      (convert 22 9 (.slice ao l0.length cap)).run Try.prog w9 = .ok (.string (strOfNums l0)) w9 ∧ (convert 22 9 (.slice A0 l0.length c0)).run Try.prog w9 = .ok (.string (strOfNums l0)) w9 ∧
      (convert 22 9 (.slice A' r (cap - l0.length))).run Try.prog w9 = .ok (.string (strOfNums (l1.take r))) w9 ∧ (convert 22 9 (.slice A1 r c1)).run Try.prog w9 = .ok (.string (strOfNums (l1.take r))) w9 := fun w9 hb9 => by
    have b1 : Below w7.heap.size w7 w9 := ⟨hb9.os, hb9.tape, hb9.output, hb9.size, hb9.block⟩
    have b2 : Below w.heap.size w w9 := below_on B7.out b1
    have hC := (HC.out.keep (w' := w9) b1.size (fun hg => b1.block _ hg)).reads.1
    have hl0 : (zs.take l0.length) = l0 := by rw [← HZ.out, List.take_left]
    have hC1 : ReadsInt w9 .u8 ao l0.length l0 := by
      have := reads_take hC l0.length (by rw [HZL.out]; omega)
      rw [hl0] at this
      exact this
    obtain ⟨ga, hA, _⟩ := HA.out.at b2 w.heap.size (Nat.le_refl _)
    obtain ⟨gb, hB, _⟩ := HB.out.at b2 w.heap.size (Nat.le_refl _)
    have hB1 : ReadsInt w9 .u8 A1 r (l1.take r) := by
      have := reads_take hB.reads.1 r HR.out
      rw [show (l1.take r).length = r by rw [List.length_take]; have := HR.out; omega] at this
      exact this
    exact ⟨b1, b2, string_of_reads Try.underlying22 Try.underlying5 Try.underlying9 hC1, hA.str c0, string_of_reads Try.underlying22 Try.underlying5 Try.underlying9 (HRD2.out _ hC), string_of_reads Try.underlying22 Try.underlying5 Try.underlying9 hB1⟩
  have CONV := Aside0.mk conv
  clear conv
  go_wp2_with fail
  refine wp_region_head (by kernel_rfl) (by kernel_rfl) (by kernel_rfl) (by kernel_rfl) (fun K hK => ?_)
  go_simp
  refine (answers_calls _).mono ?_
  rintro e w9 ⟨rfl, hb9⟩
  obtain ⟨b1, b2, v1, v2, v3, v4⟩ := CONV.out w9 hb9
  have S9 := Aside0.mk (T8.out.below b1).st
  have B9 := Aside0.mk b2
  clear b1 b2 hb9
  refine hK _ _ ?_
  clear hK K
  repeat still_step
  still_call (sure_calls _ _ _ _ _ _ _ S9.out)
  repeat still_step
  refine wpStill_nil ?_
  go_wp2
  go_ret
  exact ⟨rfl, B9.out⟩

def exequaturlaw10_TapeSure.f (l0 : List Int) (l1 : List Int) (a2 a3 : Int) : Option Bool := if a2 ≤ 9223372036854775807 ∧ 0 ≤ a3 ∧ a3 < 256 then some true else none
theorem exequaturlaw10_TapeSure.calls (A0 : Option Addr) (c0 : Nat) (l0 : List Int) (A1 : Option Addr) (c1 : Nat) (l1 : List Int) (a2 a3 : Int) (r : Bool) (w : World) (hr0 : Kd.C (Kd.int .u8) w A0 l0.length l0) (hc0 : l0.length ≤ c0)
    (hr1 : Kd.C (Kd.int .u8) w A1 l1.length l1) (hc1 : l1.length ≤ c1) (h : exequaturlaw10_TapeSure.f l0 l1 a2 a3 = some r) :
    Calls Try.prog 3 #[.slice A0 l0.length c0, .slice A1 l1.length c1, .int .i64 a2, .int .u8 a3] w fun e w' => e = .returned (.bool r) ∧ Below w.heap.size w w' := by
  unfold exequaturlaw10_TapeSure.f at h
  split at h
  case isFalse => cases h
  rename_i hs
  obtain rfl := Option.some.inj h
  exact sure_walk A0 c0 l0 A1 c1 l1 a2 a3 w hr0 hc0 hr1 hc1 hs.1 hs.2
end Go.Proofs.Ytnfnalalpligiaa.X
