/- TapeBurns: its walk (printed by burns.py, ours). -/
import Derived.Test.YtnfnalalpligiaaTOwn
namespace Go.Proofs.Ytnfnalalpligiaa.X
open Go.RowKit Go.Proofs.YtnfnalalpligiaaW.PrintWords Go.Proofs.YtnfnalalpligiaaW.PrintLast Go.Proofs.YtnfnalalpligiaaW.PrintMore
set_option linter.unusedVariables false
set_option linter.unusedSimpArgs false

theorem wr_all (zs b : List Int) (f : Int) (h : f < 0 ∨ (b.length : Int) ≤ f) : wr zs b f false = zs ++ b := by
  have e : tk f false b.length false = b.length := by unfold tk; rw [if_neg (by simp), if_pos h]
  unfold wr
  rw [e, Int.toNat_natCast, List.take_length]
theorem wr_down (zs b : List Int) (f : Int) : wr zs b f true = zs := by simp [wr, tk]
theorem ok_yes (f n : Int) (h : f < 0 ∨ n ≤ f) : okB f false n = true := by simpa [okB] using h
theorem ok_no (f n : Int) (h : 0 ≤ f ∧ f < n) : okB f false n = false := by simp [okB] <;> omega

set_option maxHeartbeats 16000000 in
set_option maxRecDepth 100000 in
theorem burns_walk (A0 : Option Addr) (c0 : Nat) (l0 : List Int) (a1 : Int) (w : World) (hr0 : Kd.C (Kd.int .u8) w A0 l0.length l0) (hc0 : l0.length ≤ c0) :
    Calls Try.prog 6 #[.slice A0 l0.length c0, .int .u8 a1] w fun e w' => e = .returned (.bool true) ∧ Below w.heap.size w w' := by
  have HA := Aside0.mk (Arg.ofC hr0 hc0)
  clear hr0 hc0

  by_cases c1 : l0.length = 0 ∨ 200 < l0.length
  · by_cases c2 : l0.length = 0
    · have hq1 : decide ((l0.length : Int) = 0) = true := decide_eq_true (by omega)
      have hq3 : ((l0.length : Int) == 0) = true := by rw [beq_iff_eq]; omega
      have hq4 := c2
      clear c1
      go_enter Try.func6, Try.ntmps6
      go_wp2_with fail
      refine (answers_calls w).mono ?_
      rintro e w1 ⟨rfl, hb⟩
      have HB := Aside0.mk hb
      clear hb
      go_wp2
      go_ret
      exact ⟨rfl, HB.out⟩
    · have hq1 : decide ((l0.length : Int) = 0) = false := decide_eq_false (by omega)
      have hq3 : ((l0.length : Int) == 0) = false := by rw [beq_eq_false_iff_ne]; omega
      have hq2 : decide ((l0.length : Int) > 200) = true := decide_eq_true (by omega)
      clear c1
      go_enter Try.func6, Try.ntmps6
      go_wp2_with fail
      refine (answers_calls w).mono ?_
      rintro e w1 ⟨rfl, hb⟩
      have HB := Aside0.mk hb
      clear hb
      go_wp2
      go_ret
      exact ⟨rfl, HB.out⟩
  · have HL := Aside0.mk (show 1 ≤ l0.length ∧ l0.length ≤ 200 by omega)
    have hq1 : decide ((l0.length : Int) = 0) = false := decide_eq_false (by omega)
    have hq2 : decide ((l0.length : Int) > 200) = false := decide_eq_false (by omega)
    have hq3 : (((l0.length : Int)) == 0) = false := by rw [beq_eq_false_iff_ne]; omega
    have hw1 : IntKind.i64.wrap ((l0.length : Int) + 1) = (l0.length : Int) + 1 := IntWalk.i64_in _ (by omega)
    have hw2 : IntKind.i64.wrap (l0.length : Int) = (l0.length : Int) := IntWalk.i64_in _ (by omega)
    have hw3 : IntKind.i64.wrap ((l0.length : Int) + 1 - 1) = (l0.length : Int) := by rw [show (l0.length : Int) + 1 - 1 = l0.length by omega]; exact hw2
    clear c1
    obtain ⟨k, hk⟩ : ∃ k, (Int.tmod a1 2 == 0) = k := ⟨_, rfl⟩
    go_enter Try.func6, Try.ntmps6
    go_wp2_with fail
    refine (L_new (w0 := w) (Below.refl _ w)).mono ?_
    rintro e w1 ⟨p, rfl, ht, hp, hb, hB⟩
    have Tt1 := Aside0.mk ht
    have B1 := Aside0.mk hB
    clear ht hp hb hB
    go_wp2_with fail
    refine (L_new (w0 := w) B1.out).mono ?_
    rintro e w2 ⟨q, rfl, hu, hq, hb, hB⟩
    have hpq : p < w1.heap.size := Tt1.out.st.lt
    have Tu2 := Aside0.mk hu
    have Tt2 := Aside0.mk (Tt1.out.below hb)
    have AP2 := Aside0.mk (show Ap p none q none from ⟨by omega, by simp, by simp, fun b e => by cases e⟩)
    have B2 := Aside0.mk hB
    clear hu hq hb hB hpq Tt1 B1
    go_wp2_with fail
    refine (L_fuse (w0 := w) Tt2.out B2.out ((l0.length : Int) + 1)).mono ?_
    rintro e w3 ⟨rfl, hd⟩
    have Tt3 := Aside0.mk (show Tp w.heap.size 44 w3 p none ([]) (0) ((l0.length : Int) + 1) false from by have h := hd.tp; rw [show max ((l0.length : Int) + 1) 0 = (l0.length : Int) + 1 from by omega] at h; exact h)
    have ho := Tu2.out.other AP2.out hd.tc hd.gg
    have Tu3 := Aside0.mk ho.1
    have AP3 := Aside0.mk ho.2
    have B3 := Aside0.mk hd.be
    clear hd ho Tt2 Tu2 AP2 B2
    go_wp2_with fail
    refine (L_fuse (w0 := w) Tu3.out B3.out (l0.length : Int)).mono ?_
    rintro e w4 ⟨rfl, hd⟩
    have Tu4 := Aside0.mk (show Tp w.heap.size 44 w4 q none ([]) (0) ((l0.length : Int)) false from by have h := hd.tp; rw [show max ((l0.length : Int)) 0 = (l0.length : Int) from by omega] at h; exact h)
    have ho := Tt3.out.other AP3.out.symm hd.tc hd.gg
    have Tt4 := Aside0.mk ho.1
    have AP4 := Aside0.mk ho.2.symm
    have B4 := Aside0.mk hd.be
    clear hd ho Tu3 Tt3 AP3 B3
    cases k with
    | true =>
      go_wp2_with fail
      refine (L_write (w0 := w) Tt4.out B4.out (HA.out.at B4.out _ Tt4.out.hp) (by have := HL.out; omega) (by have := HL.out; simp; omega)).mono ?_
      rintro e w5 ⟨rfl, g5, hd⟩
      have Tt5 := Aside0.mk (show Tp w.heap.size 44 w5 p g5 (l0) (0) (1) false from by have h := hd.tp; rw [wr_all [] l0 _ (Or.inr (by omega)), List.nil_append, show fz ((l0.length : Int) + 1) false l0.length = 1 from by unfold fz; rw [if_neg (by simp), if_neg (by omega), if_pos (by omega)]; omega, show dn ((l0.length : Int) + 1) false l0.length = false from by (simp [dn] <;> omega)] at h; exact h)
      have ho := Tu4.out.other AP4.out hd.tc hd.gg
      have Tu5 := Aside0.mk ho.1
      have AP5 := Aside0.mk ho.2
      have B5 := Aside0.mk hd.be
      clear hd ho Tt4 Tu4 AP4 B4
      go_wp2_with fail
      refine (L_write (w0 := w) Tu5.out B5.out (HA.out.at B5.out _ Tu5.out.hp) (by have := HL.out; omega) (by have := HL.out; simp; omega)).mono ?_
      rintro e w6 ⟨rfl, g6, hd⟩
      have Tu6 := Aside0.mk (show Tp w.heap.size 44 w6 q g6 (l0) (0) (0) false from by have h := hd.tp; rw [wr_all [] l0 _ (Or.inr (by omega)), List.nil_append, show fz (l0.length : Int) false l0.length = 0 from by unfold fz; rw [if_neg (by simp), if_neg (by omega), if_pos (by omega)]; omega, show dn (l0.length : Int) false l0.length = false from by simp [dn]] at h; exact h)
      have ho := Tt5.out.other AP5.out.symm hd.tc hd.gg
      have Tt6 := Aside0.mk ho.1
      have AP6 := Aside0.mk ho.2.symm
      have B6 := Aside0.mk hd.be
      clear hd ho Tu5 Tt5 AP5 B5
      have e1 : er 1 false 1 = 0 := by decide
      have e2 : er 0 false 1 = 8 := by decide
      go_wp2_with fail
      refine (L_sync (w0 := w) Tt6.out B6.out (by omega)).mono ?_
      rintro e w7 ⟨rfl, hd⟩
      have Tt7 := Aside0.mk (show Tp w.heap.size 44 w7 p g5 (l0) ((l0.length : Int)) (0) false from by exact hd.tp)
      have ho := Tu6.out.other AP6.out hd.tc hd.gg
      have Tu7 := Aside0.mk ho.1
      have AP7 := Aside0.mk ho.2
      have B7 := Aside0.mk hd.be
      clear hd ho Tt6 Tu6 AP6 B6
      go_wp2_with fail
      refine (L_sync (w0 := w) Tu7.out B7.out (by omega)).mono ?_
      rintro e w8 ⟨rfl, hd⟩
      have Tu8 := Aside0.mk (show Tp w.heap.size 44 w8 q g6 (l0) (0) (0) true from by exact hd.tp)
      have ho := Tt7.out.other AP7.out.symm hd.tc hd.gg
      have Tt8 := Aside0.mk ho.1
      have AP8 := Aside0.mk ho.2.symm
      have B8 := Aside0.mk hd.be
      clear hd ho Tu7 Tt7 AP7 B7
      go_wp2_with fail
      refine (L_write (w0 := w) Tu8.out B8.out (HA.out.at B8.out _ Tu8.out.hp) (by omega) (by have := HL.out; simp; omega)).mono ?_
      rintro e w9 ⟨rfl, g9, hd⟩
      have Tu9 := Aside0.mk (show Tp w.heap.size 44 w9 q g9 (l0) (0) (0) true from by have h := hd.tp; rw [wr_down] at h; simpa [fz, dn] using h)
      have ho := Tt8.out.other AP8.out.symm hd.tc hd.gg
      have Tt9 := Aside0.mk ho.1
      have AP9 := Aside0.mk ho.2.symm
      have B9 := Aside0.mk hd.be
      clear hd ho Tu8 Tt8 AP8 B8
      go_wp2_with fail
      refine (L_crash (w0 := w) Tu9.out B9.out 0 (by omega) (by simp) (by have := HL.out; simp <;> omega) (by omega)).mono ?_
      rintro e w10 ⟨rfl, hd⟩
      have Tu10 := Aside0.mk (show Tp w.heap.size 44 w10 q g9 ([]) (0) (-1) false from by have h := hd.tp; rw [show (0 + min (max 0 0) (((l0 : List Int).length : Int) - 0)) = 0 from by omega] at h; simpa using h)
      have ho := Tt9.out.other AP9.out.symm hd.tc hd.gg
      have Tt10 := Aside0.mk ho.1
      have AP10 := Aside0.mk ho.2.symm
      have B10 := Aside0.mk hd.be
      clear hd ho Tu9 Tt9 AP9 B9
      go_wp2_with fail
      refine (answers_calls w10).mono ?_
      rintro e w11 ⟨rfl, hb⟩
      have Tt11 := Aside0.mk (Tt10.out.below hb)
      have Tu11 := Aside0.mk (Tu10.out.below hb)
      have B11 := Aside0.mk (below_on B10.out hb)
      clear hb Tt10 Tu10 B10
      have e8 : er 0 true l0.length = 8 := by simp [er, okB]
      go_wp2_with fail
      refine (sure_calls _ _ _ _ _ _ _ Tt11.out.st).mono ?_
      rintro e w12 ⟨rfl, rfl⟩
      go_wp2_with fail
      refine (L_bytes (w0 := w) Tu11.out B11.out (by simp)).mono ?_
      rintro e w13 ⟨ao, cap, bb, rfl, h1, h2, h3, h4, h5⟩
      have Tu13 := Aside0.mk h3
      have B13 := Aside0.mk h5
      clear h1 h2 h3 h4 h5
      go_wp2_with fail
      refine (L_write (w0 := w) Tu13.out B13.out (HA.out.at B13.out _ Tu13.out.hp) (by omega) (by have := HL.out; simp; omega)).mono ?_
      rintro e w14 ⟨rfl, g14, hd⟩
      have B14 := Aside0.mk hd.be
      clear hd
      have e0 : er (-1) false l0.length = 0 := by simp [er, okB]
      go_wp2
      go_ret
      exact ⟨rfl, B14.out⟩
    | false =>
      have e1 : er ((l0.length : Int) + 1) false ((l0.length : Int) + 1) = 0 := by unfold er; rw [ok_yes _ _ (Or.inr (by omega))]; rfl
      have e2 : er (l0.length : Int) false ((l0.length : Int) + 1) = 8 := by unfold er; rw [ok_no _ _ (by omega)]; rfl
      go_wp2_with fail
      refine (L_swap (w0 := w) Tt4.out B4.out (HA.out.at B4.out _ Tt4.out.hp) (by have := HL.out; omega) (by have := HL.out; omega)).mono ?_
      rintro e w15 ⟨rfl, g15, hd⟩
      have Tt15 := Aside0.mk (show Tp w.heap.size 44 w15 p g15 (l0) ((l0.length : Int)) (0) false from by have h := hd.tp; unfold sw sy at h; rw [ok_yes _ _ (Or.inr (by omega)), if_pos rfl, if_pos rfl, show fz ((l0.length : Int) + 1) false ((l0.length : Int) + 1) = 0 from by unfold fz; rw [if_neg (by simp), if_neg (by omega), if_pos (by omega)]; omega, show dn ((l0.length : Int) + 1) false ((l0.length : Int) + 1) = false from by simp [dn]] at h; exact h)
      have ho := Tu4.out.other AP4.out hd.tc hd.gg
      have Tu15 := Aside0.mk ho.1
      have AP15 := Aside0.mk ho.2
      have B15 := Aside0.mk hd.be
      clear hd ho Tt4 Tu4 AP4 B4
      go_wp2_with fail
      refine (L_swap (w0 := w) Tu15.out B15.out (HA.out.at B15.out _ Tu15.out.hp) (by have := HL.out; omega) (by have := HL.out; omega)).mono ?_
      rintro e w16 ⟨rfl, g16, hd⟩
      have Tu16 := Aside0.mk (show Tp w.heap.size 44 w16 q g16 ([]) (0) (0) true from by have h := hd.tp; unfold sw sy at h; rw [ok_no _ _ (by omega), if_neg (by simp), if_neg (by simp), show fz (l0.length : Int) false ((l0.length : Int) + 1) = 0 from by unfold fz; rw [if_neg (by simp), if_neg (by omega), if_neg (by omega)], show dn (l0.length : Int) false ((l0.length : Int) + 1) = true from by (simp [dn] <;> omega)] at h; exact h)
      have ho := Tt15.out.other AP15.out.symm hd.tc hd.gg
      have Tt16 := Aside0.mk ho.1
      have AP16 := Aside0.mk ho.2.symm
      have B16 := Aside0.mk hd.be
      clear hd ho Tu15 Tt15 AP15 B15
      go_wp2_with fail
      refine (L_write (w0 := w) Tu16.out B16.out (HA.out.at B16.out _ Tu16.out.hp) (by omega) (by have := HL.out; simp; omega)).mono ?_
      rintro e w17 ⟨rfl, g17, hd⟩
      have Tu17 := Aside0.mk (show Tp w.heap.size 44 w17 q g17 (([] : List Int)) (0) (0) true from by have h := hd.tp; rw [wr_down] at h; simpa [fz, dn] using h)
      have ho := Tt16.out.other AP16.out.symm hd.tc hd.gg
      have Tt17 := Aside0.mk ho.1
      have AP17 := Aside0.mk ho.2.symm
      have B17 := Aside0.mk hd.be
      clear hd ho Tu16 Tt16 AP16 B16
      go_wp2_with fail
      refine (L_crash (w0 := w) Tu17.out B17.out 0 (by omega) (by simp) (by have := HL.out; simp <;> omega) (by omega)).mono ?_
      rintro e w18 ⟨rfl, hd⟩
      have Tu18 := Aside0.mk (show Tp w.heap.size 44 w18 q g17 ([]) (0) (-1) false from by have h := hd.tp; rw [show (0 + min (max 0 0) (((([] : List Int) : List Int).length : Int) - 0)) = 0 from by omega] at h; simpa using h)
      have ho := Tt17.out.other AP17.out.symm hd.tc hd.gg
      have Tt18 := Aside0.mk ho.1
      have AP18 := Aside0.mk ho.2.symm
      have B18 := Aside0.mk hd.be
      clear hd ho Tu17 Tt17 AP17 B17
      go_wp2_with fail
      refine (answers_calls w18).mono ?_
      rintro e w19 ⟨rfl, hb⟩
      have Tt19 := Aside0.mk (Tt18.out.below hb)
      have Tu19 := Aside0.mk (Tu18.out.below hb)
      have B19 := Aside0.mk (below_on B18.out hb)
      clear hb Tt18 Tu18 B18
      have e8 : er 0 true l0.length = 8 := by simp [er, okB]
      go_wp2_with fail
      refine (sure_calls _ _ _ _ _ _ _ Tt19.out.st).mono ?_
      rintro e w20 ⟨rfl, rfl⟩
      go_wp2_with fail
      refine (L_bytes (w0 := w) Tu19.out B19.out (by simp)).mono ?_
      rintro e w21 ⟨ao, cap, bb, rfl, h1, h2, h3, h4, h5⟩
      have Tu21 := Aside0.mk h3
      have B21 := Aside0.mk h5
      clear h1 h2 h3 h4 h5
      go_wp2_with fail
      refine (L_write (w0 := w) Tu21.out B21.out (HA.out.at B21.out _ Tu21.out.hp) (by omega) (by have := HL.out; simp; omega)).mono ?_
      rintro e w22 ⟨rfl, g22, hd⟩
      have B22 := Aside0.mk hd.be
      clear hd
      have e0 : er (-1) false l0.length = 0 := by simp [er, okB]
      go_wp2
      go_ret
      exact ⟨rfl, B22.out⟩

def exequaturlaw10_TapeBurns.f (l0 : List Int) (a1 : Int) : Option Bool := some true
theorem exequaturlaw10_TapeBurns.calls (A0 : Option Addr) (c0 : Nat) (l0 : List Int) (a1 : Int) (r : Bool) (w : World) (hr0 : Kd.C (Kd.int .u8) w A0 l0.length l0) (hc0 : l0.length ≤ c0) (h : exequaturlaw10_TapeBurns.f l0 a1 = some r) :
    Calls Try.prog 6 #[.slice A0 l0.length c0, .int .u8 a1] w fun e w' => e = .returned (.bool r) ∧ Below w.heap.size w w' := by
  obtain rfl := Option.some.inj h
  exact burns_walk A0 c0 l0 a1 w hr0 hc0
end Go.Proofs.Ytnfnalalpligiaa.X
