/- client.Client once more: the block of the redirects that it tells is new, and nothing else's. -/
import Derived.Test.YtkcgalpagpgfhaaDoorHClient
namespace Go.Proofs.YtkcgalpagpgfhaaDoor.X
open Go.RowKit Go.Proofs.YtkcgalpagpgfhaaDoorW.PrintWords Go.Proofs.YtkcgalpagpgfhaaDoorW.PrintLast Go.Proofs.YtkcgalpagpgfhaaDoorW.PrintMore Go.Proofs.YtkcgalpagpgfhaaDoor.Spec
set_option linter.unusedVariables false
set_option linter.unusedSimpArgs false
set_option maxHeartbeats 2000000 in
set_option maxRecDepth 100000 in
theorem clip_own (g n c : Nat) (h : n ≤ c) (h63 : n ≤ 1000000000) (w : World) :
    Calls Tryd.prog 21 #[.slice (some ⟨g, 0, none⟩) n c] w fun e w' => e = .returned (.slice (some ⟨g, 0, none⟩) n n) ∧ w' = w := by
  go_enter Tryd.func21, Tryd.ntmps21
  go_wp2
  go_ret
  exact ⟨rfl, rfl⟩
theorem own_one {w : World} {base : Nat} {v : Value} {s : ByteArray} {ok : Nat → Prop} (h : Kd.R Kd.string 9 w base ok v [s]) : ∃ g c, v = .slice (some ⟨g, 0, none⟩) 1 c ∧ base ≤ g ∧ 1 ≤ c ∧ (∃ cur, w.heap[g]? = some (.cells cur 9 (0, 0)) ∧ cur[0]? = some (.string s)) := by
  obtain ⟨inner, ho⟩ := Kd.R_own h
  obtain ⟨hl, h' | ⟨g, cap, cur, rfl, hb, hg, hn, hm, hsz, ht⟩⟩ := ho
  · exact absurd h'.2 (by simp)
  · exact ⟨g, cap, rfl, hb, hn, ⟨cur, hg, (blk_cell hg 0).symm.trans (Kd.R_cell (enc := Value.string) (h1 := fun _ => rfl) ByteArray.empty h 0 (Int.le_refl 0) (by simp)).1⟩⟩
set_option maxHeartbeats 4000000 in
set_option maxRecDepth 100000 in
theorem client_own (a0_0 a0_1 a0_2 : ByteArray) (A0_3 : Option Addr) (c0_3 : Nat) (l0_3 : List (S25)) (A0_4 : Option Addr) (c0_4 : Nat) (l0_4 : List (S40)) (a1 s : ByteArray) (w : World) (hr0_3 : Kd.C k25 w A0_3 l0_3.length l0_3) (hc0_3 : l0_3.length ≤ c0_3) (hf : 0 ≤ findC l0_3 a1) (x : S25) (hx : rd_T25 l0_3 (findC l0_3 a1) = x) (h2 : x.f2 = [s]) :
    Calls Tryd.prog 9 #[.agg #[.string a0_0, .string a0_1, .string a0_2, .slice A0_3 l0_3.length c0_3, .slice A0_4 l0_4.length c0_4], .string a1] w fun e w' => ∃ g : Nat, e = .returned (.tuple #[.agg #[.string x.f0, .string x.f1, .slice (some ⟨g, 0, none⟩) 1 1], .bool true]) ∧ w.heap.size ≤ g ∧ (∃ cur, w'.heap[g]? = some (.cells cur 9 (0, 0)) ∧ cur[0]? = some (.string s)) ∧ Below w.heap.size w w' := by
  have hu := Tryd.underlying25
  have hu2 := Tryd.underlying31
  have HR := Aside0.mk hr0_3
  have hir := idxOf_range (fun x : S25 => x.f0.toList == a1.toList) l0_3
  clear hr0_3
  go_enter Tryd.func9, Tryd.ntmps9
  go_wp2_with fail
  refine (find_client A0_3 c0_3 l0_3 a1 (w.heap.size + 1) _ (Kd.C_alloc (Kd.C_alloc (Kd.C_alloc HR.out _) _) _) hc0_3 (by
    rw [(below_alloc (Below.refl _ (((w.alloc _).alloc _))) _).cell (p := ⟨w.heap.size + 1, 0, none⟩) (by simp)]
    simp)).mono ?_
  rintro e w4 ⟨rfl, hb4⟩
  have B0 := below_then (below_alloc (below_alloc (below_alloc (Below.refl _ w) (.cells #[.string a0_0, .string a0_1, .string a0_2, .slice A0_3 l0_3.length c0_3, .slice A0_4 l0_4.length c0_4] 31)) (.cells #[.string a1] 9)) (.cells #[.string ⟨#[]⟩, .string ⟨#[]⟩, .slice none 0 0] 25)) (by simp; omega) hb4
  obtain ⟨b0, _, b2, b3⟩ := boxes3 w (.cells #[.string a0_0, .string a0_1, .string a0_2, .slice A0_3 l0_3.length c0_3, .slice A0_4 l0_4.length c0_4] 31) (.cells #[.string a1] 9) (.cells #[.string ⟨#[]⟩, .string ⟨#[]⟩, .slice none 0 0] 25)
  have c0 := blk_below b0 hb4
  have c2 := blk_below b2 hb4
  have hsz := hb4.size
  rw [b3] at hsz
  have BK0 := Aside0.mk c0
  have BK2 := Aside0.mk c2
  have HB4 := Aside0.mk B0
  have e0 : w4.cell? ⟨w.heap.size, 3, none⟩ = some (.slice A0_3 l0_3.length c0_3) := (blk_cell c0 3).trans rfl
  have f0 : w4.cell? ⟨w.heap.size + 1 + 1, 0, none⟩ = some (.string (⟨#[]⟩ : ByteArray)) := (blk_cell c2 0).trans rfl
  have f1 : w4.cell? ⟨w.heap.size + 1 + 1, 1, none⟩ = some (.string (⟨#[]⟩ : ByteArray)) := (blk_cell c2 1).trans rfl
  have f2 : w4.cell? ⟨w.heap.size + 1 + 1, 2, none⟩ = some (.slice none 0 0) := (blk_cell c2 2).trans rfl
  have g0 := blk_frozen c2 0
  have g1 := blk_frozen c2 1
  have g2 := blk_frozen c2 2
  clear hb4 B0 c0 c2 b0 b2 b3
  have HI := Aside0.mk (show findC l0_3 a1 = idxOf (fun x : S25 => x.f0.toList == a1.toList) l0_3 from rfl)
  generalize idxOf (fun x : S25 => x.f0.toList == a1.toList) l0_3 = i at HI hir ⊢
  have hneg : ¬ i < 0 := by rw [← HI.out]; omega
  have HX := Aside0.mk hx
  have HX2 := Aside0.mk h2
  clear hf hx h2
  have hn : decide (i < 0) = false := decide_eq_false hneg
  have p0 : 0 ≤ i := by omega
  have q0 : i < (l0_3.length : Int) := hir.2
  obtain ⟨ad, A2, c2, rfl, hx0, hx1, hx2, hl2, hg2⟩ := at_T25 (Kd.C_below HR.out HB4.out) i p0 q0
  have HX1 := HX.out
  rw [HI.out] at HX1
  rw [HX1] at hx0 hx1 hx2 hl2 hg2
  clear HX HX1
  have HG2 := Aside0.mk hg2
  have hcl : slices_Clone_string_string.f x.f2 = some x.f2 := by unfold slices_Clone_string_string.f; rw [if_pos (by rw [HX2.out]; show 1 ≤ 1000000000; omega)]
  clear hg2
  go_wp2_with fail
  refine (slices_Clone_string_string.calls A2 c2 x.f2 x.f2 _ (Kd.C_alloc HG2.out _) hl2 hcl).mono ?_
  rintro e w6 ⟨v6, rfl, ho6, hb6⟩
  rw [HX2.out] at ho6
  obtain ⟨g6, c3, rfl, hg6, hc3, ⟨cur6, hcur6, hce6⟩⟩ := own_one ho6
  have HC6 := Aside0.mk hcur6
  have HE6 := Aside0.mk hce6
  have hg6' : w4.heap.size + 1 ≤ g6 := by simpa using hg6
  clear hcur6 hce6 hg6
  have BN := Aside0.mk (blk_below (blk_new w4 (.cells #[.string x.f0, .string x.f1, .slice A2 x.f2.length c2] 25)) hb6)
  have BK2' := Aside0.mk (blk_below (blk_alloc BK2.out _) hb6)
  have HB6 := Aside0.mk (below_then (below_alloc HB4.out (.cells #[.string x.f0, .string x.f1, .slice A2 x.f2.length c2] 25)) (by simp; omega) hb6)
  clear ho6 hb6
  have hs7 := HB6.out.size
  have hs6 := blk_lt BN.out
  go_wp2_with fail
  refine (clip_own g6 1 c3 hc3 (by decide) w6).mono ?_
  rintro e w7 ⟨rfl, rfl⟩
  have BN7 := BN
  have BK7 := BK2'
  have HB7 := HB6
  have ne : w4.heap.size ≠ w.heap.size + 1 + 1 := by omega
  have n0 : w7.cell? ⟨w4.heap.size, 0, none⟩ = some (.string x.f0) := (blk_cell BN7.out 0).trans rfl
  have n1 : w7.cell? ⟨w4.heap.size, 1, none⟩ = some (.string x.f1) := (blk_cell BN7.out 1).trans rfl
  have n2 : w7.cell? ⟨w4.heap.size, 2, none⟩ = some (.slice A2 x.f2.length c2) := (blk_cell BN7.out 2).trans rfl
  have m2 := blk_frozen BN7.out 2
  have k0 : w7.cell? ⟨w.heap.size + 1 + 1, 0, none⟩ = some (.string (⟨#[]⟩ : ByteArray)) := (blk_cell BK7.out 0).trans rfl
  have k1 : w7.cell? ⟨w.heap.size + 1 + 1, 1, none⟩ = some (.string (⟨#[]⟩ : ByteArray)) := (blk_cell BK7.out 1).trans rfl
  have k2 : w7.cell? ⟨w.heap.size + 1 + 1, 2, none⟩ = some (.slice none 0 0) := (blk_cell BK7.out 2).trans rfl
  have q0' := blk_frozen BK7.out 0
  have q1' := blk_frozen BK7.out 1
  have q2' := blk_frozen BK7.out 2
  go_wp2
  refine bodyPost_ret (results_ct rfl _ _ (w.heap.size + 1 + 1) 25 #[.string x.f0, .string x.f1, .slice (some ⟨g6, 0, none⟩) 1 1] (0, 0) _ rfl (by refine fillR (cs := ?cs_) rfl rfl ?h_ ?l_; (case h_ => exact (blk_far (p := ⟨w4.heap.size, 2, none⟩) BK7.out (fun e => ne e.symm) _)); (case l_ => rfl)) Tryd.underlying25 rfl (by kernel_rfl)) rfl ?_
  have n1 : g6 ≠ w.heap.size + 1 + 1 := by omega
  have n2 : g6 ≠ w4.heap.size := by omega
  refine ⟨g6, rfl, by omega, ⟨cur6, blk_far (blk_far (blk_far (blk_far HC6.out n2 _) n1 _) n1 _) n1 _, HE6.out⟩, below_set (below_set (below_set (below_set HB7.out (by omega)) (by omega)) (by omega)) (by omega)⟩
end Go.Proofs.YtkcgalpagpgfhaaDoor.X
