/- ClientOwn: its walk. -/
import Derived.Test.YtkcgalpagpgfhaaDoorHPure
import Derived.Test.YtkcgalpagpgfhaaDoorHOwn
namespace Go.Proofs.YtkcgalpagpgfhaaDoor.X
open Go.RowKit Go.Proofs.YtkcgalpagpgfhaaDoorW.PrintWords Go.Proofs.YtkcgalpagpgfhaaDoorW.PrintLast Go.Proofs.YtkcgalpagpgfhaaDoorW.PrintMore Go.Proofs.YtkcgalpagpgfhaaDoor.Spec
set_option linter.unusedVariables false
set_option linter.unusedSimpArgs false
def exequaturlaw16_ClientOwn.f (a0 a1 : ByteArray) : Option Bool := if a0.size ≤ 1048576 ∧ a1.size ≤ 1048576 then some true else none
def ow (a0 a1 : ByteArray) : S25 := ⟨a0, ⟨#[]⟩, [a1]⟩
theorem ow_find (a0 a1 : ByteArray) : findC [ow a0 a1] a0 = 0 := by unfold findC; rw [idxOf, if_pos (by simp [ow])]
theorem ow_boxes (w : World) (a b c : Obj) : (((w.alloc a).alloc b).alloc c).heap[w.heap.size]? = some a ∧ (((w.alloc a).alloc b).alloc c).heap[w.heap.size + 1]? = some b ∧ (((w.alloc a).alloc b).alloc c).heap[w.heap.size + 1 + 1]? = some c ∧ (((w.alloc a).alloc b).alloc c).heap.size = w.heap.size + 1 + 1 + 1 := boxes3 w a b c
theorem ow_row {w : World} {b : Nat} {s : ByteArray} (h : w.heap[b]? = some (.cells #[.string s] 9 (0, 0))) : Kd.C Kd.string w (some ⟨b, 0, none⟩) 1 [s] :=
  Kd.C_of_reads (d := ByteArray.empty) ⟨rfl, by decide, fun _ => ⟨_, rfl, fun j hj => by
    rw [Addr.add_lit, Nat.zero_add, blk_cell h]
    match j, hj with
    | 0, _ => rfl⟩⟩
theorem own_call (a0 a1 : ByteArray) (b c : Nat) (u : World) (h0 : u.heap[b]? = some (.cells #[.string a1] 9 (0, 0))) (h1 : u.heap[c]? = some (.cells #[.string a0, .string ⟨#[]⟩, .slice (some ⟨b, 0, none⟩) 1 1] 25 (0, 0))) :
    Calls Tryd.prog 9 #[.agg #[.string ⟨#[]⟩, .string ⟨#[]⟩, .string ⟨#[]⟩, .slice (some ⟨c, 0, none⟩) 1 1, .slice none 0 0], .string a0] u fun e u' => ∃ g : Nat, e = .returned (.tuple #[.agg #[.string a0, .string ⟨#[]⟩, .slice (some ⟨g, 0, none⟩) 1 1], .bool true]) ∧ u.heap.size ≤ g ∧ (∃ cur, u'.heap[g]? = some (.cells cur 9 (0, 0)) ∧ cur[0]? = some (.string a1)) ∧ Below u.heap.size u u' := by
  have hK : k25.K u (ow a0 a1) [.string a0, .string ⟨#[]⟩, .slice (some ⟨b, 0, none⟩) 1 1] := k25_mk u (ow a0 a1) (A2 := some ⟨b, 0, none⟩) (c2 := 1) (Nat.le_refl 1) (ow_row h0)
  have hC := row1 k25 (x := ow a0 a1) (c := [.string a0, .string ⟨#[]⟩, .slice (some ⟨b, 0, none⟩) 1 1]) h1 hK
  have hf := ow_find a0 a1
  exact client_own ⟨#[]⟩ ⟨#[]⟩ ⟨#[]⟩ (some ⟨c, 0, none⟩) 1 [ow a0 a1] none 0 [] a0 a1 u hC (Nat.le_refl 1) (by rw [hf]; decide) (ow a0 a1) (by rw [hf]; rfl) rfl
set_option maxHeartbeats 8000000 in
set_option maxRecDepth 100000 in
theorem exequaturlaw16_ClientOwn.calls (a0 a1 : ByteArray) (r : Bool) (w : World) (h : exequaturlaw16_ClientOwn.f a0 a1 = some r) (hG : GOK w := by first | assumption | exact hG | exact GOK.drewN _ hG | exact GOK.below hG (by repeat (first | (with_reducible first | exact HB.out | apply below_alloc | apply pw_below_drewN | apply below_drew1 | refine below_set ?_ (Aside0.out (by assumption))) | exact HB.out))) :
    Calls Tryd.prog 4 #[.string a0, .string a1] w fun e w' => e = .returned (.bool r) ∧ Below w.heap.size w w' := by
  have hu := Tryd.underlying31
  have hu2 := Tryd.underlying25
  unfold exequaturlaw16_ClientOwn.f at h
  split at h
  case isFalse => cases h
  rename_i hs
  obtain rfl := Option.some.inj h
  obtain ⟨z0, z1⟩ := hs
  have hx1 : (9223372036854775807 < a1.size + 1) = False := eq_false (by omega)
  have HG := Aside0.mk hG
  clear h hG
  obtain ⟨b0, b1, b2, b3⟩ := ow_boxes w (.cells #[.string a1] 9) (.cells #[.string a0, .string ⟨#[]⟩, .slice (some ⟨w.heap.size, 0, none⟩) 1 1] 25) (.cells #[.string ⟨#[]⟩, .string ⟨#[]⟩, .string ⟨#[]⟩, .slice (some ⟨w.heap.size + 1, 0, none⟩) 1 1, .slice none 0 0] 31)
  have HB0 := Aside0.mk (below_alloc (below_alloc (below_alloc (Below.refl _ w) (.cells #[.string a1] 9)) (.cells #[.string a0, .string ⟨#[]⟩, .slice (some ⟨w.heap.size, 0, none⟩) 1 1] 25)) (.cells #[.string ⟨#[]⟩, .string ⟨#[]⟩, .string ⟨#[]⟩, .slice (some ⟨w.heap.size + 1, 0, none⟩) 1 1, .slice none 0 0] 31))
  have R0 := Aside0.mk b0
  have R1 := Aside0.mk b1
  have R2 := Aside0.mk b2
  have HSZ := Aside0.mk b3
  clear b0 b1 b2 b3
  go_enter Tryd.func4, Tryd.ntmps4
  go_wp2_with fail
  refine (own_call a0 a1 w.heap.size (w.heap.size + 1) _ R0.out R1.out).mono ?_
  rintro e u1 ⟨g1, rfl, hg1, ⟨cur1, hc1, hd1⟩, hb1⟩
  rw [HSZ.out] at hg1
  have HB1 := Aside0.mk (below_step HB0.out hb1)
  have hs1 := hb1.size
  rw [HSZ.out] at hs1
  have r0 := blk_below R0.out hb1
  have r1 := blk_below R1.out hb1
  have r2 := blk_below R2.out hb1
  have HB1' := Aside0.mk hb1
  have hl1 := blk_lt hc1
  have c10 := (blk_cell hc1 0).trans hd1
  have f10 := blk_frozen hc1 0
  have e0 : u1.cell? ⟨w.heap.size + 1 + 1, 0, none⟩ = some (.string (⟨#[]⟩ : ByteArray)) := (blk_cell r2 0).trans rfl
  have e1 : u1.cell? ⟨w.heap.size + 1 + 1, 1, none⟩ = some (.string (⟨#[]⟩ : ByteArray)) := (blk_cell r2 1).trans rfl
  have e2 : u1.cell? ⟨w.heap.size + 1 + 1, 2, none⟩ = some (.string (⟨#[]⟩ : ByteArray)) := (blk_cell r2 2).trans rfl
  have e3 : u1.cell? ⟨w.heap.size + 1 + 1, 3, none⟩ = some (.slice (some ⟨w.heap.size + 1, 0, none⟩) 1 1) := (blk_cell r2 3).trans rfl
  have e4 : u1.cell? ⟨w.heap.size + 1 + 1, 4, none⟩ = some (.slice none 0 0) := (blk_cell r2 4).trans rfl
  have P0_ := fun (h : g1 ≠ w.heap.size) => blk_alloc (blk_far r0 (p := ⟨g1, 0, none⟩) (Ne.symm h) (.string (a1 ++ ⟨#[120]⟩))) (.cells #[.string a0, .string ⟨#[]⟩, .slice (some ⟨g1, 0, none⟩) 1 1] 25)
  have P1_ := fun (h : g1 ≠ w.heap.size + 1) => blk_alloc (blk_far r1 (p := ⟨g1, 0, none⟩) (Ne.symm h) (.string (a1 ++ ⟨#[120]⟩))) (.cells #[.string a0, .string ⟨#[]⟩, .slice (some ⟨g1, 0, none⟩) 1 1] 25)
  have P2_ := fun (h : g1 ≠ w.heap.size + 1 + 1) => blk_alloc (blk_far r2 (p := ⟨g1, 0, none⟩) (Ne.symm h) (.string (a1 ++ ⟨#[120]⟩))) (.cells #[.string a0, .string ⟨#[]⟩, .slice (some ⟨g1, 0, none⟩) 1 1] 25)
  have HB2 := Aside0.mk (below_alloc (below_set HB1.out (g := g1) (j := 0) (v := .string (a1 ++ ⟨#[120]⟩)) (by omega)) (.cells #[.string a0, .string ⟨#[]⟩, .slice (some ⟨g1, 0, none⟩) 1 1] 25))
  clear hb1 hc1 hd1 r0 r1 r2
  have ng1 : g1 ≠ u1.heap.size := by omega
  have ng2 : g1 ≠ w.heap.size + 1 + 1 := by omega
  have ng3 : g1 ≠ w.heap.size + 1 := by omega
  have ng4 : g1 ≠ w.heap.size := by omega
  have P0 := Aside0.mk (P0_ ng4)
  have P1 := Aside0.mk (P1_ ng3)
  have P2 := Aside0.mk (P2_ ng2)
  clear P0_ P1_ P2_
  have ng5 : w.heap.size + 1 + 1 ≠ g1 := Ne.symm ng2
  have ng6 : w.heap.size + 1 + 1 < u1.heap.size := by omega
  have v0 := (blk_cell P2.out 0).trans (rfl : _ = some (Value.string ⟨#[]⟩))
  have v1 := (blk_cell P2.out 1).trans (rfl : _ = some (Value.string ⟨#[]⟩))
  have v2 := (blk_cell P2.out 2).trans (rfl : _ = some (Value.string ⟨#[]⟩))
  have v3 := (blk_cell P2.out 3).trans (rfl : _ = some (Value.slice (some ⟨w.heap.size + 1, 0, none⟩) 1 1))
  have v4 := (blk_cell P2.out 4).trans (rfl : _ = some (Value.slice none 0 0))
  go_wp2_with fail
  refine (own_call a0 a1 w.heap.size (w.heap.size + 1) _ P0.out P1.out).mono ?_
  rintro e u2 ⟨g2, rfl, hg2, ⟨cur2, hc2, hd2⟩, hb2⟩
  have HB3 := Aside0.mk (below_step HB2.out hb2)
  have r0 := blk_below P0.out hb2
  have r1 := blk_below P1.out hb2
  have r2 := blk_below P2.out hb2
  have k0 : u2.cell? ⟨w.heap.size, 0, none⟩ = some (.string a1) := (blk_cell r0 0).trans rfl
  have k1 : u2.cell? ⟨w.heap.size + 1, 2, none⟩ = some (.slice (some ⟨w.heap.size, 0, none⟩) 1 1) := (blk_cell r1 2).trans rfl
  have k2 : u2.cell? ⟨w.heap.size + 1 + 1, 3, none⟩ = some (.slice (some ⟨w.heap.size + 1, 0, none⟩) 1 1) := (blk_cell r2 3).trans rfl
  have k3 := (blk_cell hc2 0).trans hd2
  have HD := Aside0.mk (blk_new u2 (.cells #[.string a0, .string ⟨#[]⟩, .slice (some ⟨g2, 0, none⟩) 1 1] 25))
  have HD0 := Aside0.mk (blk_alloc hc2 (.cells #[.string a0, .string ⟨#[]⟩, .slice (some ⟨g2, 0, none⟩) 1 1] 25))
  have HD1 := Aside0.mk (blk_alloc r0 (.cells #[.string a0, .string ⟨#[]⟩, .slice (some ⟨g2, 0, none⟩) 1 1] 25))
  have HD2 := Aside0.mk (blk_alloc r1 (.cells #[.string a0, .string ⟨#[]⟩, .slice (some ⟨g2, 0, none⟩) 1 1] 25))
  have HD3 := Aside0.mk (blk_alloc r2 (.cells #[.string a0, .string ⟨#[]⟩, .slice (some ⟨g2, 0, none⟩) 1 1] 25))
  have HB4 := Aside0.mk (below_alloc HB3.out (.cells #[.string a0, .string ⟨#[]⟩, .slice (some ⟨g2, 0, none⟩) 1 1] 25))
  have HG4 := Aside0.mk (HG.out.below HB4.out)
  have HE2 := Aside0.mk hd2
  clear hb2 hc2 hd2 r0 r1 r2
  go_wp2_with fail
  refine (exequaturlaw16_answers.calls true _ rfl (hG := HG4.out)).mono ?_
  rintro e u3 ⟨rfl, hb⟩
  have HB5 := Aside0.mk (below_step HB4.out hb)
  have t0 : u3.cell? ⟨u2.heap.size, 2, none⟩ = some (.slice (some ⟨g2, 0, none⟩) 1 1) := (blk_cell (blk_below HD.out hb) 2).trans rfl
  have t1 : u3.cell? ⟨g2, 0, none⟩ = some (.string a1) := (blk_cell (blk_below HD0.out hb) 0).trans HE2.out
  have t2 : u3.cell? ⟨w.heap.size, 0, none⟩ = some (.string a1) := (blk_cell (blk_below HD1.out hb) 0).trans rfl
  have t3 : u3.cell? ⟨w.heap.size + 1, 2, none⟩ = some (.slice (some ⟨w.heap.size, 0, none⟩) 1 1) := (blk_cell (blk_below HD2.out hb) 2).trans rfl
  have t4 : u3.cell? ⟨w.heap.size + 1 + 1, 3, none⟩ = some (.slice (some ⟨w.heap.size + 1, 0, none⟩) 1 1) := (blk_cell (blk_below HD3.out hb) 3).trans rfl
  clear hb
  go_wp2
  go_ret
  exact ⟨rfl, HB5.out⟩
end Go.Proofs.YtkcgalpagpgfhaaDoor.X
