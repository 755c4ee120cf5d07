/- JsonReads: its walk. -/
import Derived.Test.YtifejhbochkifaaGreatDoorBF
import Derived.Test.YtifejhbochkifaaGreatDoorHRPar
namespace Go.Proofs.YtifejhbochkifaaGreatDoor.X
open Go.RowKit Go.Proofs.YtifejhbochkifaaGreatDoorW.PrintWords Go.Proofs.YtifejhbochkifaaGreatDoorW.PrintLast Go.Proofs.YtifejhbochkifaaGreatDoorW.PrintMore Go.Proofs.YtifejhbochkifaaGreatDoor.Spec
set_option linter.unusedVariables false
set_option linter.unusedSimpArgs false
theorem parseL_ok (s : List UInt8) : ((parseL s).2 = 0 → fitsB 8 (parseL s).1 = true ∧ rend 8 (parseL s).1 = s ∧ s.length ≤ 4096) ∧ ((parseL s).2 ≠ 0 → (parseL s).1 = z_V) := by
 unfold parseL
 split
 ·exact ⟨fun h => (by cases h), fun _ => rfl⟩
 ·split
  ·rename_i v _
   split
   ·rename_i hc
    split
    ·rename_i h8
     refine ⟨fun _ => ⟨h8, ?_, by omega⟩, fun h => absurd rfl h⟩
     have q1 := (fits_up 8 (max 8 (s.length + 1)) v (by omega) h8).2
     have q2 := (fits_up (s.length + 1) (max 8 (s.length + 1)) v (by omega) hc.1).2
     rw [← hc.2, ← q2, q1]
    ·exact ⟨fun h => (by cases h), fun _ => rfl⟩
   ·exact ⟨fun h => (by cases h), fun _ => rfl⟩
  ·exact ⟨fun h => (by cases h), fun _ => rfl⟩
theorem rsame_calls (D : Nat) (v x : V) (hl : limB D v = true) (A3 A4 B3 B4 : Option Addr) (q3 q4 p3 p4 : Nat) (w : World)
  (h3 : v.f3.length ≤ q3) (g3 : Kd.C k25 w A3 v.f3.length v.f3) (h4 : v.f4.length ≤ q4) (g4 : Kd.C Kd.string w A4 v.f4.length v.f4)
  (h5 : x.f3.length ≤ p3) (g5 : Kd.C k25 w B3 x.f3.length x.f3) (h6 : x.f4.length ≤ p4) (g6 : Kd.C Kd.string w B4 x.f4.length x.f4) :
  Calls Tryz.prog 11 #[.agg #[.int .i64 v.f0, .int .i64 v.f1, .string v.f2, .slice A3 v.f3.length q3, .slice A4 v.f4.length q4], .agg #[.int .i64 x.f0, .int .i64 x.f1, .string x.f2, .slice B3 x.f3.length p3, .slice B4 x.f4.length p4]] w fun e w' => e = .returned (.bool (eqB v x)) ∧ Below w.heap.size w w' := by
 obtain ⟨k, hk⟩ := (same_ev D v x hl).get
 exact exequaturref01_Same.calls k v.f0 v.f1 v.f2 A3 q3 v.f3 A4 q4 v.f4 x.f0 x.f1 x.f2 B3 p3 x.f3 B4 p4 x.f4 _ w g3 h3 g4 h4 g5 h5 g6 h6 hk
theorem pout_at {P : V × Int} {w w' : World} {e : Ending} (h : POut P w e w') : ∃ A3 q3 A4 q4, e = .returned (.tuple #[.agg #[.int .i64 P.1.f0, .int .i64 P.1.f1, .string P.1.f2, .slice A3 P.1.f3.length q3, .slice A4 P.1.f4.length q4], .int .i64 P.2]) ∧ P.1.f3.length ≤ q3 ∧ Kd.C k25 w' A3 P.1.f3.length P.1.f3 ∧ P.1.f4.length ≤ q4 ∧ Kd.C Kd.string w' A4 P.1.f4.length P.1.f4 ∧ Below w.heap.size w w' := by
 obtain ⟨c3, c4, he, h3, h4, hb⟩ := h
 obtain ⟨A3, q3, rfl⟩ := Kd.R_slice h3
 obtain ⟨A4, q4, rfl⟩ := Kd.R_slice h4
 have r3 := Kd.R_reads' h3
 have r4 := Kd.R_reads' h4
 exact ⟨A3, q3, A4, q4, he, r3.2.1, r3.2.2, r4.2.1, r4.2.2, hb⟩
def exequaturlaw05_JsonReads.f (a0 : ByteArray) : Option Bool := some true
set_option maxHeartbeats 8000000 in
set_option maxRecDepth 100000 in
theorem exequaturlaw05_JsonReads.calls (a0 : ByteArray) (r : Bool) (w : World) (h : exequaturlaw05_JsonReads.f a0 = some r) (hG : GOK w := by first | assumption | exact hG | exact GOK.drewN _ hG | exact GOK.below hG (by repeat (first | (with_reducible first | exact HB.out | apply below_alloc | apply pw_below_drewN | apply below_drew1 | refine below_set ?_ (Aside0.out (by assumption))) | exact HB.out))) :
  Calls Tryz.prog 3 #[.string a0] w fun e w' => e = .returned (.bool r) ∧ Below w.heap.size w w' := by
 obtain rfl := Option.some.inj h
 have HG := Aside0.mk hG
 have hj := jparse_calls (bl a0) w hG
 have hok := parseL_ok (bl a0)
 have HR := Aside0.mk (fun (W : World) => rparse_calls (bl a0) W)
 generalize parseL (bl a0) = P at hj hok HR
 obtain ⟨v, ec⟩ := P
 rw [ba_bl] at hj HR
 have HJ := Aside0.mk hj
 have HOK := Aside0.mk hok
 clear h hG hj hok
 go_enter Tryz.func3, Tryz.ntmps3
 go_wp2_with fail
 refine HJ.out.mono ?_
 intro e w1 hpo
 obtain ⟨A3, q3, A4, q4, rfl, k3, g3, k4, g4, hb1⟩ := pout_at hpo
 simp only [] at k3 g3 k4 g4 ⊢
 obtain ⟨W2, hW2⟩ : ∃ W, w1.alloc (.cells #[.int .i64 v.f0, .int .i64 v.f1, .string v.f2, .slice A3 v.f3.length q3, .slice A4 v.f4.length q4] 25) = W := ⟨_, rfl⟩
 have hb2 : Below w1.heap.size w1 W2 := by rw [← hW2]; exact below_alloc (Below.refl _ _) _
 have BV2 := Aside0.mk (show W2.heap[w1.heap.size]? = some (.cells #[.int .i64 v.f0, .int .i64 v.f1, .string v.f2, .slice A3 v.f3.length q3, .slice A4 v.f4.length q4] 25 (0, 0)) by rw [← hW2]; exact blk_new _ _)
 have C3 := Aside0.mk (Kd.C_below g3 hb2)
 have C4 := Aside0.mk (Kd.C_below g4 hb2)
 have K3 := Aside0.mk k3
 have K4 := Aside0.mk k4
 have HB2 := Aside0.mk (below_then hb1 hb1.size hb2)
 have HW2 := Aside0.mk hW2
 clear hpo k3 g3 k4 g4 hb1 hb2 hW2
 go_wp2_with (rw [HW2.out])
 refine (HR.out W2).mono ?_
 intro e w3 hpo
 obtain ⟨B3, p3, B4, p4, rfl, k3, g3, k4, g4, hb3⟩ := pout_at hpo
 simp only [] at k3 g3 k4 g4 ⊢
 obtain ⟨W4, hW4⟩ : ∃ W, w3.alloc (.cells #[.int .i64 v.f0, .int .i64 v.f1, .string v.f2, .slice B3 v.f3.length p3, .slice B4 v.f4.length p4] 25) = W := ⟨_, rfl⟩
 have hb4 : Below w3.heap.size w3 W4 := by rw [← hW4]; exact below_alloc (Below.refl _ _) _
 have hb24 : Below W2.heap.size W2 W4 := below_then hb3 hb3.size hb4
 have BW4 := Aside0.mk (show W4.heap[w3.heap.size]? = some (.cells #[.int .i64 v.f0, .int .i64 v.f1, .string v.f2, .slice B3 v.f3.length p3, .slice B4 v.f4.length p4] 25 (0, 0)) by rw [← hW4]; exact blk_new _ _)
 have BV4 := Aside0.mk (blk_below BV2.out hb24)
 have D3 := Aside0.mk (Kd.C_below g3 hb4)
 have D4 := Aside0.mk (Kd.C_below g4 hb4)
 have E3 := Aside0.mk (Kd.C_below C3.out hb24)
 have E4 := Aside0.mk (Kd.C_below C4.out hb24)
 have J3 := Aside0.mk k3
 have J4 := Aside0.mk k4
 have HB4 := Aside0.mk (below_then HB2.out HB2.out.size hb24)
 have HW4 := Aside0.mk hW4
 have HAN := Aside0.mk (fun (W : World) (hW : Below W4.heap.size W4 W) => exequaturlaw05_answers.calls true W rfl (HG.out.below (below_then HB4.out HB4.out.size hW)))
 clear hpo k3 g3 k4 g4 hb3 hb4 hb24 hW4 C3 C4 BV2
 by_cases hec : ec = 0
 ·obtain rfl := hec
  obtain ⟨hf8, hre, h96⟩ := HOK.out.1 rfl
  have hlm := lim_fits 8 v hf8
  have HSM := Aside0.mk (fun (W : World) (hW : Below W4.heap.size W4 W) => (show Calls Tryz.prog 11 #[.agg #[.int .i64 v.f0, .int .i64 v.f1, .string v.f2, .slice A3 v.f3.length q3, .slice A4 v.f4.length q4], .agg #[.int .i64 v.f0, .int .i64 v.f1, .string v.f2, .slice B3 v.f3.length p3, .slice B4 v.f4.length p4]] W fun e w' => e = .returned (.bool true) ∧ Below W.heap.size W w' from by
   have := rsame_calls 8 v v hlm A3 A4 B3 B4 q3 q4 p3 p4 W K3.out (Kd.C_below E3.out hW) K4.out (Kd.C_below E4.out hW) J3.out (Kd.C_below D3.out hW) J4.out (Kd.C_below D4.out hW)
   rw [eqB_true rfl] at this
   exact this))
  have HPR := Aside0.mk (fun (W : World) (hW : Below W4.heap.size W4 W) (hl : (bl a0).length ≤ 1000000000) => (show Calls Tryz.prog 13 #[.agg #[.int .i64 v.f0, .int .i64 v.f1, .string v.f2, .slice A3 v.f3.length q3, .slice A4 v.f4.length q4]] W fun e w' => e = .returned (.string a0) ∧ Below W.heap.size W w' from by
   have := print_calls v A3 A4 q3 q4 W (HG.out.below (below_then HB4.out HB4.out.size hW)) (by rw [hre]; exact hl) K3.out K4.out (Kd.C_below E3.out hW) (Kd.C_below E4.out hW)
   unfold printL at this
   rw [hf8, if_pos rfl, hre, ba_bl] at this
   exact this))
  have HLN := Aside0.mk (show (bl a0).length ≤ 1000000000 by omega)
  clear hf8 hre hlm HOK h96
  go_wp2_with (rw [HW4.out])
  refine (HAN.out W4 (Below.refl _ _)).mono ?_
  rintro e w5 ⟨rfl, hb5⟩
  have HB5 := Aside0.mk hb5
  have bv5 := blk_below BV4.out hb5
  have bw5 := blk_below BW4.out hb5
  have m0 := (blk_cell bv5 0).trans (rfl : _ = some (Value.int .i64 v.f0))
  have m1 := (blk_cell bv5 1).trans (rfl : _ = some (Value.int .i64 v.f1))
  have m2 := (blk_cell bv5 2).trans (rfl : _ = some (Value.string v.f2))
  have m3 := (blk_cell bv5 3).trans (rfl : _ = some (Value.slice A3 v.f3.length q3))
  have m4 := (blk_cell bv5 4).trans (rfl : _ = some (Value.slice A4 v.f4.length q4))
  have n0 := (blk_cell bw5 0).trans (rfl : _ = some (Value.int .i64 v.f0))
  have n1 := (blk_cell bw5 1).trans (rfl : _ = some (Value.int .i64 v.f1))
  have n2 := (blk_cell bw5 2).trans (rfl : _ = some (Value.string v.f2))
  have n3 := (blk_cell bw5 3).trans (rfl : _ = some (Value.slice B3 v.f3.length p3))
  have n4 := (blk_cell bw5 4).trans (rfl : _ = some (Value.slice B4 v.f4.length p4))
  clear hb5 bv5 bw5
  go_wp2_with fail
  refine (HSM.out w5 HB5.out).mono ?_
  rintro e w6 ⟨rfl, hb6⟩
  have HB6 := Aside0.mk (below_then HB5.out HB5.out.size hb6)
  have bv6 := blk_below BV4.out HB6.out
  clear m0 m1 m2 m3 m4 n0 n1 n2 n3 n4 hb6
  have m0 := (blk_cell bv6 0).trans (rfl : _ = some (Value.int .i64 v.f0))
  have m1 := (blk_cell bv6 1).trans (rfl : _ = some (Value.int .i64 v.f1))
  have m2 := (blk_cell bv6 2).trans (rfl : _ = some (Value.string v.f2))
  have m3 := (blk_cell bv6 3).trans (rfl : _ = some (Value.slice A3 v.f3.length q3))
  have m4 := (blk_cell bv6 4).trans (rfl : _ = some (Value.slice A4 v.f4.length q4))
  clear bv6
  go_wp2_with fail
  refine (HPR.out w6 HB6.out HLN.out).mono ?_
  rintro e w7 ⟨rfl, hb7⟩
  have HB7 := Aside0.mk (below_then HB6.out HB6.out.size hb7)
  clear hb7
  go_wp2
  go_ret
  exact ⟨rfl, below_then HB4.out HB4.out.size HB7.out⟩
 ·obtain rfl := HOK.out.2 hec
  have HSM := Aside0.mk (show Calls Tryz.prog 11 #[.agg #[.int .i64 0, .int .i64 0, .string ⟨#[]⟩, .slice A3 0 q3, .slice A4 0 q4], .agg #[.int .i64 0, .int .i64 0, .string ⟨#[]⟩, .slice none 0 0, .slice none 0 0]] W4 fun e w' => e = .returned (.bool true) ∧ Below W4.heap.size W4 w' from by
   have := rsame_calls 1 z_V z_V lim_z A3 A4 none none q3 q4 0 0 W4 K3.out E3.out K4.out E4.out (Nat.le_refl 0) (Kd.C_nil _ _) (Nat.le_refl 0) (Kd.C_nil _ _)
   rw [eqB_true rfl] at this
   exact this)
  have dec : (ec != 0) = true := bne_iff_ne.2 hec
  have m0 := (blk_cell BV4.out 0).trans (rfl : _ = some (Value.int .i64 0))
  have m1 := (blk_cell BV4.out 1).trans (rfl : _ = some (Value.int .i64 0))
  have m2 := (blk_cell BV4.out 2).trans (rfl : _ = some (Value.string ⟨#[]⟩))
  have m3 := (blk_cell BV4.out 3).trans (rfl : _ = some (Value.slice A3 0 q3))
  have m4 := (blk_cell BV4.out 4).trans (rfl : _ = some (Value.slice A4 0 q4))
  go_wp2_with (rw [HW4.out])
  refine HSM.out.mono ?_
  rintro e w5 ⟨rfl, hb5⟩
  have HB5 := Aside0.mk hb5
  clear hb5 m0 m1 m2 m3 m4
  go_wp2_with fail
  refine (HAN.out w5 HB5.out).mono ?_
  rintro e w6 ⟨rfl, hb6⟩
  have HB6 := Aside0.mk (below_then HB5.out HB5.out.size hb6)
  clear hb6
  go_wp2
  go_ret
  exact ⟨rfl, below_then HB4.out HB4.out.size HB6.out⟩
end Go.Proofs.YtifejhbochkifaaGreatDoor.X
