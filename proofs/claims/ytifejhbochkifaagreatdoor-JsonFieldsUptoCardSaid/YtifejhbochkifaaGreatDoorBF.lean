import Derived.Test.YtifejhbochkifaaGreatDoorX11
import Derived.Test.YtifejhbochkifaaGreatDoorX10
import Derived.Test.YtifejhbochkifaaGreatDoorHNum
import Derived.Test.YtifejhbochkifaaGreatDoorBC
/-! HFld -/
namespace Go.Proofs.YtifejhbochkifaaGreatDoor.X
open Go.RowKit Go.Proofs.YtifejhbochkifaaGreatDoorW.PrintWords Go.Proofs.YtifejhbochkifaaGreatDoorW.PrintLast Go.Proofs.YtifejhbochkifaaGreatDoorW.PrintMore Go.Proofs.YtifejhbochkifaaGreatDoor.Spec
set_option linter.unusedVariables false
set_option linter.unusedSimpArgs false
set_option maxHeartbeats 8000000 in
set_option maxRecDepth 100000 in
theorem field_hit (k : Nat) (m : Int) (s : ByteArray) (A3 A4 : Option Addr) (q3 q4 : Nat) (l3 : List V) (l4 : List ByteArray) (key : ByteArray) (t : Nat) (r1 r2 : Int) (r3 : ByteArray) (r4 : List V) (r5 : List ByteArray) (w : World)
  (g3 : Kd.C k25 w A3 l3.length l3) (h3 : l3.length ≤ q3) (g4 : Kd.C Kd.string w A4 l4.length l4) (h4 : l4.length ≤ q4) (hi : slices_Index_string_string.f k l4 key = some (t : Int)) (ht : t < l3.length)
  (hc : json_copied.f k (l3[t]'ht).f0 (l3[t]'ht).f1 (l3[t]'ht).f2 (l3[t]'ht).f3 (l3[t]'ht).f4 = some (r1, r2, r3, r4, r5)) :
  Calls Tryz.prog 15 #[.agg #[.int .i64 6, .int .i64 m, .string s, .slice A3 l3.length q3, .slice A4 l4.length q4], .string key] w fun e w' => ∃ A5 p5 A6 p6, e = .returned (.tuple #[.agg #[.int .i64 r1, .int .i64 r2, .string r3, .slice A5 r4.length p5, .slice A6 r5.length p6], .bool true]) ∧ Kd.N k25 25 w' w.heap.size (fun k_ => w.heap.size ≤ k_) (.slice A5 r4.length p5) r4 ∧ r5.length ≤ p6 ∧ Kd.C Kd.string w' A6 r5.length r5 ∧ Below w.heap.size w w' := by
 have e1 := blk_alloc (blk_new w (.cells #[.int .i64 6, .int .i64 m, .string s, .slice A3 l3.length q3, .slice A4 l4.length q4] 25)) (.cells #[.int .i64 0, .int .i64 0, .string ⟨#[]⟩, .slice none 0 0, .slice none 0 0] 25)
 have e2 := blk_new (w.alloc (.cells #[.int .i64 6, .int .i64 m, .string s, .slice A3 l3.length q3, .slice A4 l4.length q4] 25)) (.cells #[.int .i64 0, .int .i64 0, .string ⟨#[]⟩, .slice none 0 0, .slice none 0 0] 25)
 rw [show (w.alloc (.cells #[.int .i64 6, .int .i64 m, .string s, .slice A3 l3.length q3, .slice A4 l4.length q4] 25)).heap.size = w.heap.size + 1 by simp] at e2
 have e3 := below_alloc (below_alloc (Below.refl _ w) (.cells #[.int .i64 6, .int .i64 m, .string s, .slice A3 l3.length q3, .slice A4 l4.length q4] 25)) (.cells #[.int .i64 0, .int .i64 0, .string ⟨#[]⟩, .slice none 0 0, .slice none 0 0] 25)
 have e4 : ((w.alloc (.cells #[.int .i64 6, .int .i64 m, .string s, .slice A3 l3.length q3, .slice A4 l4.length q4] 25)).alloc (.cells #[.int .i64 0, .int .i64 0, .string ⟨#[]⟩, .slice none 0 0, .slice none 0 0] 25)).heap.size = w.heap.size + 2 := by simp
 obtain ⟨W2, hW2⟩ : ∃ W, (w.alloc (.cells #[.int .i64 6, .int .i64 m, .string s, .slice A3 l3.length q3, .slice A4 l4.length q4] 25)).alloc (.cells #[.int .i64 0, .int .i64 0, .string ⟨#[]⟩, .slice none 0 0, .slice none 0 0] 25) = W := ⟨_, rfl⟩
 rw [hW2] at e1 e2 e3 e4
 have HW2 := Aside0.mk hW2
 have BK := Aside0.mk e1
 have BR := Aside0.mk e2
 have HB2 := Aside0.mk e3
 have SZ := Aside0.mk e4
 have HIX := Aside0.mk (slices_Index_string_string.calls k A4 q4 l4 key t W2 (Kd.C_below g4 e3) h4 hi)
 have G3 := Aside0.mk (Kd.C_below g3 e3)
 have m3 := (blk_cell e1 3).trans (rfl : _ = some (Value.slice A3 l3.length q3))
 have m4 := (blk_cell e1 4).trans (rfl : _ = some (Value.slice A4 l4.length q4))
 have m0 := (blk_cell e1 0).trans (rfl : _ = some (Value.int .i64 6))
 obtain ⟨y, hy⟩ : ∃ y, l3[t]'ht = y := ⟨_, rfl⟩
 rw [hy] at hc
 have HC := Aside0.mk hc
 have HY := Aside0.mk hy
 obtain ⟨ti, hti⟩ : ∃ ti : Int, (t : Int) = ti := ⟨_, rfl⟩
 have t0 : decide (ti < 0) = false := decide_eq_false (by omega)
 have t1 : decide ((l3.length : Int) ≤ ti) = false := decide_eq_false (by omega)
 have p0 : (0 : Int) ≤ ti := by omega
 have q0 : ti < (l3.length : Int) := by omega
 rw [hti] at HIX
 have hrd : rd_T25 l3 ti = y := by rw [← hti]; show l3.getD (t : Int).toNat z25 = y; rw [Int.toNat_natCast, List.getD_eq_getElem?_getD, List.getElem?_eq_getElem ht]; exact hy
 obtain ⟨ad, B3, b3, B4, b4, e, hx_0, hx_1, hx_2, hx_3, hx_4, hl_3, hi_3, hl_4, hi_4⟩ := at_T25 G3.out ti p0 q0
 cases e
 rw [hrd] at hx_0 hx_1 hx_2 hx_3 hx_4 hl_3 hi_3 hl_4 hi_4
 have X0 := Aside0.mk hx_0
 have X1 := Aside0.mk hx_1
 have X2 := Aside0.mk hx_2
 have X3 := Aside0.mk hx_3
 have X4 := Aside0.mk hx_4
 have L3 := Aside0.mk hl_3
 have L4 := Aside0.mk hl_4
 have I3 := Aside0.mk hi_3
 have I4 := Aside0.mk hi_4
 clear hx_0 hx_1 hx_2 hx_3 hx_4 hl_3 hi_3 hl_4 hi_4 hrd hti HY hy
 clear hW2 e1 e2 e3 e4 g3 g4 hi hc h3 h4
 go_enter Tryz.func15, Tryz.ntmps15
 go_wp2_with (rw [HW2.out])
 refine HIX.out.mono ?_
 rintro e w3 ⟨rfl, hb3⟩
 have hbw := hb3.below
 have bk3 := blk_below BK.out hbw
 have d0 := (blk_cell bk3 0).trans (rfl : _ = some (Value.int .i64 6))
 have d3 := (blk_cell bk3 3).trans (rfl : _ = some (Value.slice (some ad) l3.length q3))
 have z0 := (hbw.cell (World.block_lt_of_cell? _ _ X0.out)).trans X0.out
 have z1 := (hbw.cell (World.block_lt_of_cell? _ _ X1.out)).trans X1.out
 have z2 := (hbw.cell (World.block_lt_of_cell? _ _ X2.out)).trans X2.out
 have z3 := (hbw.cell (World.block_lt_of_cell? _ _ X3.out)).trans X3.out
 have z4 := (hbw.cell (World.block_lt_of_cell? _ _ X4.out)).trans X4.out
 have HBW := Aside0.mk hbw
 have HCP := Aside0.mk (fun (W : World) (hW : Below W2.heap.size W2 W) => json_copied.calls k y.f0 y.f1 y.f2 B3 b3 y.f3 B4 b4 y.f4 r1 r2 r3 r4 r5 W (Kd.C_below I3.out hW) L3.out (Kd.C_below I4.out hW) L4.out HC.out)
 clear bk3 hbw m0 m3 m4 hb3
 go_wp2_with fail
 refine (HCP.out _ HBW.out).mono ?_
 rintro e w5 ⟨c5, c6, rfl, hn5, hv6, hb5⟩
 obtain ⟨A5, p5, rfl⟩ := Kd.N_slice hn5
 obtain ⟨A6, p6, rfl⟩ := Kd.V_slice hv6
 have hbb := below_then HBW.out HBW.out.size hb5
 have br5 := blk_below BR.out hbb
 have y0 := (blk_cell br5 0).trans (rfl : _ = some (Value.int .i64 0))
 have y1 := (blk_cell br5 1).trans (rfl : _ = some (Value.int .i64 0))
 have y2 := (blk_cell br5 2).trans (rfl : _ = some (Value.string ⟨#[]⟩))
 have y3 := (blk_cell br5 3).trans (rfl : _ = some (Value.slice none 0 0))
 have y4 := (blk_cell br5 4).trans (rfl : _ = some (Value.slice none 0 0))
 have i0 := blk_frozen br5 0
 have i1 := blk_frozen br5 1
 have i2 := blk_frozen br5 2
 have i3 := blk_frozen br5 3
 have i4 := blk_frozen br5 4
 have BR5 := Aside0.mk br5
 have HB5 := Aside0.mk hbb
 have HN5 := Aside0.mk hn5
 have HV6 := Aside0.mk hv6
 clear hb5 br5 hn5 hv6 d0 d3 z0 z1 z2 z3 z4 hbb
 go_wp2
 refine bodyPost_ret (results_ct rfl _ _ (w.heap.size + 1) 25 #[.int .i64 r1, .int .i64 r2, .string r3, .slice A5 r4.length p5, .slice A6 r5.length p6] (0, 0) _ rfl (fill5 BR5.out) Tryz.underlying25 rfl (by kernel_rfl)) rfl ?_
 have hsz := SZ.out
 have hs3 := HBW.out.size
 have hn5 : ∀ k_, w3.heap.size ≤ k_ → k_ ≠ w.heap.size + 1 := fun k_ hk_ => by omega
 have hn6 : ∀ k_, (w3.heap.size ≤ k_ ∧ some k_ ≠ (Value.slice A5 r4.length p5).ownBlock) → k_ ≠ w.heap.size + 1 := fun k_ hk_ => hn5 k_ hk_.1
 refine ⟨_, _, _, _, rfl, Kd.N_lower (Kd.N_mono (Kd.N_far (p := ⟨w.heap.size + 1, 4, none⟩) (Kd.N_far (p := ⟨w.heap.size + 1, 3, none⟩) (Kd.N_far (p := ⟨w.heap.size + 1, 2, none⟩) (Kd.N_far (p := ⟨w.heap.size + 1, 1, none⟩) (Kd.N_far (p := ⟨w.heap.size + 1, 0, none⟩) HN5.out hn5 _) hn5 _) hn5 _) hn5 _) hn5 _) (fun k_ hk_ => by omega)) (by omega), ?_, ?_, ?_⟩
 ·exact (Kd.V_reads' HV6.out).2.1
 ·exact (Kd.V_reads' (Kd.V_far (p := ⟨w.heap.size + 1, 4, none⟩) (Kd.V_far (p := ⟨w.heap.size + 1, 3, none⟩) (Kd.V_far (p := ⟨w.heap.size + 1, 2, none⟩) (Kd.V_far (p := ⟨w.heap.size + 1, 1, none⟩) (Kd.V_far (p := ⟨w.heap.size + 1, 0, none⟩) HV6.out hn6 _) hn6 _) hn6 _) hn6 _) hn6 _)).2.2
 ·exact below_set (below_set (below_set (below_set (below_set (below_then HB2.out HB2.out.size HB5.out) (by omega)) (by omega)) (by omega)) (by omega)) (by omega)
end Go.Proofs.YtifejhbochkifaaGreatDoor.X

/-! HAns -/
namespace Go.Proofs.YtifejhbochkifaaGreatDoor.X
open Go.RowKit Go.Proofs.YtifejhbochkifaaGreatDoorW.PrintWords Go.Proofs.YtifejhbochkifaaGreatDoorW.PrintLast Go.Proofs.YtifejhbochkifaaGreatDoorW.PrintMore Go.Proofs.YtifejhbochkifaaGreatDoor.Spec
set_option linter.unusedVariables false
set_option linter.unusedSimpArgs false
theorem row1 {α : Type} (d : Kd α) {w : World} {b e : Nat} {x : α} {c : List Value} (hb : w.heap[b]? = some (.cells c.toArray e (0, 0))) (hK : d.K w x c) : d.C w (some ⟨b, 0, none⟩) 1 [x] := by
 refine ⟨rfl, by decide, fun _ => ⟨_, rfl, fun j p hj => ⟨c, d.K_len hK, ?_, fun i u hu => ?_⟩⟩⟩
 ·match j, hj with
  | 0, hj => obtain rfl := Option.some.inj hj; exact hK
 ·match j, hj with
  | 0, hj =>
   rw [Nat.zero_mul, Nat.zero_add, Addr.add_lit, Nat.zero_add, cell_of_row w b _ _ e (0, 0) hb, List.getElem?_toArray]
   exact hu
theorem own_row {w : World} {b : Nat} {s : ByteArray} (h : w.heap[b]? = some (.cells #[.string s] 9 (0, 0))) : Kd.C Kd.string w (some ⟨b, 0, none⟩) 1 [s] :=
 Kd.C_of_reads (d := ByteArray.empty) ⟨rfl, by decide, fun _ => ⟨_, rfl, fun j hj => by
  rw [Addr.add_lit, Nat.zero_add, blk_cell h]
  match j, hj with
  | 0, _ => rfl⟩⟩
def ansL : V := ⟨5, 0, ⟨#[]⟩, [⟨3, 1, ⟨#[]⟩, [], []⟩, ⟨2, 1, ⟨#[]⟩, [], []⟩], []⟩
def ansV : V := ⟨6, 0, ⟨#[]⟩, [ansL], [⟨#[97]⟩]⟩
def ansT : List UInt8 := [123, 34, 97, 34, 58, 91, 49, 44, 116, 114, 117, 101, 93, 125]
theorem itoa_one : Lib.itoa 1 = [49] := by
 unfold Lib.itoa
 rw [if_neg (by decide), Lib.decDigits]
 rfl
theorem ans_rend : rend 8 ansV = ansT := by
 have h : rend 7 ansL = [91, 49, 44, 116, 114, 117, 101, 93] := by
  show 91 :: (commas [Lib.itoa 1, w_true] ++ [93]) = _
  rw [itoa_one]; rfl
 show 123 :: (commas [jq (bl ⟨#[97]⟩) ++ 58 :: rend 7 ansL] ++ [125]) = _
 rw [h]; rfl
theorem ans_fits : fitsB 8 ansV = true := by decide +kernel
theorem ans_index : slices_Index_string_string.f 100 [(⟨#[97]⟩ : ByteArray)] ⟨#[97]⟩ = some ((0 : Nat) : Int) := by decide +kernel
theorem ans_copied : json_copied.f 100 5 0 ⟨#[]⟩ [⟨3, 1, ⟨#[]⟩, [], []⟩, ⟨2, 1, ⟨#[]⟩, [], []⟩] [] = some (5, 0, ⟨#[]⟩, [⟨3, 1, ⟨#[]⟩, [], []⟩, ⟨2, 1, ⟨#[]⟩, [], []⟩], []) := by kernel_rfl
def exequaturlaw05_answers.f : Option Bool := some true
set_option maxHeartbeats 8000000 in
set_option maxRecDepth 100000 in
theorem exequaturlaw05_answers.calls (r : Bool) (w : World) (h : exequaturlaw05_answers.f = some r) (hG : GOK w := by first | assumption | exact hG | exact GOK.drewN _ hG | exact GOK.below hG (by repeat (first | (with_reducible first | exact HB.out | apply below_alloc | apply pw_below_drewN | apply below_drew1 | refine below_set ?_ (Aside0.out (by assumption))) | exact HB.out))) :
  Calls Tryz.prog 12 #[] w fun e w' => e = .returned (.bool r) ∧ Below w.heap.size w w' := by
 obtain rfl := Option.some.inj h
 have HP := Aside0.mk (parse_good ansV ansT (by decide) ans_fits ans_rend (by decide) w hG)
 have HG := Aside0.mk hG
 clear h hG
 go_enter Tryz.func12, Tryz.ntmps12
 go_wp2_with fail
 refine HP.out.mono ?_
 rintro e w1 ⟨c3, c4, he, hx3, hx4, hb1⟩
 obtain ⟨A3, q3, rfl, hr3⟩ := Kd.R_reads hx3
 obtain ⟨A4, q4, rfl, hr4⟩ := Kd.R_reads hx4
 have he' : e = .returned (.tuple #[.agg #[.int .i64 6, .int .i64 0, .string ⟨#[]⟩, .slice A3 1 q3, .slice A4 1 q4], .int .i64 0]) := he
 clear he
 subst he'
 clear hx3 hx4 HP
 have hr3' : 1 ≤ q3 ∧ Kd.C k25 w1 A3 [ansL].length [ansL] := hr3
 have hr4' : 1 ≤ q4 ∧ Kd.C Kd.string w1 A4 [(⟨#[97]⟩ : ByteArray)].length [(⟨#[97]⟩ : ByteArray)] := hr4
 clear hr3 hr4
 obtain ⟨W2, hW2⟩ : ∃ W, w1.alloc (.cells #[.int .i64 6, .int .i64 0, .string ⟨#[]⟩, .slice A3 1 q3, .slice A4 1 q4] 25) = W := ⟨_, rfl⟩
 have bk2 := blk_new w1 (.cells #[.int .i64 6, .int .i64 0, .string ⟨#[]⟩, .slice A3 1 q3, .slice A4 1 q4] 25)
 have hb2 := below_alloc (Below.refl _ w1) (.cells #[.int .i64 6, .int .i64 0, .string ⟨#[]⟩, .slice A3 1 q3, .slice A4 1 q4] 25)
 rw [hW2] at bk2 hb2
 have C3 := Aside0.mk (Kd.C_below hr3'.2 hb2)
 have C4 := Aside0.mk (Kd.C_below hr4'.2 hb2)
 have HB2 := Aside0.mk (below_then hb1 hb1.size hb2)
 have BK2 := Aside0.mk bk2
 have HW2 := Aside0.mk hW2
 have l3 := Aside0.mk (show [ansL].length ≤ q3 from hr3'.1)
 have l4 := Aside0.mk (show [(⟨#[97]⟩ : ByteArray)].length ≤ q4 from hr4'.1)
 have HFD := Aside0.mk (field_hit 100 0 ⟨#[]⟩ A3 A4 q3 q4 [ansL] [⟨#[97]⟩] ⟨#[97]⟩ 0 _ _ _ _ _ W2 C3.out l3.out C4.out l4.out ans_index (by decide) ans_copied)
 have m0 := (blk_cell bk2 0).trans (rfl : _ = some (Value.int .i64 6))
 have m1 := (blk_cell bk2 1).trans (rfl : _ = some (Value.int .i64 0))
 have m2 := (blk_cell bk2 2).trans (rfl : _ = some (Value.string ⟨#[]⟩))
 have m3 := (blk_cell bk2 3).trans (rfl : _ = some (Value.slice A3 1 q3))
 have m4 := (blk_cell bk2 4).trans (rfl : _ = some (Value.slice A4 1 q4))
 have HPR := Aside0.mk (fun (W : World) (hW : Below W2.heap.size W2 W) => (show Calls Tryz.prog 13 #[.agg #[.int .i64 6, .int .i64 0, .string ⟨#[]⟩, .slice A3 1 q3, .slice A4 1 q4]] W fun e w' => e = .returned (.string ⟨#[123, 34, 97, 34, 58, 91, 49, 44, 116, 114, 117, 101, 93, 125]⟩) ∧ Below W.heap.size W w' from by
  have := print_calls ansV A3 A4 q3 q4 W (HG.out.below (below_then HB2.out HB2.out.size hW)) (by rw [ans_rend]; decide) l3.out l4.out (Kd.C_below C3.out hW) (Kd.C_below C4.out hW)
  unfold printL at this
  rw [ans_fits, if_pos rfl, ans_rend] at this
  exact this))
 have HGD := Aside0.mk (fun (W : World) (hW : Below W2.heap.size W2 W) => (show Calls Tryz.prog 14 #[.agg #[.int .i64 6, .int .i64 0, .string ⟨#[]⟩, .slice A3 1 q3, .slice A4 1 q4]] W fun e w' => e = .returned (.bool true) ∧ Below W.heap.size W w' from by
  have := good_calls ansV A3 A4 q3 q4 W l3.out l4.out (Kd.C_below C3.out hW) (Kd.C_below C4.out hW)
  rw [ans_fits] at this
  exact this))
 clear bk2 hb2 hW2 hr3' hr4' hb1
 go_wp2_with (rw [HW2.out])
 refine HFD.out.mono ?_
 rintro e w3 ⟨A5, p5, A6, p6, he, hn5, hl6, hc6, hb3⟩
 have he' : e = .returned (.tuple #[.agg #[.int .i64 5, .int .i64 0, .string ⟨#[]⟩, .slice A5 2 p5, .slice A6 0 p6], .bool true]) := he
 clear he
 subst he'
 clear hn5 hl6 hc6 m0 m1 m2 m3 m4
 obtain ⟨W4, hW4⟩ : ∃ W, w3.alloc (.cells #[.int .i64 5, .int .i64 0, .string ⟨#[]⟩, .slice A5 2 p5, .slice A6 0 p6] 25) = W := ⟨_, rfl⟩
 have bk4 := blk_new w3 (.cells #[.int .i64 5, .int .i64 0, .string ⟨#[]⟩, .slice A5 2 p5, .slice A6 0 p6] 25)
 have hb4 := below_alloc hb3 (.cells #[.int .i64 5, .int .i64 0, .string ⟨#[]⟩, .slice A5 2 p5, .slice A6 0 p6] 25)
 rw [hW4] at bk4 hb4
 have HW4 := Aside0.mk hW4
 have HB4 := Aside0.mk hb4
 have bk2 := blk_below BK2.out hb4
 have m0 := (blk_cell bk2 0).trans (rfl : _ = some (Value.int .i64 6))
 have m1 := (blk_cell bk2 1).trans (rfl : _ = some (Value.int .i64 0))
 have m2 := (blk_cell bk2 2).trans (rfl : _ = some (Value.string ⟨#[]⟩))
 have m3 := (blk_cell bk2 3).trans (rfl : _ = some (Value.slice A3 1 q3))
 have m4 := (blk_cell bk2 4).trans (rfl : _ = some (Value.slice A4 1 q4))
 have n3 := (blk_cell bk4 3).trans (rfl : _ = some (Value.slice A5 2 p5))
 clear hW4 bk4 bk2 hb4 hb3
 go_wp2_with (rw [HW4.out])
 refine (HPR.out W4 HB4.out).mono ?_
 rintro e w5 ⟨rfl, hb5⟩
 have HB5 := Aside0.mk (below_then HB4.out HB4.out.size hb5)
 have bk2 := blk_below BK2.out HB5.out
 have r0 := (blk_cell bk2 0).trans (rfl : _ = some (Value.int .i64 6))
 have r1 := (blk_cell bk2 1).trans (rfl : _ = some (Value.int .i64 0))
 have r2 := (blk_cell bk2 2).trans (rfl : _ = some (Value.string ⟨#[]⟩))
 have r3 := (blk_cell bk2 3).trans (rfl : _ = some (Value.slice A3 1 q3))
 have r4 := (blk_cell bk2 4).trans (rfl : _ = some (Value.slice A4 1 q4))
 clear bk2 hb5
 go_wp2_with fail
 refine (HGD.out w5 HB5.out).mono ?_
 rintro e w6 ⟨rfl, hb6⟩
 go_wp2
 go_ret
 exact ⟨rfl, below_then HB2.out HB2.out.size (below_then HB5.out HB5.out.size hb6)⟩
end Go.Proofs.YtifejhbochkifaaGreatDoor.X
