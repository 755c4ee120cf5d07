/- json.Good, Print, Parse. -/
import Derived.Test.YtifejhbochkifaaGreatDoorHRen
import Derived.Test.YtifejhbochkifaaGreatDoorHVal
namespace Go.Proofs.YtifejhbochkifaaGreatDoor.X
open Go.RowKit Go.Proofs.YtifejhbochkifaaGreatDoorW.PrintWords Go.Proofs.YtifejhbochkifaaGreatDoorW.PrintLast Go.Proofs.YtifejhbochkifaaGreatDoorW.PrintMore Go.Proofs.YtifejhbochkifaaGreatDoor.Spec
set_option linter.unusedVariables false
set_option linter.unusedSimpArgs false
theorem fits_up : ∀ (d e : Nat) (x : V), d ≤ e → fitsB d x = true → fitsB e x = true ∧ rend e x = rend d x := by
 intro d
 induction d with
 | zero => intro e x _ h; simp [fitsB] at h
 | succ d ih =>
  intro e x hde h
  obtain ⟨e, rfl⟩ : ∃ e', e = e' + 1 := ⟨e - 1, by omega⟩
  have hs := fits_succ h
  have h3 : ∀ y ∈ x.f3, fitsB e y = true ∧ rend e y = rend d y := fun y hy => ih e y (by omega) (hs.2.2.2 y hy)
  constructor
  ·unfold fitsB
   rw [decide_eq_true hs.1.1, decide_eq_true hs.1.2, hs.2.1, hs.2.2.1]
   simp only [Bool.true_and, List.all_eq_true]
   exact fun y hy => (h3 y hy).1
  ·rw [rend, rend]
   have hm : x.f3.map (rend e) = x.f3.map (rend d) := List.map_congr_left (fun y hy => (h3 y hy).2)
   have hz : List.zipWith (fun k y => jq (bl k) ++ 58 :: rend e y) x.f4 x.f3 = List.zipWith (fun k y => jq (bl k) ++ 58 :: rend d y) x.f4 x.f3 := by
    have : ∀ (l : List V) (k : List ByteArray), (∀ y ∈ l, rend e y = rend d y) → List.zipWith (fun k y => jq (bl k) ++ 58 :: rend e y) k l = List.zipWith (fun k y => jq (bl k) ++ 58 :: rend d y) k l := by
     intro l
     induction l with
     | nil => intro k _; simp
     | cons y r ihr =>
      intro k hk
      cases k with
      | nil => simp
      | cons q k => rw [List.zipWith_cons_cons, List.zipWith_cons_cons, hk y (List.mem_cons_self ..), ihr k (fun z hz => hk z (List.mem_cons_of_mem _ hz))]
    exact this _ _ (fun y hy => (h3 y hy).2)
   rw [hm, hz]
set_option maxHeartbeats 2000000 in
set_option maxRecDepth 100000 in
theorem good_calls (x : V) (A3 A4 : Option Addr) (q3 q4 : Nat) (w : World) (h3 : x.f3.length ≤ q3) (h4 : x.f4.length ≤ q4) (g3 : Kd.C k25 w A3 x.f3.length x.f3) (g4 : Kd.C Kd.string w A4 x.f4.length x.f4) :
  Calls Tryz.prog 14 #[.agg #[.int .i64 x.f0, .int .i64 x.f1, .string x.f2, .slice A3 x.f3.length q3, .slice A4 x.f4.length q4]] w fun e w' => e = .returned (.bool (fitsB 8 x)) ∧ Below w.heap.size w w' := by
 have HF := Aside0.mk (fits_calls 8 (by omega) x A3 A4 q3 q4 (w.alloc (.cells #[.int .i64 x.f0, .int .i64 x.f1, .string x.f2, .slice A3 x.f3.length q3, .slice A4 x.f4.length q4] 25)) h3 h4 (Kd.C_alloc g3 _) (Kd.C_alloc g4 _))
 rw [show ((8 : Nat) : Int) = 8 from rfl] at HF
 obtain ⟨q, hq⟩ : ∃ q, fitsB 8 x = q := ⟨_, rfl⟩
 rw [hq] at HF ⊢
 clear h3 h4 g3 g4 hq
 go_enter Tryz.func14, Tryz.ntmps14
 go_wp2_with fail
 refine HF.out.mono ?_
 rintro e w2 ⟨rfl, hb2⟩
 have HB2 := Aside0.mk (below_then (below_alloc (Below.refl _ w) (.cells #[.int .i64 x.f0, .int .i64 x.f1, .string x.f2, .slice A3 x.f3.length q3, .slice A4 x.f4.length q4] 25)) (below_alloc (Below.refl _ w) (.cells #[.int .i64 x.f0, .int .i64 x.f1, .string x.f2, .slice A3 x.f3.length q3, .slice A4 x.f4.length q4] 25)).size hb2)
 clear hb2
 go_wp2
 go_ret
 exact ⟨rfl, HB2.out⟩
/-- What Print gives. -/
def printL (x : V) : List UInt8 := if fitsB 8 x then rend 8 x else []
set_option maxHeartbeats 2000000 in
set_option maxRecDepth 100000 in
theorem print_calls (x : V) (A3 A4 : Option Addr) (q3 q4 : Nat) (w : World) (hG : GOK w) (hl : (rend 8 x).length ≤ 1000000000) (h3 : x.f3.length ≤ q3) (h4 : x.f4.length ≤ q4) (g3 : Kd.C k25 w A3 x.f3.length x.f3) (g4 : Kd.C Kd.string w A4 x.f4.length x.f4) :
  Calls Tryz.prog 13 #[.agg #[.int .i64 x.f0, .int .i64 x.f1, .string x.f2, .slice A3 x.f3.length q3, .slice A4 x.f4.length q4]] w fun e w' => e = .returned (.string (ba (printL x))) ∧ Below w.heap.size w w' := by
 obtain ⟨W1, hW1⟩ : ∃ W, w.alloc (.cells #[.int .i64 x.f0, .int .i64 x.f1, .string x.f2, .slice A3 x.f3.length q3, .slice A4 x.f4.length q4] 25) = W := ⟨_, rfl⟩
 have bk := blk_new w (.cells #[.int .i64 x.f0, .int .i64 x.f1, .string x.f2, .slice A3 x.f3.length q3, .slice A4 x.f4.length q4] 25)
 have hb1 := below_alloc (Below.refl _ w) (.cells #[.int .i64 x.f0, .int .i64 x.f1, .string x.f2, .slice A3 x.f3.length q3, .slice A4 x.f4.length q4] 25)
 rw [hW1] at bk hb1
 have HW1 := Aside0.mk hW1
 have m0 := (blk_cell bk 0).trans (rfl : _ = some (Value.int .i64 x.f0))
 have m1 := (blk_cell bk 1).trans (rfl : _ = some (Value.int .i64 x.f1))
 have m2 := (blk_cell bk 2).trans (rfl : _ = some (Value.string x.f2))
 have m3 := (blk_cell bk 3).trans (rfl : _ = some (Value.slice A3 x.f3.length q3))
 have m4 := (blk_cell bk 4).trans (rfl : _ = some (Value.slice A4 x.f4.length q4))
 have HGD := Aside0.mk (good_calls x A3 A4 q3 q4 W1 h3 h4 (Kd.C_below g3 hb1) (Kd.C_below g4 hb1))
 have HB1 := Aside0.mk hb1
 have BK1 := Aside0.mk bk
 cases hf : fitsB 8 x with
 | false =>
  have hp : printL x = [] := by unfold printL; rw [hf]; rfl
  rw [hp]
  rw [hf] at HGD
  clear hW1 bk hb1 h3 h4 g3 g4 hG hp hf hl
  go_enter Tryz.func13, Tryz.ntmps13
  go_wp2_with (rw [HW1.out])
  refine HGD.out.mono ?_
  rintro e w2 ⟨rfl, hb2⟩
  have HB2 := Aside0.mk (below_then HB1.out HB1.out.size hb2)
  clear hb2
  go_wp2
  go_ret
  exact ⟨rfl, HB2.out⟩
 | true =>
  have hp : printL x = rend 8 x := by unfold printL; rw [hf]; rfl
  have HRN := Aside0.mk (fun (W : World) (hW : Below W1.heap.size W1 W) => render_calls 8 x A3 A4 q3 q4 W hf hl (hG.below (below_then hb1 hb1.size hW)) h3 h4 (Kd.C_below (Kd.C_below g3 hb1) hW) (Kd.C_below (Kd.C_below g4 hb1) hW))
  rw [hp]
  rw [hf] at HGD
  obtain ⟨R, hR⟩ : ∃ R, ba (rend 8 x) = R := ⟨_, rfl⟩
  rw [hR] at HRN ⊢
  clear hW1 bk hb1 h3 h4 g3 g4 hG hp hf hl hR
  go_enter Tryz.func13, Tryz.ntmps13
  go_wp2_with (rw [HW1.out])
  refine HGD.out.mono ?_
  rintro e w2 ⟨rfl, hb2⟩
  have HB2 := Aside0.mk (below_then HB1.out HB1.out.size hb2)
  have HR2 := Aside0.mk (HRN.out w2 hb2)
  have bk2 := blk_below BK1.out hb2
  have k0 := (blk_cell bk2 0).trans (rfl : _ = some (Value.int .i64 x.f0))
  have k1 := (blk_cell bk2 1).trans (rfl : _ = some (Value.int .i64 x.f1))
  have k2 := (blk_cell bk2 2).trans (rfl : _ = some (Value.string x.f2))
  have k3 := (blk_cell bk2 3).trans (rfl : _ = some (Value.slice A3 x.f3.length q3))
  have k4 := (blk_cell bk2 4).trans (rfl : _ = some (Value.slice A4 x.f4.length q4))
  clear hb2 bk2
  go_wp2_with fail
  refine HR2.out.mono ?_
  rintro e w3 ⟨rfl, hb3⟩
  have HB3 := Aside0.mk (below_then HB2.out HB2.out.size hb3)
  clear hb3
  go_wp2
  go_ret
  exact ⟨rfl, HB3.out⟩
set_option maxHeartbeats 16000000 in
set_option maxRecDepth 100000 in
/-- A good value's text is read as it. -/
theorem parse_good (v : V) (s : List UInt8) (hs : s.length ≤ 4096) (h8 : fitsB 8 v = true) (hr : rend 8 v = s) (hl : 7 ≤ s.length) (w : World) (hG : GOK w) :
  Calls Tryz.prog 9 #[.string (ba s)] w fun e w' => ∃ c3 c4 : Value, e = .returned (.tuple #[.agg #[.int .i64 v.f0, .int .i64 v.f1, .string v.f2, c3, c4], .int .i64 0]) ∧ Kd.R k25 25 w' w.heap.size (fun k_ => w.heap.size ≤ k_) c3 v.f3 ∧ Kd.R Kd.string 9 w' w.heap.size (fun k_ => w.heap.size ≤ k_) c4 v.f4 ∧ Below w.heap.size w w' := by
 obtain ⟨hfl, hrl⟩ := fits_up 8 (s.length + 1) v (by omega) h8
 rw [hr] at hrl
 have hread : readV (4 * s.length + 4) s = some (v, []) := by
  have := readV_rend 8 v h8 (4 * s.length + 4) [] (by rw [hr]; simp) (fun c t e => by cases e)
  rwa [hr, List.append_nil] at this
 obtain ⟨z, hz⟩ : ∃ z, ba s = z := ⟨_, rfl⟩
 have hzs : z.size = s.length := by rw [← hz, size_ba]
 have e1 := blk_alloc (blk_new w (.cells #[.int .i64 0, .int .i64 0, .string ⟨#[]⟩, .slice none 0 0, .slice none 0 0] 25)) (.cells #[.string z, .bool false] 46)
 have e2 := blk_new (w.alloc (.cells #[.int .i64 0, .int .i64 0, .string ⟨#[]⟩, .slice none 0 0, .slice none 0 0] 25)) (.cells #[.string z, .bool false] 46)
 rw [show (w.alloc (.cells #[.int .i64 0, .int .i64 0, .string ⟨#[]⟩, .slice none 0 0, .slice none 0 0] 25)).heap.size = w.heap.size + 1 by simp] at e2
 have e3 := below_alloc (below_alloc (Below.refl _ w) (.cells #[.int .i64 0, .int .i64 0, .string ⟨#[]⟩, .slice none 0 0, .slice none 0 0] 25)) (.cells #[.string z, .bool false] 46)
 have e4 : ((w.alloc (.cells #[.int .i64 0, .int .i64 0, .string ⟨#[]⟩, .slice none 0 0, .slice none 0 0] 25)).alloc (.cells #[.string z, .bool false] 46)).heap.size = w.heap.size + 2 := by simp
 obtain ⟨W2, hW2⟩ : ∃ W, (w.alloc (.cells #[.int .i64 0, .int .i64 0, .string ⟨#[]⟩, .slice none 0 0, .slice none 0 0] 25)).alloc (.cells #[.string z, .bool false] 46) = W := ⟨_, rfl⟩
 rw [hW2] at e1 e2 e3 e4
 have H2 : Rs W2 (w.heap.size + 1) s false := by rw [← hz] at e2; exact e2
 have HV := Aside0.mk ((reads_all (4 * s.length + 4)).1 (w.heap.size + 1) s false W2 w H2 hG e3 (by omega) (by omega) (Nat.le_refl _))
 rw [if_neg (by decide), hread] at HV
 have HW2 := Aside0.mk hW2
 have BK2 := Aside0.mk e1
 have HB2 := Aside0.mk e3
 have SZ := Aside0.mk e4
 have HG := Aside0.mk hG
 have HFL := Aside0.mk hfl
 have HF8 := Aside0.mk h8
 have HRL := Aside0.mk hrl
 have HZ := Aside0.mk hz
 have hzl : decide ((4096 : Int) < (z.size : Int)) = false := decide_eq_false (by omega)
 have hzb : z.size ≤ 4096 := by omega
 have HSL := Aside0.mk (show s.length = z.size by omega)
 rw [hz]
 clear hfl hrl hread hz hzs e1 e2 e3 e4 hW2 H2 hs h8 hr hl hG
 go_enter Tryz.func9, Tryz.ntmps9
 go_wp2_with (rw [HW2.out])
 refine HV.out.mono ?_
 rintro e w3 ⟨x, s', bad, c3, c4, rfl, hx3, hx4, h3, g3, hl3, hy, hn⟩
 obtain ⟨rfl, rfl, rfl⟩ := hy v [] rfl
 obtain ⟨A3, q3, rfl, hr3⟩ := Kd.R_reads hx3
 obtain ⟨A4, q4, rfl, hr4⟩ := Kd.R_reads hx4
 obtain ⟨W4, hW4⟩ : ∃ W, w3.alloc (.cells #[.int .i64 x.f0, .int .i64 x.f1, .string x.f2, .slice A3 x.f3.length q3, .slice A4 x.f4.length q4] 25) = W := ⟨_, rfl⟩
 have bk4 := blk_new w3 (.cells #[.int .i64 x.f0, .int .i64 x.f1, .string x.f2, .slice A3 x.f3.length q3, .slice A4 x.f4.length q4] 25)
 have hb4 := below_alloc (Below.refl _ w3) (.cells #[.int .i64 x.f0, .int .i64 x.f1, .string x.f2, .slice A3 x.f3.length q3, .slice A4 x.f4.length q4] 25)
 rw [hW4] at bk4 hb4
 have hrs4 := h3.below hb4
 have k0 := hrs4.c0
 rw [show ba [] = (⟨#[]⟩ : ByteArray) from rfl] at k0
 have k1 := hrs4.c1
 have m0 := (blk_cell bk4 0).trans (rfl : _ = some (Value.int .i64 x.f0))
 have m1 := (blk_cell bk4 1).trans (rfl : _ = some (Value.int .i64 x.f1))
 have m2 := (blk_cell bk4 2).trans (rfl : _ = some (Value.string x.f2))
 have m3 := (blk_cell bk4 3).trans (rfl : _ = some (Value.slice A3 x.f3.length q3))
 have m4 := (blk_cell bk4 4).trans (rfl : _ = some (Value.slice A4 x.f4.length q4))
 have hbw3 : Below w.heap.size w w3 := ⟨g3.os.trans HB2.out.os, g3.tape.trans HB2.out.tape, g3.output.trans HB2.out.output, Nat.le_trans HB2.out.size g3.size, fun i hi => (g3.block i (by have := SZ.out; omega) (fun e => by injection e with e; omega)).trans (HB2.out.block i hi)⟩
 have HBW4 := Aside0.mk (below_then hbw3 hbw3.size hb4)
 have BK2' := Aside0.mk (blk_below (gb_blk BK2.out g3 (by omega)) hb4)
 have BK4 := Aside0.mk bk4
 have HW4 := Aside0.mk hW4
 have HX3 := Aside0.mk (Kd.R_lower hx3 (show w.heap.size ≤ W2.heap.size by have := SZ.out; omega))
 have HX4 := Aside0.mk (Kd.R_lower hx4 (show w.heap.size ≤ W2.heap.size by have := SZ.out; omega))
 have s1 : IntKind.i64.wrap ((z.size : Int) + 1) = (z.size : Int) + 1 := IntWalk.i64_in _ (by omega)
 have s2 : wrap64 ((z.size : Int) + 1) = (z.size : Int) + 1 := by unfold wrap64; omega
 have hft := fits_calls (s.length + 1) (by have := HSL.out; omega) x A3 A4 q3 q4 W4 hr3.1 hr4.1 (Kd.C_below hr3.2 hb4) (Kd.C_below hr4.2 hb4)
 rw [show ((s.length + 1 : Nat) : Int) = (z.size : Int) + 1 by have := HSL.out; omega, HFL.out] at hft
 have HFT := Aside0.mk hft
 have HRN := Aside0.mk (fun (W : World) (hW : Below W4.heap.size W4 W) => (show Calls Tryz.prog 25 #[.agg #[.int .i64 x.f0, .int .i64 x.f1, .string x.f2, .slice A3 x.f3.length q3, .slice A4 x.f4.length q4]] W fun e w' => e = .returned (.string z) ∧ Below W.heap.size W w' from by
  have := render_calls (s.length + 1) x A3 A4 q3 q4 W HFL.out (by rw [HRL.out]; have := HSL.out; omega) (HG.out.below (below_then HBW4.out HBW4.out.size hW)) hr3.1 hr4.1 (Kd.C_below (Kd.C_below hr3.2 hb4) hW) (Kd.C_below (Kd.C_below hr4.2 hb4) hW)
  rw [HRL.out, HZ.out] at this
  exact this))
 have HGD := Aside0.mk (fun (W : World) (hW : Below W4.heap.size W4 W) => (show Calls Tryz.prog 14 #[.agg #[.int .i64 x.f0, .int .i64 x.f1, .string x.f2, .slice A3 x.f3.length q3, .slice A4 x.f4.length q4]] W fun e w' => e = .returned (.bool true) ∧ Below W.heap.size W w' from by
  have := good_calls x A3 A4 q3 q4 W hr3.1 hr4.1 (Kd.C_below (Kd.C_below hr3.2 hb4) hW) (Kd.C_below (Kd.C_below hr4.2 hb4) hW)
  rw [HF8.out] at this
  exact this))
 have HHB4 := Aside0.mk hb4
 clear hft hr3 hr4 hx3 hx4 h3 g3 hl3 hy hn bk4 hb4 hW4 hrs4 hbw3
 go_wp2_with (rw [HW4.out])
 refine HFT.out.mono ?_
 rintro e w5 ⟨rfl, hb5⟩
 have HB5 := Aside0.mk hb5
 have HR5 := Aside0.mk (HRN.out w5 hb5)
 have bk5 := blk_below BK4.out hb5
 have r0 := (blk_cell bk5 0).trans (rfl : _ = some (Value.int .i64 x.f0))
 have r1 := (blk_cell bk5 1).trans (rfl : _ = some (Value.int .i64 x.f1))
 have r2 := (blk_cell bk5 2).trans (rfl : _ = some (Value.string x.f2))
 have r3 := (blk_cell bk5 3).trans (rfl : _ = some (Value.slice A3 x.f3.length q3))
 have r4 := (blk_cell bk5 4).trans (rfl : _ = some (Value.slice A4 x.f4.length q4))
 clear hb5 bk5
 go_wp2_with fail
 refine HR5.out.mono ?_
 rintro e w6 ⟨rfl, hb6⟩
 have HB6 := Aside0.mk (below_then HB5.out HB5.out.size hb6)
 have HG6 := Aside0.mk (HGD.out w6 HB6.out)
 have bk6 := blk_below BK4.out HB6.out
 have u0 := (blk_cell bk6 0).trans (rfl : _ = some (Value.int .i64 x.f0))
 have u1 := (blk_cell bk6 1).trans (rfl : _ = some (Value.int .i64 x.f1))
 have u2 := (blk_cell bk6 2).trans (rfl : _ = some (Value.string x.f2))
 have u3 := (blk_cell bk6 3).trans (rfl : _ = some (Value.slice A3 x.f3.length q3))
 have u4 := (blk_cell bk6 4).trans (rfl : _ = some (Value.slice A4 x.f4.length q4))
 clear hb6 bk6
 go_wp2_with fail
 refine HG6.out.mono ?_
 rintro e w7 ⟨rfl, hb7⟩
 have HB7 := Aside0.mk (below_then HB6.out HB6.out.size hb7)
 have bk7 := blk_below BK4.out HB7.out
 have bk2 := blk_below BK2'.out HB7.out
 have v0 := (blk_cell bk7 0).trans (rfl : _ = some (Value.int .i64 x.f0))
 have v1 := (blk_cell bk7 1).trans (rfl : _ = some (Value.int .i64 x.f1))
 have v2 := (blk_cell bk7 2).trans (rfl : _ = some (Value.string x.f2))
 have v3 := (blk_cell bk7 3).trans (rfl : _ = some (Value.slice A3 x.f3.length q3))
 have v4 := (blk_cell bk7 4).trans (rfl : _ = some (Value.slice A4 x.f4.length q4))
 have y0 := (blk_cell bk2 0).trans (rfl : _ = some (Value.int .i64 0))
 have y1 := (blk_cell bk2 1).trans (rfl : _ = some (Value.int .i64 0))
 have y2 := (blk_cell bk2 2).trans (rfl : _ = some (Value.string ⟨#[]⟩))
 have y3 := (blk_cell bk2 3).trans (rfl : _ = some (Value.slice none 0 0))
 have y4 := (blk_cell bk2 4).trans (rfl : _ = some (Value.slice none 0 0))
 have i0 := blk_frozen bk2 0
 have i1 := blk_frozen bk2 1
 have i2 := blk_frozen bk2 2
 have i3 := blk_frozen bk2 3
 have i4 := blk_frozen bk2 4
 have BK27 := Aside0.mk bk2
 clear hb7 bk7 bk2
 go_wp2
 refine bodyPost_ret (results_ct rfl _ _ w.heap.size 25 #[.int .i64 x.f0, .int .i64 x.f1, .string x.f2, .slice A3 x.f3.length q3, .slice A4 x.f4.length q4] (0, 0) _ rfl (fill5 BK27.out) Tryz.underlying25 rfl (by kernel_rfl)) rfl ?_
 have hb37 : Below w3.heap.size w3 w7 := by
  have h1 := below_alloc (Below.refl _ w3) (.cells #[.int .i64 x.f0, .int .i64 x.f1, .string x.f2, .slice A3 x.f3.length q3, .slice A4 x.f4.length q4] 25)
  rw [HW4.out] at h1
  exact below_then h1 h1.size HB7.out
 have hsz := SZ.out
 have hn5 : ∀ k_, W2.heap.size ≤ k_ → k_ ≠ w.heap.size := fun k_ hk_ => by omega
 refine ⟨_, _, rfl, Kd.R_mono (Kd.R_far (p := ⟨w.heap.size, 4, none⟩) (Kd.R_far (p := ⟨w.heap.size, 3, none⟩) (Kd.R_far (p := ⟨w.heap.size, 2, none⟩) (Kd.R_far (p := ⟨w.heap.size, 1, none⟩) (Kd.R_far (p := ⟨w.heap.size, 0, none⟩) (Kd.R_below HX3.out hb37) hn5 _) hn5 _) hn5 _) hn5 _) hn5 _) (fun k_ hk_ => by omega),
  Kd.R_mono (Kd.R_far (p := ⟨w.heap.size, 4, none⟩) (Kd.R_far (p := ⟨w.heap.size, 3, none⟩) (Kd.R_far (p := ⟨w.heap.size, 2, none⟩) (Kd.R_far (p := ⟨w.heap.size, 1, none⟩) (Kd.R_far (p := ⟨w.heap.size, 0, none⟩) (Kd.R_below HX4.out hb37) hn5 _) hn5 _) hn5 _) hn5 _) hn5 _) (fun k_ hk_ => by omega),
  below_set (below_set (below_set (below_set (below_set (below_then HBW4.out HBW4.out.size HB7.out) (Nat.le_refl _)) (Nat.le_refl _)) (Nat.le_refl _)) (Nat.le_refl _)) (Nat.le_refl _)⟩
end Go.Proofs.YtifejhbochkifaaGreatDoor.X
