/- json.fits: is a value good, and at most so deep? slices.ContainsFunc at values. -/
import Derived.Test.YtifejhbochkifaaGreatDoorHUnl
import Derived.Test.YtifejhbochkifaaGreatDoorHBare
import Derived.Deep.LoopGhost
namespace Go.Proofs.YtifejhbochkifaaGreatDoor.X
open Go.RowKit Go.Proofs.YtifejhbochkifaaGreatDoorW.PrintWords Go.Proofs.YtifejhbochkifaaGreatDoorW.PrintLast Go.Proofs.YtifejhbochkifaaGreatDoorW.PrintMore Go.Proofs.YtifejhbochkifaaGreatDoor.Spec
set_option linter.unusedVariables false
set_option linter.unusedSimpArgs false
def idxOf {α : Type} (p : α → Bool) : List α → Int
  | [] => -1
  | x :: r => if p x then 0 else (if idxOf p r < 0 then -1 else idxOf p r + 1)
theorem idxOf_all {α : Type} (p : α → Bool) : ∀ l : List α, (∀ x ∈ l, p x = false) → idxOf p l = -1
 | [], _ => rfl
 | x :: r, h => by
  rw [idxOf, if_neg (by rw [h x (List.mem_cons_self ..)]; simp), idxOf_all p r (fun y hy => h y (List.mem_cons_of_mem _ hy)), if_pos (by omega)]
theorem idxOf_hit {α : Type} (p : α → Bool) : ∀ (k : Nat) (l : List α) (hk : k < l.length), (∀ j (hj : j < k), p (l[j]'(by omega)) = false) → p (l[k]'hk) = true → idxOf p l = k
 | 0, x :: r, _, _, h => by rw [idxOf, if_pos (by simpa using h)]; rfl
 | k + 1, x :: r, hk, hn, h => by
  have h0 : p x = false := hn 0 (by omega)
  have ih := idxOf_hit p k r (by simpa using hk) (fun j hj => by have := hn (j + 1) (by omega); simpa using this) (by simpa using h)
  rw [idxOf, if_neg (by rw [h0]; simp), ih, if_neg (by omega)]
  omega
theorem idxOf_any {α : Type} (p : α → Bool) : ∀ l : List α, decide (0 ≤ idxOf p l) = l.any p
 | [] => rfl
 | x :: r => by
  rw [idxOf, List.any_cons, ← idxOf_any p r]
  cases p x with
  | true => simp
  | false =>
   simp only [Bool.false_eq_true, if_false, Bool.false_or]
   split
   ·rename_i h; rw [decide_eq_false (by omega), decide_eq_false (by omega)]
   ·rename_i h; rw [decide_eq_true (by omega), decide_eq_true (by omega)]
set_option maxHeartbeats 2000000 in
set_option maxRecDepth 100000 in
theorem find_V (p : V → Bool) (A0 : Option Addr) (c0 : Nat) (l0 : List V) (bx : Nat) (w : World) (hr0 : Kd.C k25 w A0 l0.length l0) (hc0 : l0.length ≤ c0)
  (hcl : ∀ x ∈ l0, ∀ W : World, Below w.heap.size w W → ∀ (A3 A4 : Option Addr) (q3 q4 : Nat), x.f3.length ≤ q3 → x.f4.length ≤ q4 → Kd.C k25 W A3 x.f3.length x.f3 → Kd.C Kd.string W A4 x.f4.length x.f4 →
   Calls Tryz.prog 46 #[.agg #[.int .i64 x.f0, .int .i64 x.f1, .string x.f2, .slice A3 x.f3.length q3, .slice A4 x.f4.length q4], .pointer (some ⟨bx, 0, none⟩)] W fun e w' => e = .returned (.bool (p x)) ∧ Below W.heap.size W w') :
  Calls Tryz.prog 69 #[.slice A0 l0.length c0, .func (.func 46) #[] #[.pointer (some ⟨bx, 0, none⟩)]] w fun e w' => e = .returned (.int .i64 (idxOf p l0)) ∧ Below w.heap.size w w' := by
 have hu := Tryz.underlying25
 have HR := Aside0.mk hr0
 have HCL := Aside0.mk hcl
 have hmax := hr0.2.1
 clear hr0 hcl
 go_enter Tryz.func69, Tryz.ntmps69
 go_wp2
 go_loopw [8] (fun i wr => ∃ k : Nat, k ≤ l0.length ∧ i = .int .i64 k ∧ Aside0 (∀ j (hj : j < k) (hjl : j < l0.length), p (l0[j]'hjl) = false) ∧ Aside0 (Below w.heap.size w wr)) (fun i _ => l0.length - (intOf i).toNat)
 case atStart => exact ⟨0, Nat.zero_le _, rfl, ⟨fun j hj => absurd hj (Nat.not_lt_zero _)⟩, ⟨Below.refl _ w⟩⟩
 case round =>
  obtain ⟨k, hkl, rfl, HM, HB⟩ := hrel
  by_cases hlt : k < l0.length
  ·have p0 : (0 : Int) ≤ (k : Int) := by omega
   have q0 : (k : Int) < (l0.length : Int) := by omega
   obtain ⟨ad, A3, q3, A4, q4, rfl, hx0, hx1, hx2, hx3, hx4, hl3, hg3, hl4, hg4⟩ := at_T25 (Kd.C_below HR.out HB.out) (k : Int) p0 q0
   have hrd : rd_T25 l0 (k : Int) = l0[k]'hlt := by simp [rd_T25, List.getD_eq_getElem?_getD, List.getElem?_eq_getElem hlt]
   rw [hrd] at hx0 hx1 hx2 hx3 hx4 hl3 hg3 hl4 hg4
   simp only [Int.toNat_natCast] at hx0 hx1 hx2 hx3 hx4
   have hcl := HCL.out (l0[k]'hlt) (List.getElem_mem hlt) wr HB.out A3 A4 q3 q4 hl3 hl4 hg3 hg4
   clear hrd hl3 hg3 hl4 hg4
   by_cases hp : p (l0[k]'hlt) = true
   ·have hfin := Aside0.mk (idxOf_hit p k l0 hlt (fun j hj => HM.out j hj (by omega)) hp)
    rw [hp] at hcl
    have HC2 := Aside0.mk hcl
    clear hp hcl
    go_wp2_with fail
    refine HC2.out.mono ?_
    rintro e w2 ⟨rfl, hb2⟩
    have HB2 := Aside0.mk (below_then HB.out HB.out.size hb2)
    clear hb2
    go_wp2
    go_ret
    exact ⟨by rw [hfin.out]; rfl, HB2.out⟩
   ·have hp' := Bool.eq_false_iff.2 hp
    rw [hp'] at hcl
    have HC2 := Aside0.mk hcl
    have hnext := Aside0.mk (show ∀ j (hj : j < k + 1) (hjl : j < l0.length), p (l0[j]'hjl) = false from fun j hj hjl => by
     by_cases h : j = k
     ·subst h; exact hp'
     ·exact HM.out j (by omega) hjl)
    clear hp hp' hcl
    go_wp2_with fail
    refine HC2.out.mono ?_
    rintro e w2 ⟨rfl, hb2⟩
    have HB2 := Aside0.mk (below_then HB.out HB.out.size hb2)
    clear hb2
    go_wp2
    go_roundw
    case rel => exact ⟨k + 1, by omega, by go_num, hnext, HB2⟩
    case measure => simp [intOf]; omega
  ·have hfin := Aside0.mk (idxOf_all p l0 (fun x hx => by
    obtain ⟨j, hj, rfl⟩ := List.getElem_of_mem hx
    exact HM.out j (by omega) hj))
   go_wp2
   go_ret
   exact ⟨by rw [hfin.out]; rfl, HB.out⟩
set_option maxHeartbeats 2000000 in
theorem any_V (p : V → Bool) (A0 : Option Addr) (c0 : Nat) (l0 : List V) (bx : Nat) (w : World) (hr0 : Kd.C k25 w A0 l0.length l0) (hc0 : l0.length ≤ c0)
  (hcl : ∀ x ∈ l0, ∀ W : World, Below w.heap.size w W → ∀ (A3 A4 : Option Addr) (q3 q4 : Nat), x.f3.length ≤ q3 → x.f4.length ≤ q4 → Kd.C k25 W A3 x.f3.length x.f3 → Kd.C Kd.string W A4 x.f4.length x.f4 →
   Calls Tryz.prog 46 #[.agg #[.int .i64 x.f0, .int .i64 x.f1, .string x.f2, .slice A3 x.f3.length q3, .slice A4 x.f4.length q4], .pointer (some ⟨bx, 0, none⟩)] W fun e w' => e = .returned (.bool (p x)) ∧ Below W.heap.size W w') :
  Calls Tryz.prog 45 #[.slice A0 l0.length c0, .func (.func 46) #[] #[.pointer (some ⟨bx, 0, none⟩)]] w fun e w' => e = .returned (.bool (l0.any p)) ∧ Below w.heap.size w w' := by
 have HF := Aside0.mk (find_V p A0 c0 l0 bx w hr0 hc0 hcl)
 have hA := idxOf_any p l0
 obtain ⟨i, hi⟩ : ∃ i, idxOf p l0 = i := ⟨_, rfl⟩
 obtain ⟨q, hq⟩ : ∃ b, l0.any p = b := ⟨_, rfl⟩
 rw [hi] at HF hA
 rw [hq] at hA ⊢
 clear hr0 hcl hi hq
 go_enter Tryz.func45, Tryz.ntmps45
 go_wp2_with fail
 refine HF.out.mono ?_
 rintro e w2 ⟨rfl, hb2⟩
 have HB2 := Aside0.mk hb2
 clear hb2
 go_wp2
 go_ret
 exact ⟨rfl, HB2.out⟩
theorem fits_zero (x : V) : fitsB 0 x = false := rfl
theorem fits_low {d : Nat} {x : V} (h : x.f0 < 1) : fitsB (d + 1) x = false := by
 unfold fitsB; rw [decide_eq_false (show ¬ 1 ≤ x.f0 by omega)]; simp
theorem fits_high {d : Nat} {x : V} (h : 6 < x.f0) : fitsB (d + 1) x = false := by
 unfold fitsB; rw [decide_eq_false (show ¬ x.f0 ≤ 6 by omega)]; simp
theorem fits_bare {d : Nat} {x : V} (h : bareB x = false) : fitsB (d + 1) x = false := by
 unfold fitsB; rw [h]; simp
theorem fits_keys {d : Nat} {x : V} (h : (if x.f0 = 6 then x.f4.length == x.f3.length && decide x.f4.Nodup else x.f4.length == 0) = false) : fitsB (d + 1) x = false := by
 unfold fitsB; rw [h]; simp
theorem fits_all {d : Nat} {x : V} (h0 : 1 ≤ x.f0) (h1 : x.f0 ≤ 6) (hb : bareB x = true) (hk : (if x.f0 = 6 then x.f4.length == x.f3.length && decide x.f4.Nodup else x.f4.length == 0) = true) : fitsB (d + 1) x = !(x.f3.any fun y => !fitsB d y) := by
 conv => lhs; unfold fitsB
 rw [decide_eq_true h0, decide_eq_true h1, hb, hk]
 simp only [Bool.true_and]
 induction x.f3 with
 | nil => rfl
 | cons y r ih => rw [List.all_cons, List.any_cons, ih]; cases fitsB d y <;> simp
theorem bare_len {x : V} (h : bareB x = true) : x.f3.length ≤ 64 := by
 unfold bareB at h
 simp only [Bool.and_eq_true, decide_eq_true_eq] at h
 exact h.2
def FitC (d : Nat) : Prop := ∀ (x : V) (A3 A4 : Option Addr) (q3 q4 : Nat) (w : World), x.f3.length ≤ q3 → x.f4.length ≤ q4 → Kd.C k25 w A3 x.f3.length x.f3 → Kd.C Kd.string w A4 x.f4.length x.f4 →
  Calls Tryz.prog 24 #[.agg #[.int .i64 x.f0, .int .i64 x.f1, .string x.f2, .slice A3 x.f3.length q3, .slice A4 x.f4.length q4], .int .i64 (d : Int)] w fun e w' => e = .returned (.bool (fitsB d x)) ∧ Below w.heap.size w w'
set_option maxHeartbeats 2000000 in
set_option maxRecDepth 100000 in
theorem closure_fits (d : Nat) (hd : d ≤ 1000000) (ih : FitC d) (bx : Nat) (x : V) (A3 A4 : Option Addr) (q3 q4 : Nat) (w : World) (h3 : x.f3.length ≤ q3) (h4 : x.f4.length ≤ q4) (g3 : Kd.C k25 w A3 x.f3.length x.f3) (g4 : Kd.C Kd.string w A4 x.f4.length x.f4) (hbx : w.cell? ⟨bx, 0, none⟩ = some (.int .i64 ((d : Int) + 1))) :
  Calls Tryz.prog 46 #[.agg #[.int .i64 x.f0, .int .i64 x.f1, .string x.f2, .slice A3 x.f3.length q3, .slice A4 x.f4.length q4], .pointer (some ⟨bx, 0, none⟩)] w fun e w' => e = .returned (.bool (!fitsB d x)) ∧ Below w.heap.size w w' := by
 have hb : bx < w.heap.size := World.block_lt_of_cell? w _ hbx
 obtain ⟨W1, hW1⟩ : ∃ W, w.alloc (.cells #[.int .i64 x.f0, .int .i64 x.f1, .string x.f2, .slice A3 x.f3.length q3, .slice A4 x.f4.length q4] 25) = W := ⟨_, rfl⟩
 have hb1 := below_alloc (Below.refl _ w) (.cells #[.int .i64 x.f0, .int .i64 x.f1, .string x.f2, .slice A3 x.f3.length q3, .slice A4 x.f4.length q4] 25)
 have bk := blk_new w (.cells #[.int .i64 x.f0, .int .i64 x.f1, .string x.f2, .slice A3 x.f3.length q3, .slice A4 x.f4.length q4] 25)
 rw [hW1] at hb1 bk
 have hx1 := (hb1.cell (p := ⟨bx, 0, none⟩) hb).trans hbx
 have m0 := (blk_cell bk 0).trans (rfl : _ = some (Value.int .i64 x.f0))
 have m1 := (blk_cell bk 1).trans (rfl : _ = some (Value.int .i64 x.f1))
 have m2 := (blk_cell bk 2).trans (rfl : _ = some (Value.string x.f2))
 have m3 := (blk_cell bk 3).trans (rfl : _ = some (Value.slice A3 x.f3.length q3))
 have m4 := (blk_cell bk 4).trans (rfl : _ = some (Value.slice A4 x.f4.length q4))
 have s1 : IntKind.i64.wrap ((d : Int) + 1 - 1) = (d : Int) := by rw [Int.add_sub_cancel]; exact IntWalk.i64_in _ (by omega)
 have s2 : wrap64 ((d : Int) + 1 - 1) = (d : Int) := by unfold wrap64; omega
 have HC := Aside0.mk (ih x A3 A4 q3 q4 W1 h3 h4 (Kd.C_below g3 hb1) (Kd.C_below g4 hb1))
 have HB1 := Aside0.mk hb1
 have HW1 := Aside0.mk hW1
 obtain ⟨fd, hfd⟩ : ∃ fd, fitsB d x = fd := ⟨_, rfl⟩
 rw [hfd] at HC ⊢
 clear hb1 bk hW1 h3 h4 g3 g4 hfd hbx ih
 go_enter Tryz.func46, Tryz.ntmps46
 go_wp2_with (rw [HW1.out])
 refine HC.out.mono ?_
 rintro e w2 ⟨rfl, hb2⟩
 have HB2 := Aside0.mk (below_then HB1.out HB1.out.size hb2)
 clear hb2
 go_wp2
 go_ret
 exact ⟨rfl, HB2.out⟩
set_option maxHeartbeats 8000000 in
set_option maxRecDepth 100000 in
theorem fits_calls : ∀ (d : Nat), d ≤ 1000000 → FitC d := by
 intro d
 induction d with
 | zero =>
  intro _ x A3 A4 q3 q4 w h3 h4 g3 g4
  have bk := blk_new (w.alloc (.cells #[.int .i64 x.f0, .int .i64 x.f1, .string x.f2, .slice A3 x.f3.length q3, .slice A4 x.f4.length q4] 25)) (.cells #[.int .i64 0] 3)
  clear h3 h4 g3 g4
  show Calls _ _ #[_, .int .i64 0] w _
  go_enter Tryz.func24, Tryz.ntmps24
  go_wp2
  go_ret
  exact ⟨rfl, below_alloc (below_alloc (Below.refl _ w) _) _⟩
 | succ d IH =>
  intro hd x A3 A4 q3 q4 w h3 h4 g3 g4
  have IHA := Aside0.mk (IH (by omega))
  clear IH
  obtain ⟨W2, hW2⟩ : ∃ W, (w.alloc (.cells #[.int .i64 x.f0, .int .i64 x.f1, .string x.f2, .slice A3 x.f3.length q3, .slice A4 x.f4.length q4] 25)).alloc (.cells #[.int .i64 ((d : Int) + 1)] 3) = W := ⟨_, rfl⟩
  have hb2 := below_alloc (below_alloc (Below.refl _ w) (.cells #[.int .i64 x.f0, .int .i64 x.f1, .string x.f2, .slice A3 x.f3.length q3, .slice A4 x.f4.length q4] 25)) (.cells #[.int .i64 ((d : Int) + 1)] 3)
  have bk := blk_alloc (blk_new w (.cells #[.int .i64 x.f0, .int .i64 x.f1, .string x.f2, .slice A3 x.f3.length q3, .slice A4 x.f4.length q4] 25)) (.cells #[.int .i64 ((d : Int) + 1)] 3)
  have bd := blk_new (w.alloc (.cells #[.int .i64 x.f0, .int .i64 x.f1, .string x.f2, .slice A3 x.f3.length q3, .slice A4 x.f4.length q4] 25)) (.cells #[.int .i64 ((d : Int) + 1)] 3)
  rw [show (w.alloc (.cells #[.int .i64 x.f0, .int .i64 x.f1, .string x.f2, .slice A3 x.f3.length q3, .slice A4 x.f4.length q4] 25)).heap.size = w.heap.size + 1 by simp] at bd
  rw [hW2] at hb2 bk bd
  have m0 := (blk_cell bk 0).trans (rfl : _ = some (Value.int .i64 x.f0))
  have m1 := (blk_cell bk 1).trans (rfl : _ = some (Value.int .i64 x.f1))
  have m2 := (blk_cell bk 2).trans (rfl : _ = some (Value.string x.f2))
  have m3 := (blk_cell bk 3).trans (rfl : _ = some (Value.slice A3 x.f3.length q3))
  have m4 := (blk_cell bk 4).trans (rfl : _ = some (Value.slice A4 x.f4.length q4))
  have md := (blk_cell bd 0).trans (rfl : _ = some (Value.int .i64 ((d : Int) + 1)))
  have HB2 := Aside0.mk hb2
  have HW2 := Aside0.mk hW2
  have BK := Aside0.mk bk
  have BD := Aside0.mk bd
  have G3 := Aside0.mk (Kd.C_below g3 hb2)
  have G4 := Aside0.mk (Kd.C_below g4 hb2)
  have H3 := Aside0.mk h3
  have H4 := Aside0.mk h4
  have hl3 := g3.2.1
  have d0 : decide ((d : Int) + 1 < 1) = false := decide_eq_false (by omega)
  clear hb2 bk bd hW2 h3 h4 g3 g4
  rw [show (((d + 1 : Nat)) : Int) = (d : Int) + 1 from by omega]
  by_cases hlo : x.f0 < 1
  ·have d1 : decide (x.f0 < 1) = true := decide_eq_true hlo
   rw [fits_low hlo]
   clear hlo
   go_enter Tryz.func24, Tryz.ntmps24
   go_wp2_with (rw [HW2.out])
   go_ret
   exact ⟨rfl, HB2.out⟩
  have d1 : decide (x.f0 < 1) = false := decide_eq_false hlo
  by_cases hhi : 6 < x.f0
  ·have d2 : decide (6 < x.f0) = true := decide_eq_true hhi
   rw [fits_high hhi]
   clear hlo hhi
   go_enter Tryz.func24, Tryz.ntmps24
   go_wp2_with (rw [HW2.out])
   go_ret
   exact ⟨rfl, HB2.out⟩
  have d2 : decide (6 < x.f0) = false := decide_eq_false hhi
  have HBC := Aside0.mk (bare_calls x A3 A4 q3 q4 W2 hl3)
  by_cases hbr : bareB x = true
  case neg =>
   rw [Bool.not_eq_true] at hbr
   rw [fits_bare hbr]
   rw [hbr] at HBC
   clear hlo hhi hbr
   go_enter Tryz.func24, Tryz.ntmps24
   go_wp2_with (rw [HW2.out])
   refine HBC.out.mono ?_
   rintro e w3 ⟨rfl, hb3⟩
   have HB3 := Aside0.mk (below_then HB2.out HB2.out.size hb3)
   clear hb3
   go_wp2
   go_ret
   exact ⟨rfl, HB3.out⟩
  rw [hbr] at HBC
  have hl64 := bare_len hbr
  -- behind bare
  have HANY := Aside0.mk (fun (w4 : World) (hb4 : Below W2.heap.size W2 w4) => any_V (fun y => !fitsB d y) A3 q3 x.f3 (w.heap.size + 1) w4 (Kd.C_below G3.out hb4) H3.out (fun y hy W hW B3 B4 p3 p4 k3 k4 e3 e4 => closure_fits d (by omega) IHA.out (w.heap.size + 1) y B3 B4 p3 p4 W k3 k4 e3 e4 (by
   have hbd := blk_below (blk_below BD.out hb4) hW
   exact (blk_cell hbd 0).trans rfl)))
  by_cases hk6 : x.f0 = 6
  ·have e6 : (x.f0 == 6) = true := by rw [hk6]; rfl
   have e6n : (x.f0 != 6) = false := by rw [hk6]; rfl
   by_cases hlen : x.f4.length = x.f3.length
   case neg =>
    have el : ((x.f4.length : Int) != (x.f3.length : Int)) = true := by rw [bne_iff_ne]; omega
    rw [fits_keys (by rw [if_pos hk6, show (x.f4.length == x.f3.length) = false from by rw [beq_eq_false_iff_ne]; exact hlen]; rfl)]
    clear hlo hhi hbr hk6 hlen HANY hl64
    go_enter Tryz.func24, Tryz.ntmps24
    go_wp2_with (rw [HW2.out])
    refine HBC.out.mono ?_
    rintro e w3 ⟨rfl, hb3⟩
    have HB3 := Aside0.mk (below_then HB2.out HB2.out.size hb3)
    have bk3 := blk_below BK.out hb3
    have k0 := (blk_cell bk3 0).trans (rfl : _ = some (Value.int .i64 x.f0))
    have k3 := (blk_cell bk3 3).trans (rfl : _ = some (Value.slice A3 x.f3.length q3))
    have k4 := (blk_cell bk3 4).trans (rfl : _ = some (Value.slice A4 x.f4.length q4))
    clear hb3 bk3
    go_wp2
    go_ret
    exact ⟨rfl, HB3.out⟩
   have el : ((x.f4.length : Int) != (x.f3.length : Int)) = false := by rw [bne_eq_false_iff_eq]; omega
   have HUN := Aside0.mk (fun (w3 : World) (hb3 : Below W2.heap.size W2 w3) => unlike_calls A4 x.f4 q4 w3 (by omega) H4.out (Kd.C_below G4.out hb3))
   by_cases hnd : x.f4.Nodup
   case neg =>
    rw [fits_keys (by rw [if_pos hk6, decide_eq_false hnd]; simp)]
    rw [decide_eq_false hnd] at HUN
    clear hlo hhi hbr hk6 hlen HANY hl64 hnd
    go_enter Tryz.func24, Tryz.ntmps24
    go_wp2_with (rw [HW2.out])
    refine HBC.out.mono ?_
    rintro e w3 ⟨rfl, hb3⟩
    have HB3 := Aside0.mk (below_then HB2.out HB2.out.size hb3)
    have HU3 := Aside0.mk (HUN.out w3 hb3)
    have bk3 := blk_below BK.out hb3
    have k0 := (blk_cell bk3 0).trans (rfl : _ = some (Value.int .i64 x.f0))
    have k3 := (blk_cell bk3 3).trans (rfl : _ = some (Value.slice A3 x.f3.length q3))
    have k4 := (blk_cell bk3 4).trans (rfl : _ = some (Value.slice A4 x.f4.length q4))
    clear hb3 bk3
    go_wp2_with fail
    refine HU3.out.mono ?_
    rintro e w4 ⟨rfl, hb4⟩
    have HB4 := Aside0.mk (below_then HB3.out HB3.out.size hb4)
    clear hb4
    go_wp2
    go_ret
    exact ⟨rfl, HB4.out⟩
   rw [fits_all (by omega) (by omega) hbr (by rw [if_pos hk6, decide_eq_true hnd, show (x.f4.length == x.f3.length) = true from by rw [beq_iff_eq]; exact hlen]; rfl)]
   rw [decide_eq_true hnd] at HUN
   obtain ⟨fa, hfa⟩ : ∃ fa, (x.f3.any fun y => !fitsB d y) = fa := ⟨_, rfl⟩
   rw [hfa] at HANY ⊢
   clear hlo hhi hbr hk6 hlen hl64 hnd hfa
   go_enter Tryz.func24, Tryz.ntmps24
   go_wp2_with (rw [HW2.out])
   refine HBC.out.mono ?_
   rintro e w3 ⟨rfl, hb3⟩
   have HB3 := Aside0.mk (below_then HB2.out HB2.out.size hb3)
   have HU3 := Aside0.mk (HUN.out w3 hb3)
   have HB23 := Aside0.mk hb3
   have bk3 := blk_below BK.out hb3
   have BK3 := Aside0.mk bk3
   have k0 := (blk_cell bk3 0).trans (rfl : _ = some (Value.int .i64 x.f0))
   have k3 := (blk_cell bk3 3).trans (rfl : _ = some (Value.slice A3 x.f3.length q3))
   have k4 := (blk_cell bk3 4).trans (rfl : _ = some (Value.slice A4 x.f4.length q4))
   clear hb3 bk3
   go_wp2_with fail
   refine HU3.out.mono ?_
   rintro e w4 ⟨rfl, hb4⟩
   have HB4 := Aside0.mk (below_then HB3.out HB3.out.size hb4)
   have HA4 := Aside0.mk (HANY.out w4 (below_then HB23.out HB23.out.size hb4))
   have bk4 := blk_below BK3.out hb4
   have r0 := (blk_cell bk4 0).trans (rfl : _ = some (Value.int .i64 x.f0))
   have r3 := (blk_cell bk4 3).trans (rfl : _ = some (Value.slice A3 x.f3.length q3))
   have r4 := (blk_cell bk4 4).trans (rfl : _ = some (Value.slice A4 x.f4.length q4))
   clear hb4 bk4
   go_wp2_with fail
   refine HA4.out.mono ?_
   rintro e w5 ⟨rfl, hb5⟩
   have HB5 := Aside0.mk (below_then HB4.out HB4.out.size hb5)
   clear hb5
   go_wp2
   go_ret
   exact ⟨rfl, HB5.out⟩
  ·have e6 : (x.f0 == 6) = false := by rw [beq_eq_false_iff_ne]; exact hk6
   have e6n : (x.f0 != 6) = true := by rw [bne_iff_ne]; exact hk6
   by_cases hlen : x.f4.length = 0
   case neg =>
    have el : decide ((0 : Int) < (x.f4.length : Int)) = true := decide_eq_true (by omega)
    rw [fits_keys (by rw [if_neg hk6, beq_eq_false_iff_ne]; exact hlen)]
    obtain ⟨n4, hn4⟩ : ∃ n, x.f4.length = n := ⟨_, rfl⟩
    have hpos : 0 < n4 := by omega
    rw [hn4] at el m4 BK HBC HW2 ⊢
    clear hlo hhi hbr hk6 hlen HANY hl64 hn4 G4 H4
    go_enter Tryz.func24, Tryz.ntmps24
    go_wp2_with (rw [HW2.out])
    refine HBC.out.mono ?_
    rintro e w3 ⟨rfl, hb3⟩
    have HB3 := Aside0.mk (below_then HB2.out HB2.out.size hb3)
    have bk3 := blk_below BK.out hb3
    have k0 := (blk_cell bk3 0).trans (rfl : _ = some (Value.int .i64 x.f0))
    have k3 := (blk_cell bk3 3).trans (rfl : _ = some (Value.slice A3 x.f3.length q3))
    have k4 := (blk_cell bk3 4).trans (rfl : _ = some (Value.slice A4 n4 q4))
    clear hb3 bk3
    go_wp2
    go_ret
    exact ⟨rfl, HB3.out⟩
   have el : decide ((0 : Int) < (x.f4.length : Int)) = false := decide_eq_false (by omega)
   rw [fits_all (by omega) (by omega) hbr (by rw [if_neg hk6, beq_iff_eq]; exact hlen)]
   obtain ⟨fa, hfa⟩ : ∃ fa, (x.f3.any fun y => !fitsB d y) = fa := ⟨_, rfl⟩
   rw [hfa] at HANY ⊢
   obtain ⟨n4, hn4⟩ : ∃ n, x.f4.length = n := ⟨_, rfl⟩
   have hpos : (0 < n4) = False := eq_false (by omega)
   rw [hn4] at el m4 BK HBC HW2 ⊢
   clear hlo hhi hbr hk6 hlen hl64 hfa hn4 G4 H4
   go_enter Tryz.func24, Tryz.ntmps24
   go_wp2_with (rw [HW2.out])
   refine HBC.out.mono ?_
   rintro e w3 ⟨rfl, hb3⟩
   have HB3 := Aside0.mk (below_then HB2.out HB2.out.size hb3)
   have HA3 := Aside0.mk (HANY.out w3 hb3)
   have bk3 := blk_below BK.out hb3
   have k0 := (blk_cell bk3 0).trans (rfl : _ = some (Value.int .i64 x.f0))
   have k3 := (blk_cell bk3 3).trans (rfl : _ = some (Value.slice A3 x.f3.length q3))
   have k4 := (blk_cell bk3 4).trans (rfl : _ = some (Value.slice A4 n4 q4))
   clear hb3 bk3
   go_wp2_with fail
   refine HA3.out.mono ?_
   rintro e w5 ⟨rfl, hb5⟩
   have HB5 := Aside0.mk (below_then HB3.out HB3.out.size hb5)
   clear hb5
   go_wp2
   go_ret
   exact ⟨rfl, HB5.out⟩
end Go.Proofs.YtifejhbochkifaaGreatDoor.X
