/- JsonDeep: its walk. -/
import Derived.Test.YtifejhbochkifaaGreatDoorBC
import Derived.Test.YtifejhbochkifaaGreatDoorBF
namespace Go.Proofs.YtifejhbochkifaaGreatDoor.X
open Go Go.RowKit Go.Proofs.YtifejhbochkifaaGreatDoorW.PrintWords Go.Proofs.YtifejhbochkifaaGreatDoorW.PrintLast Go.Proofs.YtifejhbochkifaaGreatDoorW.PrintMore Go.Proofs.YtifejhbochkifaaGreatDoor.Spec
set_option linter.unusedVariables false
set_option linter.unusedSimpArgs false
def exequaturlaw05_JsonDeep.f (a0 a1 : Int) : Option Bool := if 0 ≤ a0 ∧ a0 ≤ 255 ∧ 0 ≤ a1 ∧ a1 ≤ 255 then some true else none
def nestV : Nat → V
  | 0 => ⟨5, 0, ⟨#[]⟩, [], []⟩
  | j + 1 => ⟨5, 0, ⟨#[]⟩, [nestV j], []⟩
def nestS (i : Nat) : List UInt8 := List.replicate i 91 ++ List.replicate i 93
theorem rowF1 {d : Kd V} {w : World} {b e : Nat} {x : V} {c : List Value} {ok : Nat → Prop} (hb : w.heap[b]? = some (.cells c.toArray e (0, 0))) (hok : ok b) (hK : Kd.FK d w ok x c) : Kd.F d w ok (some ⟨b, 0, none⟩) 1 [x] :=
  fun W' hW => row1 d ((hW b hok (Array.getElem?_eq_some_iff.1 hb).1).trans hb) (hK W' hW)
theorem nestS_len (i : Nat) : (nestS i).length = 2 * i := by simp [nestS]; omega
theorem nestS_succ (i : Nat) : (⟨#[91]⟩ ++ ba (nestS i) ++ ⟨#[93]⟩ : ByteArray) = ba (nestS (i + 1)) := by
  refine bl_inj ?_
  rw [bl_append, bl_append, bl_ba, bl_ba, show bl (⟨#[91]⟩ : ByteArray) = [91] from rfl, show bl (⟨#[93]⟩ : ByteArray) = [93] from rfl]
  simp only [nestS, List.append_assoc]
  rw [← List.replicate_succ' (n := i) (a := (93 : UInt8))]
  rfl
def zq (q : Nat) : Value := if q = 0 then .int .i64 0 else if q = 1 then .int .i64 0 else if q = 2 then .string ⟨#[]⟩ else .slice none 0 0
def RowP (cs : Array Value) (M i : Nat) : Prop := cs.size = M * 5 ∧ ∀ j q, j < M → q < 5 → cs[j * 5 + q]? = some (if q = 0 then .int .i64 (if j < i then 1 else 0) else zq q)
theorem row_made (M : Nat) : RowP (madeCells (Value.agg #[.int .i64 0, .int .i64 0, .string ⟨#[]⟩, .slice none 0 0, .slice none 0 0]).cells (M * 5)) M 0 := by
  refine ⟨size_madeCells _ _, fun j q hj hq => ?_⟩
  have h5 : (Value.agg #[.int .i64 0, .int .i64 0, .string ⟨#[]⟩, .slice none 0 0, .slice none 0 0]).cells = #[.int .i64 0, .int .i64 0, .string ⟨#[]⟩, .slice none 0 0, .slice none 0 0] := rfl
  rw [h5, madeCells, Array.getElem?_map, Array.getElem?_range, if_pos (by omega)]
  have hq5 : (j * 5 + q) % 5 = q := by omega
  show some (#[_, _, _, _, _][(j * 5 + q) % 5]!) = _
  rw [hq5]
  have : q = 0 ∨ q = 1 ∨ q = 2 ∨ q = 3 ∨ q = 4 := by omega
  rcases this with rfl | rfl | rfl | rfl | rfl <;> simp [zq]
theorem row_put {cs : Array Value} {M i : Nat} (h : RowP cs M i) (hi : i < M) : RowP (cs.setIfInBounds (i * 5) (.int .i64 1)) M (i + 1) := by
  obtain ⟨h1, h2⟩ := h
  refine ⟨by simpa using h1, fun j q hj hq => ?_⟩
  rw [Array.getElem?_setIfInBounds]
  have := h2 j q hj hq
  by_cases he : i * 5 = j * 5 + q
  · rw [if_pos he]
    have hq0 : q = 0 := by omega
    have hji : j = i := by omega
    subst hq0; subst hji
    rw [if_pos (by rw [h1]; omega), if_pos rfl, if_pos (by omega)]
  · rw [if_neg he, this]
    by_cases hq0 : q = 0
    · subst hq0
      have hne : j ≠ i := fun e => he (by rw [e, Nat.add_zero])
      rw [if_pos rfl, if_pos rfl]
      by_cases hji : j < i
      · rw [if_pos hji, if_pos (by omega)]
      · rw [if_neg hji, if_neg (by omega)]
    · rw [if_neg hq0, if_neg hq0]
def oneV : V := ⟨1, 0, ⟨#[]⟩, [], []⟩
theorem row_C {cs : Array Value} {M g : Nat} {w : World} (h : RowP cs M M) (hM : M ≤ 1000) (hb : w.heap[g]? = some (.cells cs 25 (0, 0))) : Kd.C k25 w (some ⟨g, 0, none⟩) M (List.replicate M oneV) := by
  refine ⟨List.length_replicate, by omega, fun _ => ⟨_, rfl, fun j p hj => ?_⟩⟩
  have hjm : j < M := by
    have := (List.getElem?_eq_some_iff.1 hj).1
    rwa [List.length_replicate] at this
  have hp : p = oneV := by
    have := (List.getElem?_eq_some_iff.1 hj).2
    rw [List.getElem_replicate] at this
    exact this.symm
  subst hp
  refine ⟨[.int .i64 1, .int .i64 0, .string ⟨#[]⟩, .slice none 0 0, .slice none 0 0], rfl, ?_, fun q u hu => ?_⟩
  · exact k25_mk w oneV (A3 := none) (c3 := 0) (Nat.le_refl 0) (Kd.C_nil _ _) (A4 := none) (c4 := 0) (Nat.le_refl 0) (Kd.C_nil _ _)
  · have hq : q < 5 := (List.getElem?_eq_some_iff.1 hu).1
    have hc := h.2 j q hjm hq
    rw [if_pos hjm] at hc
    show w.cell? ((⟨g, 0, none⟩ : Addr).add (j * 5 + q)) = _
    rw [Addr.add_lit, Nat.zero_add, blk_cell hb, hc, ← hu]
    have : q = 0 ∨ q = 1 ∨ q = 2 ∨ q = 3 ∨ q = 4 := by omega
    rcases this with rfl | rfl | rfl | rfl | rfl <;> rfl
theorem many_fits (M : Nat) : fitsB 8 ⟨5, 0, ⟨#[]⟩, List.replicate M oneV, []⟩ = decide (M ≤ 64) := by
  have hone : fitsB 7 oneV = true := by decide +kernel
  have hall : (List.replicate M oneV).all (fitsB 7) = true := by
    rw [List.all_eq_true]
    intro x hx
    rw [(List.mem_replicate.1 hx).2]
    exact hone
  rw [fitsB]
  show (_ && bareB ⟨5, 0, ⟨#[]⟩, List.replicate M oneV, []⟩ && _ && (List.replicate M oneV).all (fitsB 7)) = _
  rw [hall]
  have hb : bareB ⟨5, 0, ⟨#[]⟩, List.replicate M oneV, []⟩ = decide (M ≤ 64) := by
    unfold bareB
    simp only [List.length_replicate]
    rfl
  rw [hb]
  cases decide (M ≤ 64) <;> rfl
theorem good_nest (j : Nat) (A : Option Addr) (c : Nat) (w : World) (hc : (nestV j).f3.length ≤ c) (hC : Kd.C k25 w A (nestV j).f3.length (nestV j).f3) :
    Calls Tryz.prog 14 #[.agg #[.int .i64 5, .int .i64 0, .string ⟨#[]⟩, .slice A (nestV j).f3.length c, .slice none 0 0]] w fun e w' => e = .returned (.bool (fitsB 8 (nestV j))) ∧ Below w.heap.size w w' := by
  have h5 : (nestV j).f0 = 5 ∧ (nestV j).f1 = 0 ∧ (nestV j).f2 = ⟨#[]⟩ ∧ (nestV j).f4 = [] := by cases j <;> exact ⟨rfl, rfl, rfl, rfl⟩
  have := good_calls (nestV j) A none c 0 w hc (by rw [h5.2.2.2]; exact Nat.le_refl 0) hC (by rw [h5.2.2.2]; exact Kd.C_nil _ _)
  rw [h5.1, h5.2.1, h5.2.2.1, h5.2.2.2] at this
  exact this
theorem good_list (L : List V) (A : Option Addr) (w : World) (hC : Kd.C k25 w A L.length L) :
    Calls Tryz.prog 14 #[.agg #[.int .i64 5, .int .i64 0, .string ⟨#[]⟩, .slice A L.length L.length, .slice none 0 0]] w fun e w' => e = .returned (.bool (fitsB 8 ⟨5, 0, ⟨#[]⟩, L, []⟩)) ∧ Below w.heap.size w w' :=
  good_calls ⟨5, 0, ⟨#[]⟩, L, []⟩ A none L.length 0 w (Nat.le_refl _) (Nat.le_refl 0) hC (Kd.C_nil _ _)
theorem good_many (M : Nat) (A : Option Addr) (w : World) (hC : Kd.C k25 w A M (List.replicate M oneV)) :
    Calls Tryz.prog 14 #[.agg #[.int .i64 5, .int .i64 0, .string ⟨#[]⟩, .slice A M M, .slice none 0 0]] w fun e w' => e = .returned (.bool (decide (M ≤ 64))) ∧ Below w.heap.size w w' := by
  have hl : (List.replicate M oneV).length = M := List.length_replicate
  have hf := many_fits M
  obtain ⟨L, hL⟩ : ∃ L, List.replicate M oneV = L := ⟨_, rfl⟩
  rw [hL] at hl hf hC
  subst hl
  rw [← hf]
  exact good_list L A w hC
theorem deep_err : ∀ K : Fin 13, 1 ≤ K.val → (parseL (nestS K.val)).2 = (if K.val ≤ 8 then 0 else 4) := by decide +kernel
theorem deep_fits : ∀ K : Fin 13, 1 ≤ K.val → fitsB 8 (nestV (K.val - 1)) = decide (K.val ≤ 8) := by decide +kernel
set_option maxHeartbeats 8000000 in
set_option maxRecDepth 100000 in
theorem exequaturlaw05_JsonDeep.calls (a0 a1 : Int) (r : Bool) (w : World) (h : exequaturlaw05_JsonDeep.f a0 a1 = some r) (hG : GOK w := by first | assumption | exact hG | exact GOK.drewN _ hG | exact GOK.below hG (by repeat (first | (with_reducible first | exact HB.out | apply below_alloc | apply pw_below_drewN | apply below_drew1 | refine below_set ?_ (Aside0.out (by assumption))) | exact HB.out))) :
    Calls Tryz.prog 4 #[.int .u8 a0, .int .u8 a1] w fun e w' => e = .returned (.bool r) ∧ Below w.heap.size w w' := by
  have hu := Tryz.underlying25
  unfold exequaturlaw05_JsonDeep.f at h
  split at h
  case isFalse => cases h
  rename_i hs
  obtain rfl := Option.some.inj h
  have HG := Aside0.mk hG
  clear h hG
  obtain ⟨z0, z1, z2, z3⟩ := hs
  obtain ⟨K, hK⟩ : ∃ K : Nat, a0 % 12 + 1 = (K : Int) := ⟨(a0 % 12 + 1).toNat, by omega⟩
  obtain ⟨M, hM⟩ : ∃ M : Nat, a1 % 80 = (M : Int) := ⟨(a1 % 80).toNat, by omega⟩
  have hK1 : K ≤ 12 := by omega
  have hK0 : 1 ≤ K := by omega
  have hM1 : M < 80 := by omega
  have B1 := Aside0.mk (blk_new w (.cells #[.int .i64 5, .int .i64 0, .string ⟨#[]⟩, .slice none 0 0, .slice none 0 0] 25))
  have HB1 := Aside0.mk (below_alloc (Below.refl _ w) (.cells #[.int .i64 5, .int .i64 0, .string ⟨#[]⟩, .slice none 0 0, .slice none 0 0] 25))
  go_enter Tryz.func4, Tryz.ntmps4
  go_wp2
  go_loopw [7, 9] (fun v7 v9 wr => ∃ (i : Nat) (A : Option Addr) (c : Nat), i ≤ K ∧ v7 = .string (ba (nestS i)) ∧ v9 = .int .i64 i ∧ Aside0 (wr.heap[w.heap.size]? = some (.cells #[.int .i64 5, .int .i64 0, .string ⟨#[]⟩, .slice A (nestV (i - 1)).f3.length c, .slice none 0 0] 25 (0, 0))) ∧ Aside0 ((nestV (i - 1)).f3.length ≤ c) ∧ Aside0 (Kd.F k25 wr (fun k => w.heap.size < k) A (nestV (i - 1)).f3.length (nestV (i - 1)).f3) ∧ Aside0 (Below w.heap.size w wr)) (fun _ i _ => K - (intOf i).toNat)
  case atStart => exact ⟨0, none, 0, Nat.zero_le _, rfl, rfl, B1, ⟨Nat.le_refl _⟩, ⟨Kd.F_nil _ _ _⟩, HB1⟩
  case round =>
    obtain ⟨i, A, c, hi, rfl, rfl, BK, HC, HF, HB⟩ := hrel
    clear B1 HB1
    obtain ⟨S, hS⟩ : ∃ S, ba (nestS i) = S := ⟨_, rfl⟩
    have hSs : S.size = 2 * i := by rw [← hS, size_ba, nestS_len]
    have HS := Aside0.mk (nestS_succ i)
    rw [hS] at HS ⊢
    by_cases hlt : i < K
    · have q1 : decide ((i : Int) < (K : Int)) = true := decide_eq_true (by omega)
      have s1 : (9223372036854775807 < 1 + S.size) = False := eq_false (by omega)
      have s2 : (9223372036854775807 < 1 + S.size + 1) = False := eq_false (by omega)
      cases i with
      | zero =>
        go_wp2
        go_roundw
        case rel => exact ⟨1, A, c, by omega, congrArg Value.string HS.out, by go_num, BK, HC, HF, HB⟩
        case measure => simp [intOf]; omega
      | succ j =>
        have m0 := (blk_cell BK.out 0).trans (rfl : _ = some (Value.int .i64 5))
        have m1 := (blk_cell BK.out 1).trans (rfl : _ = some (Value.int .i64 0))
        have m2 := (blk_cell BK.out 2).trans (rfl : _ = some (Value.string ⟨#[]⟩))
        have m3 := (blk_cell BK.out 3).trans (rfl : _ = some (Value.slice A (nestV j).f3.length c))
        have m4 := (blk_cell BK.out 4).trans (rfl : _ = some (Value.slice none 0 0))
        have q2 : decide ((0 : Int) < ((j + 1 : Nat) : Int)) = true := decide_eq_true (by omega)
        obtain ⟨W1, hW1⟩ : ∃ W, wr.alloc (.cells #[.int .i64 5, .int .i64 0, .string ⟨#[]⟩, .slice A (nestV j).f3.length c, .slice none 0 0] 25) = W := ⟨_, rfl⟩
        have bk1 := blk_alloc BK.out (.cells #[.int .i64 5, .int .i64 0, .string ⟨#[]⟩, .slice A (nestV j).f3.length c, .slice none 0 0] 25)
        have nw1 := blk_new wr (.cells #[.int .i64 5, .int .i64 0, .string ⟨#[]⟩, .slice A (nestV j).f3.length c, .slice none 0 0] 25)
        have hb1 := below_alloc (Below.refl _ wr) (.cells #[.int .i64 5, .int .i64 0, .string ⟨#[]⟩, .slice A (nestV j).f3.length c, .slice none 0 0] 25)
        rw [hW1] at bk1 hb1 nw1
        have HW1 := Aside0.mk hW1
        have BK1 := Aside0.mk bk1
        have NW1 := Aside0.mk nw1
        have HB1 := Aside0.mk hb1
        have y0 := (blk_cell bk1 0).trans (rfl : _ = some (Value.int .i64 5))
        have y1 := (blk_cell bk1 1).trans (rfl : _ = some (Value.int .i64 0))
        have y2 := (blk_cell bk1 2).trans (rfl : _ = some (Value.string ⟨#[]⟩))
        have y3 := (blk_cell bk1 3).trans (rfl : _ = some (Value.slice A (nestV j).f3.length c))
        have y4 := (blk_cell bk1 4).trans (rfl : _ = some (Value.slice none 0 0))
        have i0 := blk_frozen bk1 0
        have i1 := blk_frozen bk1 1
        have i2 := blk_frozen bk1 2
        have i3 := blk_frozen bk1 3
        have i4 := blk_frozen bk1 4
        clear hW1 bk1 hb1 nw1
        go_wp2_with (rw [HW1.out])
        go_roundw
        case rel =>
          have hwr := HB.out.size
          have hwl := blk_lt BK.out
          have hne : ∀ k_, w.heap.size < k_ → k_ ≠ w.heap.size := fun k_ h => by omega
          have hF1 := Kd.F_below HF.out HB1.out
          have hrow : Kd.F k25 W1 (fun k_ => w.heap.size < k_) (some ⟨wr.heap.size, 0, none⟩) 1 [nestV j] :=
            rowF1 (c := [.int .i64 5, .int .i64 0, .string ⟨#[]⟩, .slice A (nestV j).f3.length c, .slice none 0 0]) NW1.out hwl (by
              have h5 : (nestV j).f0 = 5 ∧ (nestV j).f1 = 0 ∧ (nestV j).f2 = ⟨#[]⟩ ∧ (nestV j).f4 = [] := by cases j <;> exact ⟨rfl, rfl, rfl, rfl⟩
              have hm := k25_mkF W1 (fun k_ => w.heap.size < k_) (nestV j) (A3 := A) (c3 := c) HC.out hF1 (A4 := none) (c4 := 0) (by rw [h5.2.2.2]; exact Nat.le_refl 0) (by rw [h5.2.2.2]; exact Kd.F_nil _ _ _)
              rw [h5.1, h5.2.1, h5.2.2.1, h5.2.2.2] at hm
              exact hm)
          refine ⟨j + 1 + 1, some ⟨wr.heap.size, 0, none⟩, 1, by omega, congrArg Value.string HS.out, by go_num, ⟨?_⟩, ⟨Nat.le_refl 1⟩, ⟨?_⟩, ⟨?_⟩⟩
          · exact fill5 BK1.out
          · exact Kd.F_far (p := ⟨w.heap.size, 4, none⟩) (Kd.F_far (p := ⟨w.heap.size, 3, none⟩) (Kd.F_far (p := ⟨w.heap.size, 2, none⟩) (Kd.F_far (p := ⟨w.heap.size, 1, none⟩) (Kd.F_far (p := ⟨w.heap.size, 0, none⟩) hrow hne _) hne _) hne _) hne _) hne _
          · exact below_set (below_set (below_set (below_set (below_set (below_then HB.out HB.out.size HB1.out) (Nat.le_refl _)) (Nat.le_refl _)) (Nat.le_refl _)) (Nat.le_refl _)) (Nat.le_refl _)
        case measure => simp [intOf]; omega
    · obtain rfl : i = K := by omega
      have q1 : decide ((i : Int) < (i : Int)) = false := decide_eq_false (by omega)
      have HK := Aside0.mk hK
      clear hlt hi hK
      have HPC := Aside0.mk (jparse_calls (nestS i) wr (HG.out.below HB.out))
      rw [hS] at HPC
      go_wp2_with fail
      refine HPC.out.mono ?_
      rintro e w3 ⟨c3, c4, rfl, hx3, hx4, hb3⟩
      rw [deep_err ⟨i, by omega⟩ hK0]
      obtain ⟨er, her⟩ : ∃ er : Int, (if i ≤ 8 then (0 : Int) else 4) = er := ⟨_, rfl⟩
      rw [show (if (⟨i, by omega⟩ : Fin 13).val ≤ 8 then (0 : Int) else 4) = er from her]
      obtain ⟨P, hP⟩ : ∃ P, (parseL (nestS i)).1 = P := ⟨_, rfl⟩
      rw [hP] at hx3 hx4 ⊢
      obtain ⟨A3, q3, rfl⟩ := Kd.R_slice hx3
      obtain ⟨A4, q4, rfl⟩ := Kd.R_slice hx4
      obtain ⟨W4, hW4⟩ : ∃ W, w3.alloc (.cells #[.int .i64 P.f0, .int .i64 P.f1, .string P.f2, .slice A3 P.f3.length q3, .slice A4 P.f4.length q4] 25) = W := ⟨_, rfl⟩
      have hb4 := below_alloc hb3 (.cells #[.int .i64 P.f0, .int .i64 P.f1, .string P.f2, .slice A3 P.f3.length q3, .slice A4 P.f4.length q4] 25)
      rw [hW4] at hb4
      obtain ⟨Z, hZ⟩ : ∃ Z, madeCells (Value.agg #[.int .i64 0, .int .i64 0, .string ⟨#[]⟩, .slice none 0 0, .slice none 0 0]).cells (M * 5) = Z := ⟨_, rfl⟩
      have hZ0 := row_made M
      rw [hZ] at hZ0
      have hmk : ∀ W : World, (Instr.makeSlice 22 (.int .i64 (M : Int)) (.int .i64 (M : Int))).run Tryz.prog W = .ok (.slice (some ⟨W.heap.size, 0, none⟩) M M) (W.alloc (.cells Z 25)) := by
        intro W
        obtain ⟨i0, hi0, hzz⟩ := Option.map_eq_some_iff.1 (show (Tryz.prog.info? 25).map (fun i => (i.zero, i.size, i.bytes)) = some (some (Value.agg #[.int .i64 0, .int .i64 0, .string ⟨#[]⟩, .slice none 0 0, .slice none 0 0]), 5, 80) from by kernel_rfl)
        simp only [Prod.mk.injEq] at hzz
        obtain ⟨hz0, hz1, hz2⟩ := hzz
        have := run_make (P := Tryz.prog) W 22 25 i0 _ Tryz.underlying22 hi0 hz0 .i64 .i64 (M : Int) (M : Int) (by omega) (by omega) (by rw [hz2]; omega) (by omega)
        rw [hz1, Int.toNat_natCast, hZ] at this
        exact this
      obtain ⟨W5, hW5⟩ : ∃ W, (W4.alloc (.cells Z 25)).alloc (.cells #[.int .i64 5, .int .i64 0, .string ⟨#[]⟩, .slice (some ⟨W4.heap.size, 0, none⟩) M M, .slice none 0 0] 25) = W := ⟨_, rfl⟩
      have rw5 := blk_alloc (blk_new W4 (.cells Z 25)) (.cells #[.int .i64 5, .int .i64 0, .string ⟨#[]⟩, .slice (some ⟨W4.heap.size, 0, none⟩) M M, .slice none 0 0] 25)
      have bl5 := blk_new (W4.alloc (.cells Z 25)) (.cells #[.int .i64 5, .int .i64 0, .string ⟨#[]⟩, .slice (some ⟨W4.heap.size, 0, none⟩) M M, .slice none 0 0] 25)
      rw [show (W4.alloc (.cells Z 25)).heap.size = W4.heap.size + 1 by simp] at bl5
      have hb5 := below_alloc (below_alloc (Below.refl _ W4) (.cells Z 25)) (.cells #[.int .i64 5, .int .i64 0, .string ⟨#[]⟩, .slice (some ⟨W4.heap.size, 0, none⟩) M M, .slice none 0 0] 25)
      rw [hW5] at rw5 bl5 hb5
      have HW4 := Aside0.mk hW4
      have HW5 := Aside0.mk hW5
      have HB4 := Aside0.mk hb4
      have HB5 := Aside0.mk hb5
      have RW5 := Aside0.mk rw5
      have BL5 := Aside0.mk bl5
      have HZ0 := Aside0.mk hZ0
      clear hx3 hx4 hb3 HPC hP hW4 hb4 hZ hZ0 hW5 rw5 bl5 hb5
      go_wp2_with (first | rw [HW5.out] | rw [HW4.out])
      clear hmk
      go_loopw [13] (fun v13 wr => ∃ (i2 : Nat) (cs : Array Value), i2 ≤ M ∧ v13 = .int .i64 i2 ∧ Aside0 (wr.heap[W4.heap.size]? = some (.cells cs 25 (0, 0))) ∧ Aside0 (RowP cs M i2) ∧ Aside0 (wr.heap[W4.heap.size + 1]? = some (.cells #[.int .i64 5, .int .i64 0, .string ⟨#[]⟩, .slice (some ⟨W4.heap.size, 0, none⟩) M M, .slice none 0 0] 25 (0, 0))) ∧ Aside0 (Below W4.heap.size W4 wr)) (fun i _ => M - (intOf i).toNat)
      case atStart => exact ⟨0, Z, Nat.zero_le _, rfl, RW5, HZ0, BL5, HB5⟩
      case round =>
        obtain ⟨i2, cs, hi2, rfl, RW, RP, BL, HBR⟩ := hrel
        clear RW5 BL5 HB5 HW5
        have hlsz := blk_lt BL.out
        have n0 := (blk_cell BL.out 0).trans (rfl : _ = some (Value.int .i64 5))
        have n1 := (blk_cell BL.out 1).trans (rfl : _ = some (Value.int .i64 0))
        have n2 := (blk_cell BL.out 2).trans (rfl : _ = some (Value.string ⟨#[]⟩))
        have n3 := (blk_cell BL.out 3).trans (rfl : _ = some (Value.slice (some ⟨W4.heap.size, 0, none⟩) M M))
        have n4 := (blk_cell BL.out 4).trans (rfl : _ = some (Value.slice none 0 0))
        by_cases hl2 : i2 < M
        · have q1 : decide ((i2 : Int) < (M : Int)) = true := decide_eq_true (by omega)
          have q2 : (i2 : Int) < (M : Int) := by omega
          have q3 : (0 : Int) ≤ (i2 : Int) := by omega
          have c0 : wr.cell? ⟨W4.heap.size, i2 * 5, none⟩ = some (.int .i64 0) := by
            have := RP.out.2 i2 0 hl2 (by omega)
            rw [if_pos rfl, if_neg (by omega), Nat.add_zero] at this
            exact (blk_cell RW.out (i2 * 5)).trans this
          have f0 : wr.frozen? ⟨W4.heap.size, i2 * 5, none⟩ = false := blk_frozen RW.out (i2 * 5)
          go_wp2
          go_roundw
          case rel =>
            refine ⟨i2 + 1, _, by omega, by go_num, ⟨blk_set RW.out (i2 * 5) (.int .i64 1)⟩, ⟨row_put RP.out hl2⟩, ⟨blk_far BL.out (p := ⟨W4.heap.size, i2 * 5, none⟩) (by show W4.heap.size + 1 ≠ W4.heap.size; omega) _⟩, ⟨below_set HBR.out (Nat.le_refl _)⟩⟩
          case measure => simp [intOf]; omega
        · obtain rfl : i2 = M := by omega
          have q1 : decide ((i2 : Int) < (i2 : Int)) = false := decide_eq_false (by omega)
          have HM := Aside0.mk hM
          clear hl2 hi2 hM
          have hb1r := below_then HB4.out HB4.out.size HBR.out
          have HBALL := Aside0.mk (below_then HB.out HB.out.size hb1r)
          have HFR := Aside0.mk (Kd.F_below HF.out hb1r)
          have BV := Aside0.mk (blk_below BK.out hb1r)
          have HCL := Aside0.mk (row_C RP.out (by omega) RW.out)
          have HAN := Aside0.mk (exequaturlaw05_answers.calls true wr rfl (HG.out.below HBALL.out))
          have HFT := Aside0.mk (deep_fits ⟨i, by omega⟩ hK0)
          have HER := Aside0.mk her
          clear n0 n1 n2 n3 n4 hb1r her
          by_cases h8 : i ≤ 8
          · have her := HER.out
            rw [if_pos h8] at her
            subst her
            have r1 : decide ((i : Int) ≤ 8) = true := decide_eq_true (by omega)
            have hft : fitsB 8 (nestV (i - 1)) = true := HFT.out.trans (decide_eq_true h8)
            have HFT2 := Aside0.mk hft
            clear hft
            go_wp2_with fail
            refine HAN.out.mono ?_
            rintro e w7 ⟨rfl, hb7⟩
            have HB7 := Aside0.mk hb7
            have bv7 := blk_below BV.out hb7
            have HGN := Aside0.mk (good_nest (i - 1) A c w7 HC.out (Kd.F_now (Kd.F_below HFR.out hb7)))
            rw [HFT2.out] at HGN
            have v0 := (blk_cell bv7 0).trans (rfl : _ = some (Value.int .i64 5))
            have v1 := (blk_cell bv7 1).trans (rfl : _ = some (Value.int .i64 0))
            have v2 := (blk_cell bv7 2).trans (rfl : _ = some (Value.string ⟨#[]⟩))
            have v3 := (blk_cell bv7 3).trans (rfl : _ = some (Value.slice A (nestV (i - 1)).f3.length c))
            have v4 := (blk_cell bv7 4).trans (rfl : _ = some (Value.slice none 0 0))
            clear hb7 bv7
            go_wp2_with fail
            refine HGN.out.mono ?_
            rintro e w8 ⟨rfl, hb8⟩
            have HB8 := Aside0.mk (below_then HB7.out HB7.out.size hb8)
            have bl8 := blk_below BL.out HB8.out
            have HGM := Aside0.mk (good_many i2 _ w8 (Kd.C_below HCL.out HB8.out))
            have k0 := (blk_cell bl8 0).trans (rfl : _ = some (Value.int .i64 5))
            have k1 := (blk_cell bl8 1).trans (rfl : _ = some (Value.int .i64 0))
            have k2 := (blk_cell bl8 2).trans (rfl : _ = some (Value.string ⟨#[]⟩))
            have k3 := (blk_cell bl8 3).trans (rfl : _ = some (Value.slice (some ⟨W4.heap.size, 0, none⟩) i2 i2))
            have k4 := (blk_cell bl8 4).trans (rfl : _ = some (Value.slice none 0 0))
            clear hb8 bl8
            by_cases h64 : i2 ≤ 64
            · have r2 : decide ((i2 : Int) ≤ 64) = true := decide_eq_true (by omega)
              rw [decide_eq_true h64] at HGM
              go_wp2_with fail
              refine HGM.out.mono ?_
              rintro e w9 ⟨rfl, hb9⟩
              have HB9 := Aside0.mk (below_then HBALL.out HBALL.out.size (below_then HB8.out HB8.out.size hb9))
              clear hb9
              go_wp2
              go_ret
              exact ⟨rfl, HB9.out⟩
            · have r2 : decide ((i2 : Int) ≤ 64) = false := decide_eq_false (by omega)
              rw [decide_eq_false h64] at HGM
              go_wp2_with fail
              refine HGM.out.mono ?_
              rintro e w9 ⟨rfl, hb9⟩
              have HB9 := Aside0.mk (below_then HBALL.out HBALL.out.size (below_then HB8.out HB8.out.size hb9))
              clear hb9
              go_wp2
              go_ret
              exact ⟨rfl, HB9.out⟩
          · have her := HER.out
            rw [if_neg h8] at her
            subst her
            have r1 : decide ((i : Int) ≤ 8) = false := decide_eq_false (by omega)
            have hft : fitsB 8 (nestV (i - 1)) = false := HFT.out.trans (decide_eq_false h8)
            have HFT2 := Aside0.mk hft
            clear hft
            go_wp2_with fail
            refine HAN.out.mono ?_
            rintro e w7 ⟨rfl, hb7⟩
            have HB7 := Aside0.mk hb7
            have bv7 := blk_below BV.out hb7
            have HGN := Aside0.mk (good_nest (i - 1) A c w7 HC.out (Kd.F_now (Kd.F_below HFR.out hb7)))
            rw [HFT2.out] at HGN
            have v0 := (blk_cell bv7 0).trans (rfl : _ = some (Value.int .i64 5))
            have v1 := (blk_cell bv7 1).trans (rfl : _ = some (Value.int .i64 0))
            have v2 := (blk_cell bv7 2).trans (rfl : _ = some (Value.string ⟨#[]⟩))
            have v3 := (blk_cell bv7 3).trans (rfl : _ = some (Value.slice A (nestV (i - 1)).f3.length c))
            have v4 := (blk_cell bv7 4).trans (rfl : _ = some (Value.slice none 0 0))
            clear hb7 bv7
            go_wp2_with fail
            refine HGN.out.mono ?_
            rintro e w8 ⟨rfl, hb8⟩
            have HB8 := Aside0.mk (below_then HB7.out HB7.out.size hb8)
            have bl8 := blk_below BL.out HB8.out
            have HGM := Aside0.mk (good_many i2 _ w8 (Kd.C_below HCL.out HB8.out))
            have k0 := (blk_cell bl8 0).trans (rfl : _ = some (Value.int .i64 5))
            have k1 := (blk_cell bl8 1).trans (rfl : _ = some (Value.int .i64 0))
            have k2 := (blk_cell bl8 2).trans (rfl : _ = some (Value.string ⟨#[]⟩))
            have k3 := (blk_cell bl8 3).trans (rfl : _ = some (Value.slice (some ⟨W4.heap.size, 0, none⟩) i2 i2))
            have k4 := (blk_cell bl8 4).trans (rfl : _ = some (Value.slice none 0 0))
            clear hb8 bl8
            by_cases h64 : i2 ≤ 64
            · have r2 : decide ((i2 : Int) ≤ 64) = true := decide_eq_true (by omega)
              rw [decide_eq_true h64] at HGM
              go_wp2_with fail
              refine HGM.out.mono ?_
              rintro e w9 ⟨rfl, hb9⟩
              have HB9 := Aside0.mk (below_then HBALL.out HBALL.out.size (below_then HB8.out HB8.out.size hb9))
              clear hb9
              go_wp2
              go_ret
              exact ⟨rfl, HB9.out⟩
            · have r2 : decide ((i2 : Int) ≤ 64) = false := decide_eq_false (by omega)
              rw [decide_eq_false h64] at HGM
              go_wp2_with fail
              refine HGM.out.mono ?_
              rintro e w9 ⟨rfl, hb9⟩
              have HB9 := Aside0.mk (below_then HBALL.out HBALL.out.size (below_then HB8.out HB8.out.size hb9))
              clear hb9
              go_wp2
              go_ret
              exact ⟨rfl, HB9.out⟩
end Go.Proofs.YtifejhbochkifaaGreatDoor.X
