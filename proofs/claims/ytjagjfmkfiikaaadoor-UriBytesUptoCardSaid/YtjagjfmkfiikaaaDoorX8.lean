-- Lean text made by xprint.py (ours) out of the seat's translation. Lean checks it.
import Derived.Test.YtjagjfmkfiikaaaDoorX0
import Derived.Test.YtjagjfmkfiikaaaDoorX7
namespace Go.Proofs.YtjagjfmkfiikaaaDoor.X
open Go.RowKit Go.Proofs.YtjagjfmkfiikaaaDoorW.PrintWords Go.Proofs.YtjagjfmkfiikaaaDoorW.PrintLast Go.Proofs.YtjagjfmkfiikaaaDoorW.PrintMore
attribute [local go_sem] max2_int min2_int max_two min_two max_three min_three max_four min_four   -- for this text's walks alone
set_option linter.unusedVariables false
set_option linter.unusedSimpArgs false

/-! ### exequaturref01_URI: function 12 -/
mutual
def exequaturref01_URI.l0 : Nat → ByteArray → Int → Option (ByteArray × ByteArray × ByteArray × ByteArray × Int)
  | 0, _, _ => none
  | k + 1, x0, x4 => if x4 < (x0.size : Int) then (if 0 ≤ x4 then (if (bt x0 x4) < 33 then (some ((⟨#[]⟩ : ByteArray), (⟨#[]⟩ : ByteArray), (⟨#[]⟩ : ByteArray), (⟨#[]⟩ : ByteArray), 2)) else (if (bt x0 x4) > 126 then (some ((⟨#[]⟩ : ByteArray), (⟨#[]⟩ : ByteArray), (⟨#[]⟩ : ByteArray), (⟨#[]⟩ : ByteArray), 2)) else ((exequaturref01_at.f k (⟨#[34, 35, 60, 62, 92, 94, 96, 123, 124, 125]⟩ : ByteArray) (bt x0 x4)).bind fun t139 => (if t139 < 10 then (some ((⟨#[]⟩ : ByteArray), (⟨#[]⟩ : ByteArray), (⟨#[]⟩ : ByteArray), (⟨#[]⟩ : ByteArray), 2)) else (exequaturref01_URI.l0 k x0 (wrap64 (x4 + 1))))))) else (none)) else (if (x0.size : Int) > 7 then (if 0 ≤ 7 then (if 7 ≤ (x0.size : Int) then (exequaturref01_URI.j1 k x0 ((x0.extract 0 7).toList == ([104, 116, 116, 112, 58, 47, 47] : List UInt8)) (⟨#[]⟩ : ByteArray) (⟨#[]⟩ : ByteArray) (⟨#[]⟩ : ByteArray) (⟨#[]⟩ : ByteArray)) else (none)) else (none)) else (exequaturref01_URI.j1 k x0 false (⟨#[]⟩ : ByteArray) (⟨#[]⟩ : ByteArray) (⟨#[]⟩ : ByteArray) (⟨#[]⟩ : ByteArray)))
def exequaturref01_URI.j2 : Nat → ByteArray → ByteArray → ByteArray → ByteArray → ByteArray → Option (ByteArray × ByteArray × ByteArray × ByteArray × Int)
  | 0, _, _, _, _, _ => none
  | k + 1, x0, x141000, x141001, x141002, x141003 => (exequaturref01_at.f k x0 63).bind fun t141 => (if t141 < (x0.size : Int) then (if 0 ≤ (wrap64 (t141 + 1)) then (if (wrap64 (t141 + 1)) ≤ (x0.size : Int) then (if 0 ≤ t141 then (if t141 ≤ (x0.size : Int) then (exequaturref01_URI.j3 k (x0.extract 0 (t141 : Int).toNat) x141000 x141001 x141002 (x0.extract ((wrap64 (t141 + 1)) : Int).toNat x0.size)) else (none)) else (none)) else (none)) else (none)) else (exequaturref01_URI.j3 k x0 x141000 x141001 x141002 x141003))
def exequaturref01_URI.j3 : Nat → ByteArray → ByteArray → ByteArray → ByteArray → ByteArray → Option (ByteArray × ByteArray × ByteArray × ByteArray × Int)
  | 0, _, _, _, _, _ => none
  | k + 1, x0, x141000, x141001, x141002, x141003 => (exequaturref01_at.f k x0 47).bind fun t142 => (if 0 ≤ t142 then (if t142 ≤ (x0.size : Int) then (exequaturref01_URI.l1 k 0 x141000 (x0.extract 0 (t142 : Int).toNat) (x0.extract (t142 : Int).toNat x0.size) x141003) else (none)) else (none))
def exequaturref01_URI.l1 : Nat → Int → ByteArray → ByteArray → ByteArray → ByteArray → Option (ByteArray × ByteArray × ByteArray × ByteArray × Int)
  | 0, _, _, _, _, _ => none
  | k + 1, x9, x141000, x141001, x141002, x141003 => if x9 < (x141001.size : Int) then (if 0 ≤ x9 then (if (bt x141001 x9) ≥ 97 then (if (bt x141001 x9) ≤ 122 then (exequaturref01_URI.l1 k (wrap64 (x9 + 1)) x141000 x141001 x141002 x141003) else (if (bt x141001 x9) ≥ 48 then (if (bt x141001 x9) ≤ 57 then (exequaturref01_URI.l1 k (wrap64 (x9 + 1)) x141000 x141001 x141002 x141003) else (if (bt x141001 x9) = 45 then (exequaturref01_URI.l1 k (wrap64 (x9 + 1)) x141000 x141001 x141002 x141003) else (if (bt x141001 x9) = 46 then (exequaturref01_URI.l1 k (wrap64 (x9 + 1)) x141000 x141001 x141002 x141003) else (if ((bt x141001 x9) = 58) then (exequaturref01_URI.l1 k (wrap64 (x9 + 1)) x141000 x141001 x141002 x141003) else (some ((⟨#[]⟩ : ByteArray), (⟨#[]⟩ : ByteArray), (⟨#[]⟩ : ByteArray), (⟨#[]⟩ : ByteArray), 2)))))) else (if (bt x141001 x9) = 45 then (exequaturref01_URI.l1 k (wrap64 (x9 + 1)) x141000 x141001 x141002 x141003) else (if (bt x141001 x9) = 46 then (exequaturref01_URI.l1 k (wrap64 (x9 + 1)) x141000 x141001 x141002 x141003) else (if ((bt x141001 x9) = 58) then (exequaturref01_URI.l1 k (wrap64 (x9 + 1)) x141000 x141001 x141002 x141003) else (some ((⟨#[]⟩ : ByteArray), (⟨#[]⟩ : ByteArray), (⟨#[]⟩ : ByteArray), (⟨#[]⟩ : ByteArray), 2))))))) else (if (bt x141001 x9) ≥ 48 then (if (bt x141001 x9) ≤ 57 then (exequaturref01_URI.l1 k (wrap64 (x9 + 1)) x141000 x141001 x141002 x141003) else (if (bt x141001 x9) = 45 then (exequaturref01_URI.l1 k (wrap64 (x9 + 1)) x141000 x141001 x141002 x141003) else (if (bt x141001 x9) = 46 then (exequaturref01_URI.l1 k (wrap64 (x9 + 1)) x141000 x141001 x141002 x141003) else (if ((bt x141001 x9) = 58) then (exequaturref01_URI.l1 k (wrap64 (x9 + 1)) x141000 x141001 x141002 x141003) else (some ((⟨#[]⟩ : ByteArray), (⟨#[]⟩ : ByteArray), (⟨#[]⟩ : ByteArray), (⟨#[]⟩ : ByteArray), 2)))))) else (if (bt x141001 x9) = 45 then (exequaturref01_URI.l1 k (wrap64 (x9 + 1)) x141000 x141001 x141002 x141003) else (if (bt x141001 x9) = 46 then (exequaturref01_URI.l1 k (wrap64 (x9 + 1)) x141000 x141001 x141002 x141003) else (if ((bt x141001 x9) = 58) then (exequaturref01_URI.l1 k (wrap64 (x9 + 1)) x141000 x141001 x141002 x141003) else (some ((⟨#[]⟩ : ByteArray), (⟨#[]⟩ : ByteArray), (⟨#[]⟩ : ByteArray), (⟨#[]⟩ : ByteArray), 2))))))) else (none)) else (if x141001.toList = ([] : List UInt8) then (some ((⟨#[]⟩ : ByteArray), (⟨#[]⟩ : ByteArray), (⟨#[]⟩ : ByteArray), (⟨#[]⟩ : ByteArray), 2)) else (some (x141000, x141001, x141002, x141003, 0)))
def exequaturref01_URI.j1 : Nat → ByteArray → Bool → ByteArray → ByteArray → ByteArray → ByteArray → Option (ByteArray × ByteArray × ByteArray × ByteArray × Int)
  | 0, _, _, _, _, _, _ => none
  | k + 1, x0, x44, x141000, x141001, x141002, x141003 => if x44 = true then (if 7 ≤ (x0.size : Int) then (exequaturref01_URI.j2 k (x0.extract 7 x0.size) (⟨#[104, 116, 116, 112]⟩ : ByteArray) x141001 x141002 x141003) else (none)) else (if (x0.size : Int) > 8 then (if 0 ≤ 8 then (if 8 ≤ (x0.size : Int) then (if (x0.extract 0 8).toList = ([104, 116, 116, 112, 115, 58, 47, 47] : List UInt8) then (exequaturref01_URI.j2 k (x0.extract 8 x0.size) (⟨#[104, 116, 116, 112, 115]⟩ : ByteArray) x141001 x141002 x141003) else (some ((⟨#[]⟩ : ByteArray), (⟨#[]⟩ : ByteArray), (⟨#[]⟩ : ByteArray), (⟨#[]⟩ : ByteArray), 2))) else (none)) else (none)) else (some ((⟨#[]⟩ : ByteArray), (⟨#[]⟩ : ByteArray), (⟨#[]⟩ : ByteArray), (⟨#[]⟩ : ByteArray), 2)))
end
def exequaturref01_URI.f (k : Nat) (a0 : ByteArray) : Option (ByteArray × ByteArray × ByteArray × ByteArray × Int) := if (a0.size : Int) > 4096 then (some ((⟨#[]⟩ : ByteArray), (⟨#[]⟩ : ByteArray), (⟨#[]⟩ : ByteArray), (⟨#[]⟩ : ByteArray), 3)) else (exequaturref01_URI.l0 k a0 0)
theorem exequaturref01_URI.mono_l : ∀ k, (∀ y0 y1, LeO (exequaturref01_URI.l0 k y0 y1) (exequaturref01_URI.l0 (k + 1) y0 y1)) ∧ (∀ y0 y1 y2 y3 y4, LeO (exequaturref01_URI.j2 k y0 y1 y2 y3 y4) (exequaturref01_URI.j2 (k + 1) y0 y1 y2 y3 y4)) ∧ (∀ y0 y1 y2 y3 y4, LeO (exequaturref01_URI.j3 k y0 y1 y2 y3 y4) (exequaturref01_URI.j3 (k + 1) y0 y1 y2 y3 y4)) ∧ (∀ y0 y1 y2 y3 y4, LeO (exequaturref01_URI.l1 k y0 y1 y2 y3 y4) (exequaturref01_URI.l1 (k + 1) y0 y1 y2 y3 y4)) ∧ (∀ y0 y1 y2 y3 y4 y5, LeO (exequaturref01_URI.j1 k y0 y1 y2 y3 y4 y5) (exequaturref01_URI.j1 (k + 1) y0 y1 y2 y3 y4 y5))
  | 0 => ⟨fun _ _ r h => by simp [exequaturref01_URI.l0] at h, fun _ _ _ _ _ r h => by simp [exequaturref01_URI.j2] at h, fun _ _ _ _ _ r h => by simp [exequaturref01_URI.j3] at h, fun _ _ _ _ _ r h => by simp [exequaturref01_URI.l1] at h, fun _ _ _ _ _ _ r h => by simp [exequaturref01_URI.j1] at h⟩
  | k + 1 => by
    obtain ⟨ih0, ih1, ih2, ih3, ih4⟩ := exequaturref01_URI.mono_l k
    refine ⟨?_, ?_, ?_, ?_, ?_⟩
    · intro y0 y1
      unfold exequaturref01_URI.l0
      repeat' first
      | (with_reducible exact ih0 _ _)
      | (with_reducible exact ih1 _ _ _ _ _)
      | (with_reducible exact ih2 _ _ _ _ _)
      | (with_reducible exact ih3 _ _ _ _ _)
      | (with_reducible exact ih4 _ _ _ _ _ _)
      | (with_reducible exact exequaturref01_at.mono _ _ _)
      | (with_reducible exact LeO.refl _)
      | (with_reducible exact LeO.none _)
      | (with_reducible refine LeO.ite ?_ ?_)
      | (with_reducible refine LeO.bind ?_ (fun _ => ?_))
      | exact ih0 _ _
      | exact ih1 _ _ _ _ _
      | exact ih2 _ _ _ _ _
      | exact ih3 _ _ _ _ _
      | exact ih4 _ _ _ _ _ _
      | exact exequaturref01_at.mono _ _ _
      | exact LeO.none _
      | refine LeO.ite ?_ ?_
      | refine LeO.bind ?_ (fun _ => ?_)
    · intro y0 y1 y2 y3 y4
      unfold exequaturref01_URI.j2
      repeat' first
      | (with_reducible exact ih0 _ _)
      | (with_reducible exact ih1 _ _ _ _ _)
      | (with_reducible exact ih2 _ _ _ _ _)
      | (with_reducible exact ih3 _ _ _ _ _)
      | (with_reducible exact ih4 _ _ _ _ _ _)
      | (with_reducible exact exequaturref01_at.mono _ _ _)
      | (with_reducible exact LeO.refl _)
      | (with_reducible exact LeO.none _)
      | (with_reducible refine LeO.ite ?_ ?_)
      | (with_reducible refine LeO.bind ?_ (fun _ => ?_))
      | exact ih0 _ _
      | exact ih1 _ _ _ _ _
      | exact ih2 _ _ _ _ _
      | exact ih3 _ _ _ _ _
      | exact ih4 _ _ _ _ _ _
      | exact exequaturref01_at.mono _ _ _
      | exact LeO.none _
      | refine LeO.ite ?_ ?_
      | refine LeO.bind ?_ (fun _ => ?_)
    · intro y0 y1 y2 y3 y4
      unfold exequaturref01_URI.j3
      repeat' first
      | (with_reducible exact ih0 _ _)
      | (with_reducible exact ih1 _ _ _ _ _)
      | (with_reducible exact ih2 _ _ _ _ _)
      | (with_reducible exact ih3 _ _ _ _ _)
      | (with_reducible exact ih4 _ _ _ _ _ _)
      | (with_reducible exact exequaturref01_at.mono _ _ _)
      | (with_reducible exact LeO.refl _)
      | (with_reducible exact LeO.none _)
      | (with_reducible refine LeO.ite ?_ ?_)
      | (with_reducible refine LeO.bind ?_ (fun _ => ?_))
      | exact ih0 _ _
      | exact ih1 _ _ _ _ _
      | exact ih2 _ _ _ _ _
      | exact ih3 _ _ _ _ _
      | exact ih4 _ _ _ _ _ _
      | exact exequaturref01_at.mono _ _ _
      | exact LeO.none _
      | refine LeO.ite ?_ ?_
      | refine LeO.bind ?_ (fun _ => ?_)
    · intro y0 y1 y2 y3 y4
      unfold exequaturref01_URI.l1
      repeat' first
      | (with_reducible exact ih0 _ _)
      | (with_reducible exact ih1 _ _ _ _ _)
      | (with_reducible exact ih2 _ _ _ _ _)
      | (with_reducible exact ih3 _ _ _ _ _)
      | (with_reducible exact ih4 _ _ _ _ _ _)
      | (with_reducible exact exequaturref01_at.mono _ _ _)
      | (with_reducible exact LeO.refl _)
      | (with_reducible exact LeO.none _)
      | (with_reducible refine LeO.ite ?_ ?_)
      | (with_reducible refine LeO.bind ?_ (fun _ => ?_))
      | exact ih0 _ _
      | exact ih1 _ _ _ _ _
      | exact ih2 _ _ _ _ _
      | exact ih3 _ _ _ _ _
      | exact ih4 _ _ _ _ _ _
      | exact exequaturref01_at.mono _ _ _
      | exact LeO.none _
      | refine LeO.ite ?_ ?_
      | refine LeO.bind ?_ (fun _ => ?_)
    · intro y0 y1 y2 y3 y4 y5
      unfold exequaturref01_URI.j1
      repeat' first
      | (with_reducible exact ih0 _ _)
      | (with_reducible exact ih1 _ _ _ _ _)
      | (with_reducible exact ih2 _ _ _ _ _)
      | (with_reducible exact ih3 _ _ _ _ _)
      | (with_reducible exact ih4 _ _ _ _ _ _)
      | (with_reducible exact exequaturref01_at.mono _ _ _)
      | (with_reducible exact LeO.refl _)
      | (with_reducible exact LeO.none _)
      | (with_reducible refine LeO.ite ?_ ?_)
      | (with_reducible refine LeO.bind ?_ (fun _ => ?_))
      | exact ih0 _ _
      | exact ih1 _ _ _ _ _
      | exact ih2 _ _ _ _ _
      | exact ih3 _ _ _ _ _
      | exact ih4 _ _ _ _ _ _
      | exact exequaturref01_at.mono _ _ _
      | exact LeO.none _
      | refine LeO.ite ?_ ?_
      | refine LeO.bind ?_ (fun _ => ?_)
theorem exequaturref01_URI.mono : ∀ a0 k, LeO (exequaturref01_URI.f k a0) (exequaturref01_URI.f (k + 1) a0) := by
  intro a0 k
  obtain ⟨ih0, ih1, ih2, ih3, ih4⟩ := exequaturref01_URI.mono_l k
  unfold exequaturref01_URI.f
  repeat' first
      | (with_reducible exact ih0 _ _)
      | (with_reducible exact ih1 _ _ _ _ _)
      | (with_reducible exact ih2 _ _ _ _ _)
      | (with_reducible exact ih3 _ _ _ _ _)
      | (with_reducible exact ih4 _ _ _ _ _ _)
      | (with_reducible exact exequaturref01_at.mono _ _ _)
      | (with_reducible exact LeO.refl _)
      | (with_reducible exact LeO.none _)
      | (with_reducible refine LeO.ite ?_ ?_)
      | (with_reducible refine LeO.bind ?_ (fun _ => ?_))
      | exact ih0 _ _
      | exact ih1 _ _ _ _ _
      | exact ih2 _ _ _ _ _
      | exact ih3 _ _ _ _ _
      | exact ih4 _ _ _ _ _ _
      | exact exequaturref01_at.mono _ _ _
      | exact LeO.none _
      | refine LeO.ite ?_ ?_
      | refine LeO.bind ?_ (fun _ => ?_)
def exequaturref01_URI.T17 : Bool × List (List Nat × List Nat) := (true, [([], []), ([], []), ([1], [1]), ([0, 2], [0, 2]), ([], []), ([], []), ([4, 5], [4, 5]), ([0, 1, 2, 3], []), ([7, 3, 0, 1, 2, 3], [3, 7]), ([6, 8, 0, 1, 2, 3, 4, 5, 6, 7, 8], [0, 4, 6])])
def exequaturref01_URI.B17 : List Nat := [0, 0, 2, 7, 0, 0, 48, 15, 143, 511]
theorem exequaturref01_URI.tab17 : rtab .any (opsOf Tryd.f12 17) = exequaturref01_URI.T17 := by kernel_rfl
theorem exequaturref01_URI.bits17 : waitsOk exequaturref01_URI.T17.2 exequaturref01_URI.B17 = true := by kernel_rfl
def exequaturref01_URI.T19 : Bool × List (List Nat × List Nat) := (true, [([], []), ([], []), ([0, 1], [0, 1]), ([], []), ([], []), ([3, 4], [3, 4]), ([0, 1, 2], []), ([6, 2, 0, 1, 2], [2, 6]), ([0, 1, 2, 3, 4, 5, 6, 7], []), ([8, 5, 7, 0, 1, 2, 3, 4, 5, 6, 7], [5, 8])])
def exequaturref01_URI.B19 : List Nat := [0, 0, 3, 0, 0, 24, 7, 71, 255, 511]
theorem exequaturref01_URI.tab19 : rtab .any (opsOf Tryd.f12 19) = exequaturref01_URI.T19 := by kernel_rfl
theorem exequaturref01_URI.bits19 : waitsOk exequaturref01_URI.T19.2 exequaturref01_URI.B19 = true := by kernel_rfl
set_option maxHeartbeats 8000000 in
set_option maxRecDepth 100000 in
theorem exequaturref01_URI.calls (k : Nat) (a0 : ByteArray) (r1 : ByteArray) (r2 : ByteArray) (r3 : ByteArray) (r4 : ByteArray) (r5 : Int) (w : World) (h : exequaturref01_URI.f k a0 = some (r1, r2, r3, r4, r5)) :
    Calls Tryd.prog 12 #[.string a0] w fun e w' => e = .returned (.tuple #[.agg #[.string r1, .string r2, .string r3, .string r4], .int .i64 r5]) ∧ Below w.heap.size w w' := by
  have hu31 := Tryd.underlying31
  have HB := Aside0.mk (Below.refl w.heap.size w)
  have H : (if (a0.size : Int) > 4096 then (some ((⟨#[]⟩ : ByteArray), (⟨#[]⟩ : ByteArray), (⟨#[]⟩ : ByteArray), (⟨#[]⟩ : ByteArray), 3)) else (exequaturref01_URI.l0 k a0 0)) = some (r1, r2, r3, r4, r5) := h
  clear h
  by_cases c2 : (a0.size : Int) > 4096
  · rw [if_pos c2] at H
    have c2b0 : decide (4096 < (a0.size : Int)) = true := decide_eq_true c2
    have c2b1 : decide (4096 < a0.size) = true := decide_eq_true (by omega)
    clear c2
    simp only [Option.some.injEq, Prod.mk.injEq] at H
    obtain ⟨rfl, rfl, rfl, rfl, rfl⟩ := H
    go_enter Tryd.func12, Tryd.ntmps12
    go_wp2_with (first | ((with_reducible refine gate_dst (N := 2) rfl ?_); (try (refine gate_guard (by rfl) ?_; dsimp only)); refine box_event ?hg (N := 2) ?hd (cs := #[.string (⟨#[]⟩ : ByteArray), .string (⟨#[]⟩ : ByteArray), .string (⟨#[]⟩ : ByteArray), .string (⟨#[]⟩ : ByteArray)]) (t := 31) ?hr ?_; (case hd => rfl); (case hg => rfl); (case hr => first | (go_simp; done) | (go_simp; rfl)); intro gb138 hg w3 hbox hb; have n0_ := Aside0.mk (below_step (by repeat (first | (with_reducible first | exact HB.out | apply below_alloc | apply pw_below_drewN | apply below_drew1) | exact HB.out)) hb); have n1_ := Aside0.mk (hbox); have n2_ := Aside0.mk ((by rw [hg]; exact (below_size (by repeat (first | (with_reducible first | exact HB.out | apply below_alloc | apply pw_below_drewN | apply below_drew1) | exact HB.out))) : w.heap.size ≤ gb138)); have n3_ := Aside0.mk ((by rw [hg]; exact (below_size (by repeat (first | (with_reducible first | exact HB.out | apply below_alloc | apply pw_below_drewN | apply below_drew1) | exact HB.out))) : w.heap.size ≤ gb138)); clear HB; have HB := n0_; have BK138 := n1_; have GW138 := n2_; have GE138 := n3_; clear n0_ n1_ n2_ n3_; clear hb hbox hg; have hcz4_0 : w3.cell? ⟨gb138, 0, none⟩ = some (.string (⟨#[]⟩ : ByteArray)) := (blk_cell BK138.out 0).trans rfl; have hcz4_1 : w3.cell? ⟨gb138, 1, none⟩ = some (.string (⟨#[]⟩ : ByteArray)) := (blk_cell BK138.out 1).trans rfl; have hcz4_2 : w3.cell? ⟨gb138, 2, none⟩ = some (.string (⟨#[]⟩ : ByteArray)) := (blk_cell BK138.out 2).trans rfl; have hcz4_3 : w3.cell? ⟨gb138, 3, none⟩ = some (.string (⟨#[]⟩ : ByteArray)) := (blk_cell BK138.out 3).trans rfl; have hfz4_0 := blk_frozen BK138.out 0; have hfz4_1 := blk_frozen BK138.out 1; have hfz4_2 := blk_frozen BK138.out 2; have hfz4_3 := blk_frozen BK138.out 3))
    refine bodyPost_ret (results_ct rfl _ _ gb138 31 #[.string (⟨#[]⟩ : ByteArray), .string (⟨#[]⟩ : ByteArray), .string (⟨#[]⟩ : ByteArray), .string (⟨#[]⟩ : ByteArray)] (0, 0) _ rfl (by (with_reducible repeat (first | refine blk_drewN ?_ _ | refine blk_drew ?_ | refine blk_alloc ?_ _)); refine blk_put (cs := #[.string (⟨#[]⟩ : ByteArray), .string (⟨#[]⟩ : ByteArray), .string (⟨#[]⟩ : ByteArray), .string (⟨#[]⟩ : ByteArray)]) ?_ 3 _ rfl; (with_reducible repeat (first | refine blk_drewN ?_ _ | refine blk_drew ?_ | refine blk_alloc ?_ _)); refine blk_put (cs := #[.string (⟨#[]⟩ : ByteArray), .string (⟨#[]⟩ : ByteArray), .string (⟨#[]⟩ : ByteArray), .string (⟨#[]⟩ : ByteArray)]) ?_ 2 _ rfl; (with_reducible repeat (first | refine blk_drewN ?_ _ | refine blk_drew ?_ | refine blk_alloc ?_ _)); refine blk_put (cs := #[.string (⟨#[]⟩ : ByteArray), .string (⟨#[]⟩ : ByteArray), .string (⟨#[]⟩ : ByteArray), .string (⟨#[]⟩ : ByteArray)]) ?_ 1 _ rfl; (with_reducible repeat (first | refine blk_drewN ?_ _ | refine blk_drew ?_ | refine blk_alloc ?_ _)); refine blk_put (cs := #[.string (⟨#[]⟩ : ByteArray), .string (⟨#[]⟩ : ByteArray), .string (⟨#[]⟩ : ByteArray), .string (⟨#[]⟩ : ByteArray)]) ?_ 0 _ rfl; (with_reducible repeat (first | refine blk_drewN ?_ _ | refine blk_drew ?_ | refine blk_alloc ?_ _)); exact BK138.out) Tryd.underlying31 rfl (by kernel_rfl)) rfl ?_
    exact ⟨by first | rfl | (simp [errW_none, errW_some] <;> rfl) | (simp [*, errW_none, errW_some] <;> rfl), by repeat (first | (with_reducible first | exact HB.out | apply below_alloc | apply pw_below_drewN | apply below_drew1 | refine below_set ?_ GE138.out) | exact HB.out)⟩
    all_goals (first | (exfalso; simp_all <;> omega) | (go_ret; exact ⟨by first | rfl | (simp [errW_none, errW_some] <;> rfl) | (simp [*, errW_none, errW_some] <;> rfl), by repeat (first | (with_reducible first | exact HB.out | apply below_alloc | apply pw_below_drewN | apply below_drew1 | refine below_set ?_ GE138.out) | exact HB.out)⟩))
  · rw [if_neg c2] at H
    have c2b0 : decide (4096 < (a0.size : Int)) = false := decide_eq_false c2
    have c2b1 : decide (4096 < a0.size) = false := decide_eq_false (by omega)
    clear c2
    have H' := Aside0.mk H
    clear H
    go_enter Tryd.func12, Tryd.ntmps12
    go_wp2_with (first | ((with_reducible refine gate_dst (N := 2) rfl ?_); (try (refine gate_guard (by rfl) ?_; dsimp only)); refine box_event ?hg (N := 2) ?hd (cs := #[.string (⟨#[]⟩ : ByteArray), .string (⟨#[]⟩ : ByteArray), .string (⟨#[]⟩ : ByteArray), .string (⟨#[]⟩ : ByteArray)]) (t := 31) ?hr ?_; (case hd => rfl); (case hg => rfl); (case hr => first | (go_simp; done) | (go_simp; rfl)); intro gb138 hg w5 hbox hb; have n0_ := Aside0.mk (below_step (by repeat (first | (with_reducible first | exact HB.out | apply below_alloc | apply pw_below_drewN | apply below_drew1) | exact HB.out)) hb); have n1_ := Aside0.mk (hbox); have n2_ := Aside0.mk ((by rw [hg]; exact (below_size (by repeat (first | (with_reducible first | exact HB.out | apply below_alloc | apply pw_below_drewN | apply below_drew1) | exact HB.out))) : w.heap.size ≤ gb138)); have n3_ := Aside0.mk ((by rw [hg]; exact (below_size (by repeat (first | (with_reducible first | exact HB.out | apply below_alloc | apply pw_below_drewN | apply below_drew1) | exact HB.out))) : w.heap.size ≤ gb138)); clear HB; have HB := n0_; have BK138 := n1_; have GW138 := n2_; have GE138 := n3_; clear n0_ n1_ n2_ n3_; clear hb hbox hg))
    go_loopg [4] k (fun kq v4 w' => ∃ (x4_1 : Int) (x139000_1 : ByteArray) (x139001_1 : ByteArray) (x139002_1 : ByteArray) (x139003_1 : ByteArray), v4 = .int .i64 x4_1 ∧ Aside0 (exequaturref01_URI.l0 kq a0 x4_1 = some (r1, r2, r3, r4, r5)) ∧ Aside0 (kq ≤ k) ∧ Aside0 (w'.heap[gb138]? = some (.cells #[.string x139000_1, .string x139001_1, .string x139002_1, .string x139003_1] 31 (0, 0))) ∧ Aside0 (Below w.heap.size w w'))
    case atStart => exact ⟨(0), ((⟨#[]⟩ : ByteArray)), ((⟨#[]⟩ : ByteArray)), ((⟨#[]⟩ : ByteArray)), ((⟨#[]⟩ : ByteArray)), (by first | rfl | (simp; done) | (simp [*]; done) | (refine congrArg Value.bool ?_; rw [Bool.eq_iff_iff]; simp; done)), H', ⟨Nat.le_refl _⟩, ⟨by (with_reducible repeat (first | refine blk_drewN ?_ _ | refine blk_drew ?_ | refine blk_alloc ?_ _)); exact BK138.out⟩, ⟨by repeat (first | (with_reducible first | exact HB.out | apply below_alloc | apply pw_below_drewN | apply below_drew1 | refine below_set ?_ GE138.out) | exact HB.out)⟩⟩
    case round =>
      clear H'
      try clear c1
      try clear c2
      try clear c2b0
      try clear c2b1
      try clear p2
      try clear hcz4_0
      try clear hcz4_1
      try clear hcz4_2
      try clear hcz4_3
      try clear hfz4_0
      try clear hfz4_1
      try clear hfz4_2
      try clear hfz4_3
      obtain ⟨x4_1, x139000_1, x139001_1, x139002_1, x139003_1, rfl, HA, HK1, BK138, HB⟩ := hrel
      cases gk with
      | zero => exact absurd HA.out (by simp [exequaturref01_URI.l0])
      | succ k1 =>
        have H := HA.out
        clear HA
        simp only [exequaturref01_URI.l0] at H
        by_cases c6 : x4_1 < (a0.size : Int)
        · rw [if_pos c6] at H
          have c6b0 : decide (x4_1 < (a0.size : Int)) = true := decide_eq_true c6
          clear c6
          by_cases c7 : 0 ≤ x4_1
          · rw [if_pos c7] at H
            have c7b0 : decide (0 ≤ x4_1) = true := decide_eq_true c7
            clear c7
            by_cases c9 : (bt a0 x4_1) < 33
            · rw [if_pos c9] at H
              have c9b0 : decide ((bt a0 x4_1) < 33) = true := decide_eq_true c9
              clear c9
              simp only [Option.some.injEq, Prod.mk.injEq] at H
              obtain ⟨rfl, rfl, rfl, rfl, rfl⟩ := H
              have p8 : 0 ≤ (x4_1 : Int) := of_decide_eq_true (by first | (with_reducible assumption) | assumption)
              have q8 : x4_1 < (a0.size : Int) := of_decide_eq_true (by first | (with_reducible assumption) | assumption)
              have hx8 := bt_at a0 x4_1
              replace p8 := eq_true p8
              replace q8 := eq_true q8
              have hcz10_0 : wr.cell? ⟨gb138, 0, none⟩ = some (.string x139000_1) := (blk_cell BK138.out 0).trans rfl
              have hcz10_1 : wr.cell? ⟨gb138, 1, none⟩ = some (.string x139001_1) := (blk_cell BK138.out 1).trans rfl
              have hcz10_2 : wr.cell? ⟨gb138, 2, none⟩ = some (.string x139002_1) := (blk_cell BK138.out 2).trans rfl
              have hcz10_3 : wr.cell? ⟨gb138, 3, none⟩ = some (.string x139003_1) := (blk_cell BK138.out 3).trans rfl
              have hfz10_0 := blk_frozen BK138.out 0
              have hfz10_1 := blk_frozen BK138.out 1
              have hfz10_2 := blk_frozen BK138.out 2
              have hfz10_3 := blk_frozen BK138.out 3
              go_wp2
              refine bodyPost_ret (results_ct rfl _ _ gb138 31 #[.string (⟨#[]⟩ : ByteArray), .string (⟨#[]⟩ : ByteArray), .string (⟨#[]⟩ : ByteArray), .string (⟨#[]⟩ : ByteArray)] (0, 0) _ rfl (by (with_reducible repeat (first | refine blk_drewN ?_ _ | refine blk_drew ?_ | refine blk_alloc ?_ _)); refine blk_put (cs := #[.string (⟨#[]⟩ : ByteArray), .string (⟨#[]⟩ : ByteArray), .string (⟨#[]⟩ : ByteArray), .string x139003_1]) ?_ 3 _ rfl; (with_reducible repeat (first | refine blk_drewN ?_ _ | refine blk_drew ?_ | refine blk_alloc ?_ _)); refine blk_put (cs := #[.string (⟨#[]⟩ : ByteArray), .string (⟨#[]⟩ : ByteArray), .string x139002_1, .string x139003_1]) ?_ 2 _ rfl; (with_reducible repeat (first | refine blk_drewN ?_ _ | refine blk_drew ?_ | refine blk_alloc ?_ _)); refine blk_put (cs := #[.string (⟨#[]⟩ : ByteArray), .string x139001_1, .string x139002_1, .string x139003_1]) ?_ 1 _ rfl; (with_reducible repeat (first | refine blk_drewN ?_ _ | refine blk_drew ?_ | refine blk_alloc ?_ _)); refine blk_put (cs := #[.string x139000_1, .string x139001_1, .string x139002_1, .string x139003_1]) ?_ 0 _ rfl; (with_reducible repeat (first | refine blk_drewN ?_ _ | refine blk_drew ?_ | refine blk_alloc ?_ _)); exact BK138.out) Tryd.underlying31 rfl (by kernel_rfl)) rfl ?_
              exact ⟨by first | rfl | (simp [errW_none, errW_some] <;> rfl) | (simp [*, errW_none, errW_some] <;> rfl), by repeat (first | (with_reducible first | exact HB.out | apply below_alloc | apply pw_below_drewN | apply below_drew1 | refine below_set ?_ GE138.out) | exact HB.out)⟩
              all_goals (first | (exfalso; simp_all <;> omega) | (go_ret; exact ⟨by first | rfl | (simp [errW_none, errW_some] <;> rfl) | (simp [*, errW_none, errW_some] <;> rfl), by repeat (first | (with_reducible first | exact HB.out | apply below_alloc | apply pw_below_drewN | apply below_drew1 | refine below_set ?_ GE138.out) | exact HB.out)⟩))
            · rw [if_neg c9] at H
              have c9b0 : decide ((bt a0 x4_1) < 33) = false := decide_eq_false c9
              clear c9
              by_cases c12 : (bt a0 x4_1) > 126
              · rw [if_pos c12] at H
                have c12b0 : decide (126 < (bt a0 x4_1)) = true := decide_eq_true c12
                clear c12
                simp only [Option.some.injEq, Prod.mk.injEq] at H
                obtain ⟨rfl, rfl, rfl, rfl, rfl⟩ := H
                have p8 : 0 ≤ (x4_1 : Int) := of_decide_eq_true (by first | (with_reducible assumption) | assumption)
                have q8 : x4_1 < (a0.size : Int) := of_decide_eq_true (by first | (with_reducible assumption) | assumption)
                have hx8 := bt_at a0 x4_1
                replace p8 := eq_true p8
                replace q8 := eq_true q8
                have p11 : 0 ≤ (x4_1 : Int) := of_decide_eq_true (by first | (with_reducible assumption) | assumption)
                have q11 : x4_1 < (a0.size : Int) := of_decide_eq_true (by first | (with_reducible assumption) | assumption)
                have hx11 := bt_at a0 x4_1
                replace p11 := eq_true p11
                replace q11 := eq_true q11
                have hcz13_0 : wr.cell? ⟨gb138, 0, none⟩ = some (.string x139000_1) := (blk_cell BK138.out 0).trans rfl
                have hcz13_1 : wr.cell? ⟨gb138, 1, none⟩ = some (.string x139001_1) := (blk_cell BK138.out 1).trans rfl
                have hcz13_2 : wr.cell? ⟨gb138, 2, none⟩ = some (.string x139002_1) := (blk_cell BK138.out 2).trans rfl
                have hcz13_3 : wr.cell? ⟨gb138, 3, none⟩ = some (.string x139003_1) := (blk_cell BK138.out 3).trans rfl
                have hfz13_0 := blk_frozen BK138.out 0
                have hfz13_1 := blk_frozen BK138.out 1
                have hfz13_2 := blk_frozen BK138.out 2
                have hfz13_3 := blk_frozen BK138.out 3
                go_wp2
                refine bodyPost_ret (results_ct rfl _ _ gb138 31 #[.string (⟨#[]⟩ : ByteArray), .string (⟨#[]⟩ : ByteArray), .string (⟨#[]⟩ : ByteArray), .string (⟨#[]⟩ : ByteArray)] (0, 0) _ rfl (by (with_reducible repeat (first | refine blk_drewN ?_ _ | refine blk_drew ?_ | refine blk_alloc ?_ _)); refine blk_put (cs := #[.string (⟨#[]⟩ : ByteArray), .string (⟨#[]⟩ : ByteArray), .string (⟨#[]⟩ : ByteArray), .string x139003_1]) ?_ 3 _ rfl; (with_reducible repeat (first | refine blk_drewN ?_ _ | refine blk_drew ?_ | refine blk_alloc ?_ _)); refine blk_put (cs := #[.string (⟨#[]⟩ : ByteArray), .string (⟨#[]⟩ : ByteArray), .string x139002_1, .string x139003_1]) ?_ 2 _ rfl; (with_reducible repeat (first | refine blk_drewN ?_ _ | refine blk_drew ?_ | refine blk_alloc ?_ _)); refine blk_put (cs := #[.string (⟨#[]⟩ : ByteArray), .string x139001_1, .string x139002_1, .string x139003_1]) ?_ 1 _ rfl; (with_reducible repeat (first | refine blk_drewN ?_ _ | refine blk_drew ?_ | refine blk_alloc ?_ _)); refine blk_put (cs := #[.string x139000_1, .string x139001_1, .string x139002_1, .string x139003_1]) ?_ 0 _ rfl; (with_reducible repeat (first | refine blk_drewN ?_ _ | refine blk_drew ?_ | refine blk_alloc ?_ _)); exact BK138.out) Tryd.underlying31 rfl (by kernel_rfl)) rfl ?_
                exact ⟨by first | rfl | (simp [errW_none, errW_some] <;> rfl) | (simp [*, errW_none, errW_some] <;> rfl), by repeat (first | (with_reducible first | exact HB.out | apply below_alloc | apply pw_below_drewN | apply below_drew1 | refine below_set ?_ GE138.out) | exact HB.out)⟩
                all_goals (first | (exfalso; simp_all <;> omega) | (go_ret; exact ⟨by first | rfl | (simp [errW_none, errW_some] <;> rfl) | (simp [*, errW_none, errW_some] <;> rfl), by repeat (first | (with_reducible first | exact HB.out | apply below_alloc | apply pw_below_drewN | apply below_drew1 | refine below_set ?_ GE138.out) | exact HB.out)⟩))
              · rw [if_neg c12] at H
                have c12b0 : decide (126 < (bt a0 x4_1)) = false := decide_eq_false c12
                clear c12
                replace H := Option.bind_eq_some_iff.mp H
                obtain ⟨t139, A150, H⟩ := H
                replace H : (if t139 < 10 then (some ((⟨#[]⟩ : ByteArray), (⟨#[]⟩ : ByteArray), (⟨#[]⟩ : ByteArray), (⟨#[]⟩ : ByteArray), 2)) else (exequaturref01_URI.l0 k1 a0 (wrap64 (x4_1 + 1)))) = some (r1, r2, r3, r4, r5) := H
                have A15 := Aside0.mk A150
                clear A150
                by_cases c16 : t139 < 10
                · rw [if_pos c16] at H
                  have c16b0 : decide (t139 < 10) = true := decide_eq_true c16
                  clear c16
                  simp only [Option.some.injEq, Prod.mk.injEq] at H
                  obtain ⟨rfl, rfl, rfl, rfl, rfl⟩ := H
                  have p8 : 0 ≤ (x4_1 : Int) := of_decide_eq_true (by first | (with_reducible assumption) | assumption)
                  have q8 : x4_1 < (a0.size : Int) := of_decide_eq_true (by first | (with_reducible assumption) | assumption)
                  have hx8 := bt_at a0 x4_1
                  replace p8 := eq_true p8
                  replace q8 := eq_true q8
                  have p11 : 0 ≤ (x4_1 : Int) := of_decide_eq_true (by first | (with_reducible assumption) | assumption)
                  have q11 : x4_1 < (a0.size : Int) := of_decide_eq_true (by first | (with_reducible assumption) | assumption)
                  have hx11 := bt_at a0 x4_1
                  replace p11 := eq_true p11
                  replace q11 := eq_true q11
                  have p14 : 0 ≤ (x4_1 : Int) := of_decide_eq_true (by first | (with_reducible assumption) | assumption)
                  have q14 : x4_1 < (a0.size : Int) := of_decide_eq_true (by first | (with_reducible assumption) | assumption)
                  have hx14 := bt_at a0 x4_1
                  replace p14 := eq_true p14
                  replace q14 := eq_true q14
                  go_wp2_with (first | (go_at_call 17; (with_reducible refine (exequaturref01_at.calls k1 (⟨#[34, 35, 60, 62, 92, 94, 96, 123, 124, 125]⟩ : ByteArray) (bt a0 x4_1) t139 _ A15.out).mono ?_); rintro e w' ⟨rfl, ⟨nd, rfl⟩⟩; (try (rw [drewN_self wr]; generalize hq_ : World.drewN wr _ = wr; have n0_ : Aside0 (wr.heap[gb138]? = some (.cells #[.string x139000_1, .string x139001_1, .string x139002_1, .string x139003_1] 31 (0, 0))) := ⟨by rw [← hq_]; exact (by (with_reducible repeat (first | refine blk_drewN ?_ _ | refine blk_drew ?_ | refine blk_alloc ?_ _)); exact BK138.out)⟩; have n1_ : Aside0 (Below w.heap.size w wr) := ⟨by rw [← hq_]; exact (by repeat (first | (with_reducible first | exact HB.out | apply below_alloc | apply pw_below_drewN | apply below_drew1 | refine below_set ?_ GE138.out) | exact HB.out))⟩; clear BK138 HB hq_; have BK138 := n0_; have HB := n1_; clear n0_ n1_)); have hcz17_0 : wr.cell? ⟨gb138, 0, none⟩ = some (.string x139000_1) := (blk_cell BK138.out 0).trans rfl; have hcz17_1 : wr.cell? ⟨gb138, 1, none⟩ = some (.string x139001_1) := (blk_cell BK138.out 1).trans rfl; have hcz17_2 : wr.cell? ⟨gb138, 2, none⟩ = some (.string x139002_1) := (blk_cell BK138.out 2).trans rfl; have hcz17_3 : wr.cell? ⟨gb138, 3, none⟩ = some (.string x139003_1) := (blk_cell BK138.out 3).trans rfl; have hfz17_0 := blk_frozen BK138.out 0; have hfz17_1 := blk_frozen BK138.out 1; have hfz17_2 := blk_frozen BK138.out 2; have hfz17_3 := blk_frozen BK138.out 3))
                  refine bodyPost_ret (results_ct rfl _ _ gb138 31 #[.string (⟨#[]⟩ : ByteArray), .string (⟨#[]⟩ : ByteArray), .string (⟨#[]⟩ : ByteArray), .string (⟨#[]⟩ : ByteArray)] (0, 0) _ rfl (by (with_reducible repeat (first | refine blk_drewN ?_ _ | refine blk_drew ?_ | refine blk_alloc ?_ _)); refine blk_put (cs := #[.string (⟨#[]⟩ : ByteArray), .string (⟨#[]⟩ : ByteArray), .string (⟨#[]⟩ : ByteArray), .string x139003_1]) ?_ 3 _ rfl; (with_reducible repeat (first | refine blk_drewN ?_ _ | refine blk_drew ?_ | refine blk_alloc ?_ _)); refine blk_put (cs := #[.string (⟨#[]⟩ : ByteArray), .string (⟨#[]⟩ : ByteArray), .string x139002_1, .string x139003_1]) ?_ 2 _ rfl; (with_reducible repeat (first | refine blk_drewN ?_ _ | refine blk_drew ?_ | refine blk_alloc ?_ _)); refine blk_put (cs := #[.string (⟨#[]⟩ : ByteArray), .string x139001_1, .string x139002_1, .string x139003_1]) ?_ 1 _ rfl; (with_reducible repeat (first | refine blk_drewN ?_ _ | refine blk_drew ?_ | refine blk_alloc ?_ _)); refine blk_put (cs := #[.string x139000_1, .string x139001_1, .string x139002_1, .string x139003_1]) ?_ 0 _ rfl; (with_reducible repeat (first | refine blk_drewN ?_ _ | refine blk_drew ?_ | refine blk_alloc ?_ _)); exact BK138.out) Tryd.underlying31 rfl (by kernel_rfl)) rfl ?_
                  exact ⟨by first | rfl | (simp [errW_none, errW_some] <;> rfl) | (simp [*, errW_none, errW_some] <;> rfl), by repeat (first | (with_reducible first | exact HB.out | apply below_alloc | apply pw_below_drewN | apply below_drew1 | refine below_set ?_ GE138.out) | exact HB.out)⟩
                  all_goals (first | (exfalso; simp_all <;> omega) | (go_ret; exact ⟨by first | rfl | (simp [errW_none, errW_some] <;> rfl) | (simp [*, errW_none, errW_some] <;> rfl), by repeat (first | (with_reducible first | exact HB.out | apply below_alloc | apply pw_below_drewN | apply below_drew1 | refine below_set ?_ GE138.out) | exact HB.out)⟩))
                · rw [if_neg c16] at H
                  have c16b0 : decide (t139 < 10) = false := decide_eq_false c16
                  clear c16
                  have H' := Aside0.mk H
                  clear H
                  have p8 : 0 ≤ (x4_1 : Int) := of_decide_eq_true (by first | (with_reducible assumption) | assumption)
                  have q8 : x4_1 < (a0.size : Int) := of_decide_eq_true (by first | (with_reducible assumption) | assumption)
                  have hx8 := bt_at a0 x4_1
                  replace p8 := eq_true p8
                  replace q8 := eq_true q8
                  have p11 : 0 ≤ (x4_1 : Int) := of_decide_eq_true (by first | (with_reducible assumption) | assumption)
                  have q11 : x4_1 < (a0.size : Int) := of_decide_eq_true (by first | (with_reducible assumption) | assumption)
                  have hx11 := bt_at a0 x4_1
                  replace p11 := eq_true p11
                  replace q11 := eq_true q11
                  have p14 : 0 ≤ (x4_1 : Int) := of_decide_eq_true (by first | (with_reducible assumption) | assumption)
                  have q14 : x4_1 < (a0.size : Int) := of_decide_eq_true (by first | (with_reducible assumption) | assumption)
                  have hx14 := bt_at a0 x4_1
                  replace p14 := eq_true p14
                  replace q14 := eq_true q14
                  go_wp2_with (first | (go_at_call 17; (with_reducible refine (exequaturref01_at.calls k1 (⟨#[34, 35, 60, 62, 92, 94, 96, 123, 124, 125]⟩ : ByteArray) (bt a0 x4_1) t139 _ A15.out).mono ?_); rintro e w' ⟨rfl, ⟨nd, rfl⟩⟩))
                  go_roundg k1
                  case measure => have := HK1.out; omega
                  case rel => exact ⟨(wrap64 (x4_1 + 1)), (x139000_1), (x139001_1), (x139002_1), (x139003_1), (by first | rfl | (simp; done) | (simp [*]; done) | (refine congrArg Value.bool ?_; rw [Bool.eq_iff_iff]; simp; done)), H', ⟨by have := HK1.out; omega⟩, ⟨by (with_reducible repeat (first | refine blk_drewN ?_ _ | refine blk_drew ?_ | refine blk_alloc ?_ _)); exact BK138.out⟩, ⟨by repeat (first | (with_reducible first | exact HB.out | apply below_alloc | apply pw_below_drewN | apply below_drew1 | refine below_set ?_ GE138.out) | exact HB.out)⟩⟩
          · rw [if_neg c7] at H
            exact absurd H (by simp)
        · rw [if_neg c6] at H
          have c6b0 : decide (x4_1 < (a0.size : Int)) = false := decide_eq_false c6
          clear c6
          have HC18 := Aside0.mk H
          clear H
          go_upto_block 2 with (first | ((with_reducible refine gate_dst (N := 6) rfl ?_); (try (refine gate_guard (by rfl) ?_; dsimp only)); refine box_event ?hg (N := 6) ?hd (cs := #[.string (⟨#[]⟩ : ByteArray), .string (⟨#[]⟩ : ByteArray), .string (⟨#[]⟩ : ByteArray), .string (⟨#[]⟩ : ByteArray)]) (t := 31) ?hr ?_; (case hd => rfl); (case hg => rfl); (case hr => first | (go_simp; done) | (go_simp; rfl)); intro gb140 hg w19 hbox hb; have n0_ := Aside0.mk (blk_below (g := gb138) (o := .cells #[.string x139000_1, .string x139001_1, .string x139002_1, .string x139003_1] 31 (0, 0)) (by (with_reducible repeat (first | refine blk_drewN ?_ _ | refine blk_drew ?_ | refine blk_alloc ?_ _)); exact BK138.out) hb); have n1_ := Aside0.mk (below_step (by repeat (first | (with_reducible first | exact HB.out | apply below_alloc | apply pw_below_drewN | apply below_drew1 | refine below_set ?_ GE138.out) | exact HB.out)) hb); have n2_ := Aside0.mk (hbox); have n3_ := Aside0.mk ((by rw [hg]; exact (below_size (by repeat (first | (with_reducible first | exact HB.out | apply below_alloc | apply pw_below_drewN | apply below_drew1 | refine below_set ?_ GE138.out) | exact HB.out))) : w.heap.size ≤ gb140)); have n4_ := Aside0.mk ((by rw [hg]; exact (below_size (by repeat (first | (with_reducible first | exact HB.out | apply below_alloc | apply pw_below_drewN | apply below_drew1 | refine below_set ?_ GE138.out) | exact HB.out))) : w.heap.size ≤ gb140)); have n5_ := Aside0.mk ((by rw [hg]; exact Nat.ne_of_lt (blk_lt (g := gb138) (o := .cells #[.string x139000_1, .string x139001_1, .string x139002_1, .string x139003_1] 31 (0, 0)) (by (with_reducible repeat (first | refine blk_drewN ?_ _ | refine blk_drew ?_ | refine blk_alloc ?_ _)); exact BK138.out)) : gb138 ≠ gb140)); have n6_ := Aside0.mk ((by rw [hg]; exact Nat.ne_of_gt (blk_lt (g := gb138) (o := .cells #[.string x139000_1, .string x139001_1, .string x139002_1, .string x139003_1] 31 (0, 0)) (by (with_reducible repeat (first | refine blk_drewN ?_ _ | refine blk_drew ?_ | refine blk_alloc ?_ _)); exact BK138.out)) : gb140 ≠ gb138)); clear BK138; clear HB; have BK138 := n0_; have HB := n1_; have BK140 := n2_; have GW140 := n3_; have GE140 := n4_; have NB138_140 := n5_; have NB140_138 := n6_; clear n0_ n1_ n2_ n3_ n4_ n5_ n6_; clear hb hbox hg; have hnb20 := NB140_138.out; have hnc20 := NB138_140.out; have hcz21_0 : w19.cell? ⟨gb140, 0, none⟩ = some (.string (⟨#[]⟩ : ByteArray)) := (blk_cell BK140.out 0).trans rfl; have hcz21_1 : w19.cell? ⟨gb140, 1, none⟩ = some (.string (⟨#[]⟩ : ByteArray)) := (blk_cell BK140.out 1).trans rfl; have hcz21_2 : w19.cell? ⟨gb140, 2, none⟩ = some (.string (⟨#[]⟩ : ByteArray)) := (blk_cell BK140.out 2).trans rfl; have hcz21_3 : w19.cell? ⟨gb140, 3, none⟩ = some (.string (⟨#[]⟩ : ByteArray)) := (blk_cell BK140.out 3).trans rfl; have hfz21_0 := blk_frozen BK140.out 0; have hfz21_1 := blk_frozen BK140.out 1; have hfz21_2 := blk_frozen BK140.out 2; have hfz21_3 := blk_frozen BK140.out 3))
          (try simp only [Act.put, List.setIfInBounds_toArray, List.set_cons_zero, List.set_cons_succ])
          go_cut [0] (fun v0 wc => ∃ (kq : Nat) (x0_17 : ByteArray) (x139000_17 : ByteArray) (x139001_17 : ByteArray) (x139002_17 : ByteArray) (x139003_17 : ByteArray) (x141000_17 : ByteArray), v0 = .string x0_17 ∧ Aside0 (exequaturref01_URI.j2 kq x0_17 x141000_17 (⟨#[]⟩ : ByteArray) (⟨#[]⟩ : ByteArray) (⟨#[]⟩ : ByteArray) = some (r1, r2, r3, r4, r5)) ∧ Aside0 (kq ≤ k1) ∧ Aside0 (wc.heap[gb138]? = some (.cells #[.string x139000_17, .string x139001_17, .string x139002_17, .string x139003_17] 31 (0, 0))) ∧ Aside0 (wc.heap[gb140]? = some (.cells #[.string x141000_17, .string (⟨#[]⟩ : ByteArray), .string (⟨#[]⟩ : ByteArray), .string (⟨#[]⟩ : ByteArray)] 31 (0, 0))) ∧ Aside0 (Below w.heap.size w wc))
          case first =>
            have H := HC18.out
            clear HC18
            have HC22 := Aside0.mk H
            clear H
            go_upto_region 11 with (fail)
            go_cut [44] (fun v44 wc => ∃ (kq : Nat) (x44_21 : Bool), v44 = .bool x44_21 ∧ Aside0 (exequaturref01_URI.j1 kq a0 x44_21 (⟨#[]⟩ : ByteArray) (⟨#[]⟩ : ByteArray) (⟨#[]⟩ : ByteArray) (⟨#[]⟩ : ByteArray) = some (r1, r2, r3, r4, r5)) ∧ Aside0 (kq ≤ k1) ∧ Aside0 (wc.heap[gb138]? = some (.cells #[.string x139000_1, .string x139001_1, .string x139002_1, .string x139003_1] 31 (0, 0))) ∧ Aside0 (wc.heap[gb140]? = some (.cells #[.string (⟨#[]⟩ : ByteArray), .string (⟨#[]⟩ : ByteArray), .string (⟨#[]⟩ : ByteArray), .string (⟨#[]⟩ : ByteArray)] 31 (0, 0))) ∧ Aside0 (Below w.heap.size w wc))
            case first =>
              have H := HC22.out
              clear HC22
              by_cases c23 : (a0.size : Int) > 7
              · rw [if_pos c23] at H
                have c23b0 : decide (7 < (a0.size : Int)) = true := decide_eq_true c23
                have c23b1 : decide (7 < a0.size) = true := decide_eq_true (by omega)
                clear c23
                (first | rw [c23b0] | (simp only [i64_w, i32_w]; rw [c23b0]) | skip)
                by_cases c24 : 0 ≤ 7
                · rw [if_pos c24] at H
                  have c24b0 := eq_true c24
                  have c24b1 : decide (0 ≤ 7) = true := decide_eq_true c24
                  clear c24
                  by_cases c25 : 7 ≤ (a0.size : Int)
                  · rw [if_pos c25] at H
                    have c25b0 := eq_true c25
                    have c25b1 : decide (7 ≤ (a0.size : Int)) = true := decide_eq_true c25
                    clear c25
                    have H' := Aside0.mk H
                    clear H
                    go_wp2
                    go_meet
                    case rel => exact ⟨_, (((a0.extract 0 7).toList == ([104, 116, 116, 112, 58, 47, 47] : List UInt8))), (by first | rfl | (simp; done) | (simp [*]; done) | (refine congrArg Value.bool ?_; rw [Bool.eq_iff_iff]; simp; done)), H', ⟨by have := HK1.out; first | omega | exact Nat.le_refl _⟩, ⟨by (with_reducible repeat (first | refine blk_drewN ?_ _ | refine blk_drew ?_ | refine blk_alloc ?_ _)); refine blk_far ?_ NB138_140.out _; (with_reducible repeat (first | refine blk_drewN ?_ _ | refine blk_drew ?_ | refine blk_alloc ?_ _)); refine blk_far ?_ NB138_140.out _; (with_reducible repeat (first | refine blk_drewN ?_ _ | refine blk_drew ?_ | refine blk_alloc ?_ _)); refine blk_far ?_ NB138_140.out _; (with_reducible repeat (first | refine blk_drewN ?_ _ | refine blk_drew ?_ | refine blk_alloc ?_ _)); refine blk_far ?_ NB138_140.out _; (with_reducible repeat (first | refine blk_drewN ?_ _ | refine blk_drew ?_ | refine blk_alloc ?_ _)); exact BK138.out⟩, ⟨by (with_reducible repeat (first | refine blk_drewN ?_ _ | refine blk_drew ?_ | refine blk_alloc ?_ _)); refine blk_put (cs := #[.string (⟨#[]⟩ : ByteArray), .string (⟨#[]⟩ : ByteArray), .string (⟨#[]⟩ : ByteArray), .string (⟨#[]⟩ : ByteArray)]) ?_ 3 _ rfl; (with_reducible repeat (first | refine blk_drewN ?_ _ | refine blk_drew ?_ | refine blk_alloc ?_ _)); refine blk_put (cs := #[.string (⟨#[]⟩ : ByteArray), .string (⟨#[]⟩ : ByteArray), .string (⟨#[]⟩ : ByteArray), .string (⟨#[]⟩ : ByteArray)]) ?_ 2 _ rfl; (with_reducible repeat (first | refine blk_drewN ?_ _ | refine blk_drew ?_ | refine blk_alloc ?_ _)); refine blk_put (cs := #[.string (⟨#[]⟩ : ByteArray), .string (⟨#[]⟩ : ByteArray), .string (⟨#[]⟩ : ByteArray), .string (⟨#[]⟩ : ByteArray)]) ?_ 1 _ rfl; (with_reducible repeat (first | refine blk_drewN ?_ _ | refine blk_drew ?_ | refine blk_alloc ?_ _)); refine blk_put (cs := #[.string (⟨#[]⟩ : ByteArray), .string (⟨#[]⟩ : ByteArray), .string (⟨#[]⟩ : ByteArray), .string (⟨#[]⟩ : ByteArray)]) ?_ 0 _ rfl; (with_reducible repeat (first | refine blk_drewN ?_ _ | refine blk_drew ?_ | refine blk_alloc ?_ _)); exact BK140.out⟩, ⟨by repeat (first | (with_reducible first | exact HB.out | apply below_alloc | apply pw_below_drewN | apply below_drew1 | refine below_set ?_ GE138.out | refine below_set ?_ GE140.out) | exact HB.out)⟩⟩
                  · rw [if_neg c25] at H
                    exact absurd H (by simp)
                · rw [if_neg c24] at H
                  exact absurd H (by simp)
              · rw [if_neg c23] at H
                have c23b0 : decide (7 < (a0.size : Int)) = false := decide_eq_false c23
                have c23b1 : decide (7 < a0.size) = false := decide_eq_false (by omega)
                clear c23
                (first | rw [c23b0] | (simp only [i64_w, i32_w]; rw [c23b0]) | skip)
                have H' := Aside0.mk H
                clear H
                go_wp2
                go_meet
                case rel => exact ⟨_, (false), (by first | rfl | (simp; done) | (simp [*]; done) | (refine congrArg Value.bool ?_; rw [Bool.eq_iff_iff]; simp; done)), H', ⟨by have := HK1.out; first | omega | exact Nat.le_refl _⟩, ⟨by (with_reducible repeat (first | refine blk_drewN ?_ _ | refine blk_drew ?_ | refine blk_alloc ?_ _)); refine blk_far ?_ NB138_140.out _; (with_reducible repeat (first | refine blk_drewN ?_ _ | refine blk_drew ?_ | refine blk_alloc ?_ _)); refine blk_far ?_ NB138_140.out _; (with_reducible repeat (first | refine blk_drewN ?_ _ | refine blk_drew ?_ | refine blk_alloc ?_ _)); refine blk_far ?_ NB138_140.out _; (with_reducible repeat (first | refine blk_drewN ?_ _ | refine blk_drew ?_ | refine blk_alloc ?_ _)); refine blk_far ?_ NB138_140.out _; (with_reducible repeat (first | refine blk_drewN ?_ _ | refine blk_drew ?_ | refine blk_alloc ?_ _)); exact BK138.out⟩, ⟨by (with_reducible repeat (first | refine blk_drewN ?_ _ | refine blk_drew ?_ | refine blk_alloc ?_ _)); refine blk_put (cs := #[.string (⟨#[]⟩ : ByteArray), .string (⟨#[]⟩ : ByteArray), .string (⟨#[]⟩ : ByteArray), .string (⟨#[]⟩ : ByteArray)]) ?_ 3 _ rfl; (with_reducible repeat (first | refine blk_drewN ?_ _ | refine blk_drew ?_ | refine blk_alloc ?_ _)); refine blk_put (cs := #[.string (⟨#[]⟩ : ByteArray), .string (⟨#[]⟩ : ByteArray), .string (⟨#[]⟩ : ByteArray), .string (⟨#[]⟩ : ByteArray)]) ?_ 2 _ rfl; (with_reducible repeat (first | refine blk_drewN ?_ _ | refine blk_drew ?_ | refine blk_alloc ?_ _)); refine blk_put (cs := #[.string (⟨#[]⟩ : ByteArray), .string (⟨#[]⟩ : ByteArray), .string (⟨#[]⟩ : ByteArray), .string (⟨#[]⟩ : ByteArray)]) ?_ 1 _ rfl; (with_reducible repeat (first | refine blk_drewN ?_ _ | refine blk_drew ?_ | refine blk_alloc ?_ _)); refine blk_put (cs := #[.string (⟨#[]⟩ : ByteArray), .string (⟨#[]⟩ : ByteArray), .string (⟨#[]⟩ : ByteArray), .string (⟨#[]⟩ : ByteArray)]) ?_ 0 _ rfl; (with_reducible repeat (first | refine blk_drewN ?_ _ | refine blk_drew ?_ | refine blk_alloc ?_ _)); exact BK140.out⟩, ⟨by repeat (first | (with_reducible first | exact HB.out | apply below_alloc | apply pw_below_drewN | apply below_drew1 | refine below_set ?_ GE138.out | refine below_set ?_ GE140.out) | exact HB.out)⟩⟩
            case rest =>
              clear HC22
              try clear c1
              try clear p1
              try clear q1
              try clear hx1
              try clear c2
              try clear c2b0
              try clear c2b1
              try clear p2
              try clear c6
              try clear c6b0
              try clear p6
              try clear c7
              try clear c7b0
              try clear p8
              try clear q8
              try clear hx8
              try clear c9
              try clear c9b0
              try clear p11
              try clear q11
              try clear hx11
              try clear c12
              try clear c12b0
              try clear p14
              try clear q14
              try clear hx14
              try clear c16
              try clear c16b0
              try clear c20
              try clear c23
              try clear c23b0
              try clear c23b1
              try clear c24
              try clear c24b0
              try clear c24b1
              try clear c25
              try clear c25b0
              try clear c25b1
              try clear hcz10_0
              try clear hcz10_1
              try clear hcz10_2
              try clear hcz10_3
              try clear hcz13_0
              try clear hcz13_1
              try clear hcz13_2
              try clear hcz13_3
              try clear hcz17_0
              try clear hcz17_1
              try clear hcz17_2
              try clear hcz17_3
              try clear hcz21_0
              try clear hcz21_1
              try clear hcz21_2
              try clear hcz21_3
              try clear hcz4_0
              try clear hcz4_1
              try clear hcz4_2
              try clear hcz4_3
              try clear hfz10_0
              try clear hfz10_1
              try clear hfz10_2
              try clear hfz10_3
              try clear hfz13_0
              try clear hfz13_1
              try clear hfz13_2
              try clear hfz13_3
              try clear hfz17_0
              try clear hfz17_1
              try clear hfz17_2
              try clear hfz17_3
              try clear hfz21_0
              try clear hfz21_1
              try clear hfz21_2
              try clear hfz21_3
              try clear hfz4_0
              try clear hfz4_1
              try clear hfz4_2
              try clear hfz4_3
              try clear p11
              try clear p14
              try clear p2
              try clear p8
              try clear q11
              try clear q14
              try clear q8
              obtain ⟨kq, x44_21, rfl, HA, HJ21, BK138, BK140, HB⟩ := hcut
              cases kq with
              | zero => exact absurd HA.out (by simp [exequaturref01_URI.j1])
              | succ kj21 =>
                have H := HA.out
                clear HA
                simp only [exequaturref01_URI.j1] at H
                by_cases c26 : x44_21 = true
                · subst c26
                  have H1 : (if 7 ≤ (a0.size : Int) then (exequaturref01_URI.j2 kj21 (a0.extract 7 a0.size) (⟨#[104, 116, 116, 112]⟩ : ByteArray) (⟨#[]⟩ : ByteArray) (⟨#[]⟩ : ByteArray) (⟨#[]⟩ : ByteArray)) else (none)) = some (r1, r2, r3, r4, r5) := by rw [if_pos rfl] at H; exact H
                  clear H
                  have H := H1
                  clear H1
                  by_cases c27 : 7 ≤ (a0.size : Int)
                  · rw [if_pos c27] at H
                    have c27b0 := eq_true c27
                    have c27b1 : decide (7 ≤ (a0.size : Int)) = true := decide_eq_true c27
                    clear c27
                    have H' := Aside0.mk H
                    clear H
                    try go_wp2
                    have n0_ := Aside0.mk (blk_drew BK138.out)
                    have n1_ := Aside0.mk (blk_drew BK140.out)
                    have n2_ := Aside0.mk (below_drew1 HB.out)
                    clear BK138
                    clear BK140
                    clear HB
                    have BK138 := n0_
                    have BK140 := n1_
                    have HB := n2_
                    clear n0_ n1_ n2_
                    refine start_ (n := 5) (S := fun w' => True) (ds := []) #[false, false, false, false, false] (by kernel_rfl) rfl rfl trivial (fun hHeld => ?_)
                    generalize wc.drew = w28 at BK138 BK140 HB hHeld ⊢
                    refine pure_ (i := 0) (N := some 53) (v := ?_) (a' := ?_) #[true, false, false, false, false] rfl rfl (by kernel_rfl) (fun _ _ _ h => h) (Or.inl ⟨by rfl, ?_⟩) ?_ ?_
                    rotate_left
                    · intro w'
                      go_simp
                      with_reducible rfl
                    rotate_left
                    · simp only [Act.put, List.setIfInBounds_toArray, List.set_cons_zero, List.set_cons_succ, i64_w, i32_w]
                      rfl
                    refine pure_ (i := 1) (N := some 54) (v := ?_) (a' := ?_) #[true, true, false, false, false] rfl rfl (by kernel_rfl) (fun _ _ _ h => h) (Or.inl ⟨by rfl, ?_⟩) ?_ ?_
                    rotate_left
                    · intro w'
                      go_simp
                      with_reducible rfl
                    rotate_left
                    · simp only [Act.put, List.setIfInBounds_toArray, List.set_cons_zero, List.set_cons_succ, i64_w, i32_w]
                      rfl
                    refine pure_ (i := 2) (N := some 55) (v := ?_) (a' := ?_) #[true, true, true, false, false] rfl rfl (by kernel_rfl) (fun _ _ _ h => h) (Or.inl ⟨by rfl, ?_⟩) ?_ ?_
                    rotate_left
                    · intro w'
                      go_simp
                      with_reducible rfl
                    rotate_left
                    · simp only [Act.put, List.setIfInBounds_toArray, List.set_cons_zero, List.set_cons_succ, i64_w, i32_w]
                      rfl
                    refine one_ (i := 3) (N := none) #[true, true, true, true, false] rfl rfl (by kernel_rfl) (by decide) (fun K hK => ?_)
                    have hs29 : w28.cell? ⟨gb140, 0, none⟩ = some (.string (⟨#[]⟩ : ByteArray)) := (blk_cell BK140.out 0).trans rfl
                    have hfs29 := blk_frozen BK140.out 0
                    have hns29_0 := NB138_140.out
                    have hms29_0 := NB140_138.out
                    refine skip_ (w1 := ?_) (by rfl) rfl ?_ ?_
                    rotate_left
                    · go_simp
                      rfl
                    refine hK.out _ _ trivial (fun hHeld => ?_)
                    clear hK K
                    refine pure_ (i := 4) (N := some 0) (v := ?_) (a' := ?_) #[true, true, true, true, true] rfl rfl (by kernel_rfl) (fun _ _ _ h => h) (Or.inl ⟨by rfl, ?_⟩) ?_ ?_
                    rotate_left
                    · intro w'
                      go_simp
                      with_reducible rfl
                    rotate_left
                    · simp only [Act.put, List.setIfInBounds_toArray, List.set_cons_zero, List.set_cons_succ, i64_w, i32_w]
                      rfl
                    refine done_ (by kernel_rfl) ?_
                    try go_wp2
                    go_meet
                    case rel => exact ⟨_, (a0.extract 7 a0.size), (x139000_1), (x139001_1), (x139002_1), (x139003_1), ((⟨#[104, 116, 116, 112]⟩ : ByteArray)), (by first | rfl | (simp; done) | (simp [*]; done) | (refine congrArg Value.bool ?_; rw [Bool.eq_iff_iff]; simp; done)), H', ⟨by have := HK1.out; have := HJ21.out; first | omega | exact Nat.le_refl _⟩, ⟨by (with_reducible repeat (first | refine blk_drewN ?_ _ | refine blk_drew ?_ | refine blk_alloc ?_ _)); refine blk_far ?_ NB138_140.out _; (with_reducible repeat (first | refine blk_drewN ?_ _ | refine blk_drew ?_ | refine blk_alloc ?_ _)); exact BK138.out⟩, ⟨by (with_reducible repeat (first | refine blk_drewN ?_ _ | refine blk_drew ?_ | refine blk_alloc ?_ _)); refine blk_put (cs := #[.string (⟨#[]⟩ : ByteArray), .string (⟨#[]⟩ : ByteArray), .string (⟨#[]⟩ : ByteArray), .string (⟨#[]⟩ : ByteArray)]) ?_ 0 _ rfl; (with_reducible repeat (first | refine blk_drewN ?_ _ | refine blk_drew ?_ | refine blk_alloc ?_ _)); exact BK140.out⟩, ⟨by repeat (first | (with_reducible first | exact HB.out | apply below_alloc | apply pw_below_drewN | apply below_drew1 | refine below_set ?_ GE138.out | refine below_set ?_ GE140.out) | exact HB.out)⟩⟩
                  · rw [if_neg c27] at H
                    exact absurd H (by simp)
                · replace c26 := Bool.eq_false_iff.mpr c26
                  subst c26
                  have H1 : (if (a0.size : Int) > 8 then (if 0 ≤ 8 then (if 8 ≤ (a0.size : Int) then (if (a0.extract 0 8).toList = ([104, 116, 116, 112, 115, 58, 47, 47] : List UInt8) then (exequaturref01_URI.j2 kj21 (a0.extract 8 a0.size) (⟨#[104, 116, 116, 112, 115]⟩ : ByteArray) (⟨#[]⟩ : ByteArray) (⟨#[]⟩ : ByteArray) (⟨#[]⟩ : ByteArray)) else (some ((⟨#[]⟩ : ByteArray), (⟨#[]⟩ : ByteArray), (⟨#[]⟩ : ByteArray), (⟨#[]⟩ : ByteArray), 2))) else (none)) else (none)) else (some ((⟨#[]⟩ : ByteArray), (⟨#[]⟩ : ByteArray), (⟨#[]⟩ : ByteArray), (⟨#[]⟩ : ByteArray), 2))) = some (r1, r2, r3, r4, r5) := by rw [if_neg (show ¬ (false = true) by decide)] at H; exact H
                  clear H
                  have H := H1
                  clear H1
                  by_cases c30 : (a0.size : Int) > 8
                  · rw [if_pos c30] at H
                    have c30b0 : decide (8 < (a0.size : Int)) = true := decide_eq_true c30
                    have c30b1 : decide (8 < a0.size) = true := decide_eq_true (by omega)
                    clear c30
                    by_cases c31 : 0 ≤ 8
                    · rw [if_pos c31] at H
                      have c31b0 := eq_true c31
                      have c31b1 : decide (0 ≤ 8) = true := decide_eq_true c31
                      clear c31
                      by_cases c32 : 8 ≤ (a0.size : Int)
                      · rw [if_pos c32] at H
                        have c32b0 := eq_true c32
                        have c32b1 : decide (8 ≤ (a0.size : Int)) = true := decide_eq_true c32
                        clear c32
                        by_cases c33 : (a0.extract 0 8).toList = ([104, 116, 116, 112, 115, 58, 47, 47] : List UInt8)
                        · rw [if_pos c33] at H
                          have c33b0 : ((a0.extract 0 8).toList == ([104, 116, 116, 112, 115, 58, 47, 47] : List UInt8)) = true := beq_iff_eq.mpr c33
                          have c33b1 : ((a0.extract 0 8).toList != ([104, 116, 116, 112, 115, 58, 47, 47] : List UInt8)) = false := bne_eq_false_iff_eq.mpr c33
                          clear c33
                          have c34b0 := eq_true (of_decide_eq_true (by first | (with_reducible assumption) | assumption) : 8 ≤ (a0.size : Int))
                          have H' := Aside0.mk H
                          clear H
                          try go_wp2
                          have n0_ := Aside0.mk (blk_drew BK138.out)
                          have n1_ := Aside0.mk (blk_drew BK140.out)
                          have n2_ := Aside0.mk (below_drew1 HB.out)
                          clear BK138
                          clear BK140
                          clear HB
                          have BK138 := n0_
                          have BK140 := n1_
                          have HB := n2_
                          clear n0_ n1_ n2_
                          refine start_ (n := 5) (S := fun w' => True) (ds := []) #[false, false, false, false, false] (by kernel_rfl) rfl rfl trivial (fun hHeld => ?_)
                          generalize wc.drew = w35 at BK138 BK140 HB hHeld ⊢
                          refine pure_ (i := 0) (N := some 65) (v := ?_) (a' := ?_) #[true, false, false, false, false] rfl rfl (by kernel_rfl) (fun _ _ _ h => h) (Or.inl ⟨by rfl, ?_⟩) ?_ ?_
                          rotate_left
                          · intro w'
                            go_simp
                            with_reducible rfl
                          rotate_left
                          · simp only [Act.put, List.setIfInBounds_toArray, List.set_cons_zero, List.set_cons_succ, i64_w, i32_w]
                            rfl
                          refine pure_ (i := 1) (N := some 66) (v := ?_) (a' := ?_) #[true, true, false, false, false] rfl rfl (by kernel_rfl) (fun _ _ _ h => h) (Or.inl ⟨by rfl, ?_⟩) ?_ ?_
                          rotate_left
                          · intro w'
                            go_simp
                            with_reducible rfl
                          rotate_left
                          · simp only [Act.put, List.setIfInBounds_toArray, List.set_cons_zero, List.set_cons_succ, i64_w, i32_w]
                            rfl
                          refine pure_ (i := 2) (N := some 67) (v := ?_) (a' := ?_) #[true, true, true, false, false] rfl rfl (by kernel_rfl) (fun _ _ _ h => h) (Or.inl ⟨by rfl, ?_⟩) ?_ ?_
                          rotate_left
                          · intro w'
                            go_simp
                            with_reducible rfl
                          rotate_left
                          · simp only [Act.put, List.setIfInBounds_toArray, List.set_cons_zero, List.set_cons_succ, i64_w, i32_w]
                            rfl
                          refine one_ (i := 3) (N := none) #[true, true, true, true, false] rfl rfl (by kernel_rfl) (by decide) (fun K hK => ?_)
                          have hs36 : w35.cell? ⟨gb140, 0, none⟩ = some (.string (⟨#[]⟩ : ByteArray)) := (blk_cell BK140.out 0).trans rfl
                          have hfs36 := blk_frozen BK140.out 0
                          have hns36_0 := NB138_140.out
                          have hms36_0 := NB140_138.out
                          refine skip_ (w1 := ?_) (by rfl) rfl ?_ ?_
                          rotate_left
                          · go_simp
                            rfl
                          refine hK.out _ _ trivial (fun hHeld => ?_)
                          clear hK K
                          refine pure_ (i := 4) (N := some 0) (v := ?_) (a' := ?_) #[true, true, true, true, true] rfl rfl (by kernel_rfl) (fun _ _ _ h => h) (Or.inl ⟨by rfl, ?_⟩) ?_ ?_
                          rotate_left
                          · intro w'
                            go_simp
                            with_reducible rfl
                          rotate_left
                          · simp only [Act.put, List.setIfInBounds_toArray, List.set_cons_zero, List.set_cons_succ, i64_w, i32_w]
                            rfl
                          refine done_ (by kernel_rfl) ?_
                          try go_wp2
                          go_meet
                          case rel => exact ⟨_, (a0.extract 8 a0.size), (x139000_1), (x139001_1), (x139002_1), (x139003_1), ((⟨#[104, 116, 116, 112, 115]⟩ : ByteArray)), (by first | rfl | (simp; done) | (simp [*]; done) | (refine congrArg Value.bool ?_; rw [Bool.eq_iff_iff]; simp; done)), H', ⟨by have := HK1.out; have := HJ21.out; first | omega | exact Nat.le_refl _⟩, ⟨by (with_reducible repeat (first | refine blk_drewN ?_ _ | refine blk_drew ?_ | refine blk_alloc ?_ _)); refine blk_far ?_ NB138_140.out _; (with_reducible repeat (first | refine blk_drewN ?_ _ | refine blk_drew ?_ | refine blk_alloc ?_ _)); exact BK138.out⟩, ⟨by (with_reducible repeat (first | refine blk_drewN ?_ _ | refine blk_drew ?_ | refine blk_alloc ?_ _)); refine blk_put (cs := #[.string (⟨#[]⟩ : ByteArray), .string (⟨#[]⟩ : ByteArray), .string (⟨#[]⟩ : ByteArray), .string (⟨#[]⟩ : ByteArray)]) ?_ 0 _ rfl; (with_reducible repeat (first | refine blk_drewN ?_ _ | refine blk_drew ?_ | refine blk_alloc ?_ _)); exact BK140.out⟩, ⟨by repeat (first | (with_reducible first | exact HB.out | apply below_alloc | apply pw_below_drewN | apply below_drew1 | refine below_set ?_ GE138.out | refine below_set ?_ GE140.out) | exact HB.out)⟩⟩
                        · rw [if_neg c33] at H
                          have c33b0 : ((a0.extract 0 8).toList == ([104, 116, 116, 112, 115, 58, 47, 47] : List UInt8)) = false := beq_eq_false_iff_ne.mpr c33
                          have c33b1 : ((a0.extract 0 8).toList != ([104, 116, 116, 112, 115, 58, 47, 47] : List UInt8)) = true := bne_iff_ne.mpr c33
                          simp only [Option.some.injEq, Prod.mk.injEq] at H
                          obtain ⟨rfl, rfl, rfl, rfl, rfl⟩ := H
                          have hnb37 := NB138_140.out
                          have hnc37 := NB140_138.out
                          have hcz38_0 : wc.cell? ⟨gb138, 0, none⟩ = some (.string x139000_1) := (blk_cell BK138.out 0).trans rfl
                          have hcz38_1 : wc.cell? ⟨gb138, 1, none⟩ = some (.string x139001_1) := (blk_cell BK138.out 1).trans rfl
                          have hcz38_2 : wc.cell? ⟨gb138, 2, none⟩ = some (.string x139002_1) := (blk_cell BK138.out 2).trans rfl
                          have hcz38_3 : wc.cell? ⟨gb138, 3, none⟩ = some (.string x139003_1) := (blk_cell BK138.out 3).trans rfl
                          have hfz38_0 := blk_frozen BK138.out 0
                          have hfz38_1 := blk_frozen BK138.out 1
                          have hfz38_2 := blk_frozen BK138.out 2
                          have hfz38_3 := blk_frozen BK138.out 3
                          go_wp2
                          refine bodyPost_ret (results_ct rfl _ _ gb138 31 #[.string (⟨#[]⟩ : ByteArray), .string (⟨#[]⟩ : ByteArray), .string (⟨#[]⟩ : ByteArray), .string (⟨#[]⟩ : ByteArray)] (0, 0) _ rfl (by (with_reducible repeat (first | refine blk_drewN ?_ _ | refine blk_drew ?_ | refine blk_alloc ?_ _)); refine blk_put (cs := #[.string (⟨#[]⟩ : ByteArray), .string (⟨#[]⟩ : ByteArray), .string (⟨#[]⟩ : ByteArray), .string x139003_1]) ?_ 3 _ rfl; (with_reducible repeat (first | refine blk_drewN ?_ _ | refine blk_drew ?_ | refine blk_alloc ?_ _)); refine blk_put (cs := #[.string (⟨#[]⟩ : ByteArray), .string (⟨#[]⟩ : ByteArray), .string x139002_1, .string x139003_1]) ?_ 2 _ rfl; (with_reducible repeat (first | refine blk_drewN ?_ _ | refine blk_drew ?_ | refine blk_alloc ?_ _)); refine blk_put (cs := #[.string (⟨#[]⟩ : ByteArray), .string x139001_1, .string x139002_1, .string x139003_1]) ?_ 1 _ rfl; (with_reducible repeat (first | refine blk_drewN ?_ _ | refine blk_drew ?_ | refine blk_alloc ?_ _)); refine blk_put (cs := #[.string x139000_1, .string x139001_1, .string x139002_1, .string x139003_1]) ?_ 0 _ rfl; (with_reducible repeat (first | refine blk_drewN ?_ _ | refine blk_drew ?_ | refine blk_alloc ?_ _)); exact BK138.out) Tryd.underlying31 rfl (by kernel_rfl)) rfl ?_
                          exact ⟨by first | rfl | (simp [errW_none, errW_some] <;> rfl) | (simp [*, errW_none, errW_some] <;> rfl), by repeat (first | (with_reducible first | exact HB.out | apply below_alloc | apply pw_below_drewN | apply below_drew1 | refine below_set ?_ GE138.out | refine below_set ?_ GE140.out) | exact HB.out)⟩
                          all_goals (first | (exfalso; simp_all <;> omega) | (go_ret; exact ⟨by first | rfl | (simp [errW_none, errW_some] <;> rfl) | (simp [*, errW_none, errW_some] <;> rfl), by repeat (first | (with_reducible first | exact HB.out | apply below_alloc | apply pw_below_drewN | apply below_drew1 | refine below_set ?_ GE138.out | refine below_set ?_ GE140.out) | exact HB.out)⟩))
                      · rw [if_neg c32] at H
                        exact absurd H (by simp)
                    · rw [if_neg c31] at H
                      exact absurd H (by simp)
                  · rw [if_neg c30] at H
                    have c30b0 : decide (8 < (a0.size : Int)) = false := decide_eq_false c30
                    have c30b1 : decide (8 < a0.size) = false := decide_eq_false (by omega)
                    clear c30
                    simp only [Option.some.injEq, Prod.mk.injEq] at H
                    obtain ⟨rfl, rfl, rfl, rfl, rfl⟩ := H
                    have hnb39 := NB138_140.out
                    have hnc39 := NB140_138.out
                    have hcz40_0 : wc.cell? ⟨gb138, 0, none⟩ = some (.string x139000_1) := (blk_cell BK138.out 0).trans rfl
                    have hcz40_1 : wc.cell? ⟨gb138, 1, none⟩ = some (.string x139001_1) := (blk_cell BK138.out 1).trans rfl
                    have hcz40_2 : wc.cell? ⟨gb138, 2, none⟩ = some (.string x139002_1) := (blk_cell BK138.out 2).trans rfl
                    have hcz40_3 : wc.cell? ⟨gb138, 3, none⟩ = some (.string x139003_1) := (blk_cell BK138.out 3).trans rfl
                    have hfz40_0 := blk_frozen BK138.out 0
                    have hfz40_1 := blk_frozen BK138.out 1
                    have hfz40_2 := blk_frozen BK138.out 2
                    have hfz40_3 := blk_frozen BK138.out 3
                    go_wp2
                    refine bodyPost_ret (results_ct rfl _ _ gb138 31 #[.string (⟨#[]⟩ : ByteArray), .string (⟨#[]⟩ : ByteArray), .string (⟨#[]⟩ : ByteArray), .string (⟨#[]⟩ : ByteArray)] (0, 0) _ rfl (by (with_reducible repeat (first | refine blk_drewN ?_ _ | refine blk_drew ?_ | refine blk_alloc ?_ _)); refine blk_put (cs := #[.string (⟨#[]⟩ : ByteArray), .string (⟨#[]⟩ : ByteArray), .string (⟨#[]⟩ : ByteArray), .string x139003_1]) ?_ 3 _ rfl; (with_reducible repeat (first | refine blk_drewN ?_ _ | refine blk_drew ?_ | refine blk_alloc ?_ _)); refine blk_put (cs := #[.string (⟨#[]⟩ : ByteArray), .string (⟨#[]⟩ : ByteArray), .string x139002_1, .string x139003_1]) ?_ 2 _ rfl; (with_reducible repeat (first | refine blk_drewN ?_ _ | refine blk_drew ?_ | refine blk_alloc ?_ _)); refine blk_put (cs := #[.string (⟨#[]⟩ : ByteArray), .string x139001_1, .string x139002_1, .string x139003_1]) ?_ 1 _ rfl; (with_reducible repeat (first | refine blk_drewN ?_ _ | refine blk_drew ?_ | refine blk_alloc ?_ _)); refine blk_put (cs := #[.string x139000_1, .string x139001_1, .string x139002_1, .string x139003_1]) ?_ 0 _ rfl; (with_reducible repeat (first | refine blk_drewN ?_ _ | refine blk_drew ?_ | refine blk_alloc ?_ _)); exact BK138.out) Tryd.underlying31 rfl (by kernel_rfl)) rfl ?_
                    exact ⟨by first | rfl | (simp [errW_none, errW_some] <;> rfl) | (simp [*, errW_none, errW_some] <;> rfl), by repeat (first | (with_reducible first | exact HB.out | apply below_alloc | apply pw_below_drewN | apply below_drew1 | refine below_set ?_ GE138.out | refine below_set ?_ GE140.out) | exact HB.out)⟩
                    all_goals (first | (exfalso; simp_all <;> omega) | (go_ret; exact ⟨by first | rfl | (simp [errW_none, errW_some] <;> rfl) | (simp [*, errW_none, errW_some] <;> rfl), by repeat (first | (with_reducible first | exact HB.out | apply below_alloc | apply pw_below_drewN | apply below_drew1 | refine below_set ?_ GE138.out | refine below_set ?_ GE140.out) | exact HB.out)⟩))
          case rest =>
            clear HC18
            try clear c1
            try clear p1
            try clear q1
            try clear hx1
            try clear c2
            try clear c2b0
            try clear c2b1
            try clear p2
            try clear c3
            try clear c6
            try clear c6b0
            try clear p6
            try clear c7
            try clear c7b0
            try clear p8
            try clear q8
            try clear hx8
            try clear c9
            try clear c9b0
            try clear p11
            try clear q11
            try clear hx11
            try clear c12
            try clear c12b0
            try clear p14
            try clear q14
            try clear hx14
            try clear c16
            try clear c16b0
            try clear c20
            try clear c23
            try clear c23b0
            try clear c23b1
            try clear c24
            try clear c24b0
            try clear c24b1
            try clear c25
            try clear c25b0
            try clear c25b1
            try clear c26
            try clear c27
            try clear c27b0
            try clear c27b1
            try clear c30
            try clear c30b0
            try clear c30b1
            try clear c31
            try clear c31b0
            try clear c31b1
            try clear c32
            try clear c32b0
            try clear c32b1
            try clear c33
            try clear c33b0
            try clear c33b1
            try clear c34
            try clear c34b0
            try clear c37
            try clear c39
            try clear hcz10_0
            try clear hcz10_1
            try clear hcz10_2
            try clear hcz10_3
            try clear hcz13_0
            try clear hcz13_1
            try clear hcz13_2
            try clear hcz13_3
            try clear hcz17_0
            try clear hcz17_1
            try clear hcz17_2
            try clear hcz17_3
            try clear hcz21_0
            try clear hcz21_1
            try clear hcz21_2
            try clear hcz21_3
            try clear hcz38_0
            try clear hcz38_1
            try clear hcz38_2
            try clear hcz38_3
            try clear hcz40_0
            try clear hcz40_1
            try clear hcz40_2
            try clear hcz40_3
            try clear hcz4_0
            try clear hcz4_1
            try clear hcz4_2
            try clear hcz4_3
            try clear hfz10_0
            try clear hfz10_1
            try clear hfz10_2
            try clear hfz10_3
            try clear hfz13_0
            try clear hfz13_1
            try clear hfz13_2
            try clear hfz13_3
            try clear hfz17_0
            try clear hfz17_1
            try clear hfz17_2
            try clear hfz17_3
            try clear hfz21_0
            try clear hfz21_1
            try clear hfz21_2
            try clear hfz21_3
            try clear hfz38_0
            try clear hfz38_1
            try clear hfz38_2
            try clear hfz38_3
            try clear hfz40_0
            try clear hfz40_1
            try clear hfz40_2
            try clear hfz40_3
            try clear hfz4_0
            try clear hfz4_1
            try clear hfz4_2
            try clear hfz4_3
            try clear p1
            try clear p11
            try clear p14
            try clear p2
            try clear p6
            try clear p8
            try clear q1
            try clear q11
            try clear q14
            try clear q8
            obtain ⟨kq, x0_17, x139000_17, x139001_17, x139002_17, x139003_17, x141000_17, rfl, HA, HJ17, BK138, BK140, HB⟩ := hcut
            cases kq with
            | zero => exact absurd HA.out (by simp [exequaturref01_URI.j2])
            | succ kj17 =>
              have H := HA.out
              clear HA
              simp only [exequaturref01_URI.j2] at H
              replace H := Option.bind_eq_some_iff.mp H
              obtain ⟨t141, A410, H⟩ := H
              replace H : (if t141 < (x0_17.size : Int) then (if 0 ≤ (wrap64 (t141 + 1)) then (if (wrap64 (t141 + 1)) ≤ (x0_17.size : Int) then (if 0 ≤ t141 then (if t141 ≤ (x0_17.size : Int) then (exequaturref01_URI.j3 kj17 (x0_17.extract 0 (t141 : Int).toNat) x141000_17 (⟨#[]⟩ : ByteArray) (⟨#[]⟩ : ByteArray) (x0_17.extract ((wrap64 (t141 + 1)) : Int).toNat x0_17.size)) else (none)) else (none)) else (none)) else (none)) else (exequaturref01_URI.j3 kj17 x0_17 x141000_17 (⟨#[]⟩ : ByteArray) (⟨#[]⟩ : ByteArray) (⟨#[]⟩ : ByteArray))) = some (r1, r2, r3, r4, r5) := H
              have A41 := Aside0.mk A410
              clear A410
              have HC42 := Aside0.mk H
              clear H
              go_upto_if 73 with (first | ((with_reducible refine gate_callee (f := 17) rfl ?_); refine goesL_ (some 69) rfl rfl Tryd.func17 (by kernel_rfl) rfl #[.string x0_17, .int .u8 63] rfl (by (try simp only [List.map_toArray, List.map_cons, List.map_nil]); first | done | rfl | (simp only [List.length_drop, List.length_take]; rfl)) ?_; (with_reducible refine (exequaturref01_at.calls kj17 x0_17 63 t141 _ A41.out).mono ?_); rintro e w' ⟨rfl, ⟨nd, rfl⟩⟩; refine ⟨_, rfl, ?_⟩))
              (try simp only [Act.put, List.setIfInBounds_toArray, List.set_cons_zero, List.set_cons_succ])
              go_cut [0] (fun v0 wc => ∃ (kq : Nat) (x0_41 : ByteArray) (x141003_41 : ByteArray), v0 = .string x0_41 ∧ Aside0 (exequaturref01_URI.j3 kq x0_41 x141000_17 (⟨#[]⟩ : ByteArray) (⟨#[]⟩ : ByteArray) x141003_41 = some (r1, r2, r3, r4, r5)) ∧ Aside0 (kq ≤ kj17) ∧ Aside0 (wc.heap[gb138]? = some (.cells #[.string x139000_17, .string x139001_17, .string x139002_17, .string x139003_17] 31 (0, 0))) ∧ Aside0 (wc.heap[gb140]? = some (.cells #[.string x141000_17, .string (⟨#[]⟩ : ByteArray), .string (⟨#[]⟩ : ByteArray), .string x141003_41] 31 (0, 0))) ∧ Aside0 (Below w.heap.size w wc))
              case first =>
                have H := HC42.out
                clear HC42
                by_cases c43 : t141 < (x0_17.size : Int)
                · rw [if_pos c43] at H
                  have c43b0 : decide (t141 < (x0_17.size : Int)) = true := decide_eq_true c43
                  clear c43
                  (first | rw [c43b0] | (simp only [i64_w, i32_w]; rw [c43b0]) | skip)
                  obtain ⟨ji44, hji44⟩ : ∃ j_ : Int, (wrap64 (t141 + 1)) = j_ := ⟨_, rfl⟩
                  replace H : (if 0 ≤ (ji44) then (if (ji44) ≤ (x0_17.size : Int) then (if 0 ≤ t141 then (if t141 ≤ (x0_17.size : Int) then (exequaturref01_URI.j3 kj17 (x0_17.extract 0 (t141 : Int).toNat) x141000_17 (⟨#[]⟩ : ByteArray) (⟨#[]⟩ : ByteArray) (x0_17.extract ((ji44) : Int).toNat x0_17.size)) else (none)) else (none)) else (none)) else (none)) = some (r1, r2, r3, r4, r5) := by first | (rw [hji44] at H; exact H) | (simp only [hji44] at H ⊢; exact H)
                  have hji44w : (IntKind.i64.wrap (t141 + 1)) = ji44 := (i64_w _).trans hji44
                  by_cases c45 : 0 ≤ (ji44)
                  · rw [if_pos c45] at H
                    have c45b0 := eq_true c45
                    have c45b1 : decide (0 ≤ (ji44)) = true := decide_eq_true c45
                    clear c45
                    by_cases c46 : (ji44) ≤ (x0_17.size : Int)
                    · rw [if_pos c46] at H
                      have c46b0 := eq_true c46
                      have c46b1 : decide ((ji44) ≤ (x0_17.size : Int)) = true := decide_eq_true c46
                      clear c46
                      by_cases c47 : 0 ≤ t141
                      · rw [if_pos c47] at H
                        have c47b0 := eq_true c47
                        have c47b1 : decide (0 ≤ t141) = true := decide_eq_true c47
                        clear c47
                        by_cases c48 : t141 ≤ (x0_17.size : Int)
                        · rw [if_pos c48] at H
                          have c48b0 := eq_true c48
                          have c48b1 : decide (t141 ≤ (x0_17.size : Int)) = true := decide_eq_true c48
                          clear c48
                          have H' := Aside0.mk H
                          clear H
                          try go_wp2
                          have n0_ := Aside0.mk (blk_drewN BK138.out nd)
                          have n1_ := Aside0.mk (blk_drewN BK140.out nd)
                          have n2_ := Aside0.mk (pw_below_drewN HB.out nd)
                          clear BK138
                          clear BK140
                          clear HB
                          have BK138 := n0_
                          have BK140 := n1_
                          have HB := n2_
                          clear n0_ n1_ n2_
                          generalize wc.drewN nd = wc at BK138 BK140 HB ⊢
                          have n0_ := Aside0.mk (blk_drew BK138.out)
                          have n1_ := Aside0.mk (blk_drew BK140.out)
                          have n2_ := Aside0.mk (below_drew1 HB.out)
                          clear BK138
                          clear BK140
                          clear HB
                          have BK138 := n0_
                          have BK140 := n1_
                          have HB := n2_
                          clear n0_ n1_ n2_
                          refine start_ (n := 10) (S := fun w' => True) (ds := []) #[false, false, false, false, false, false, false, false, false, false] (by kernel_rfl) rfl rfl trivial (fun hHeld => ?_); refine with_tabW exequaturref01_URI.tab17 exequaturref01_URI.bits17 (fun HT_ HW_ => ?_)
                          generalize wc.drew = w49 at BK138 BK140 HB hHeld ⊢
                          refine pure_ (i := 0) (N := some 74) (v := ?_) (a' := ?_) #[true, false, false, false, false, false, false, false, false, false] rfl rfl (any_of HT_.out (by kernel_rfl)) (fun _ _ _ h => h) (Or.inl ⟨by rfl, ?_⟩) ?_ ?_
                          rotate_left
                          · intro w'
                            go_simp
                            with_reducible rfl
                          rotate_left
                          · simp only [Act.put, List.setIfInBounds_toArray, List.set_cons_zero, List.set_cons_succ, i64_w, i32_w]
                            rfl
                          refine pure_ (i := 1) (N := some 75) (v := ?_) (a' := ?_) #[true, true, false, false, false, false, false, false, false, false] rfl rfl (any_of HT_.out (by kernel_rfl)) (fun _ _ _ h => h) (Or.inl ⟨by rfl, ?_⟩) ?_ ?_
                          rotate_left
                          · intro w'
                            go_simp
                            with_reducible rfl
                          rotate_left
                          · simp only [Act.put, List.setIfInBounds_toArray, List.set_cons_zero, List.set_cons_succ, i64_w, i32_w]
                            rfl
                          refine pure_ (i := 2) (N := some 76) (v := ?_) (a' := ?_) #[true, true, true, false, false, false, false, false, false, false] rfl rfl (any_of HT_.out (by kernel_rfl)) (fun _ _ _ h => h) (Or.inl ⟨by rfl, ?_⟩) ?_ ?_
                          rotate_left
                          · intro w'
                            go_simp
                            with_reducible rfl
                          rotate_left
                          · simp only [Act.put, List.setIfInBounds_toArray, List.set_cons_zero, List.set_cons_succ, i64_w, i32_w]
                            rfl
                          refine pure_ (i := 3) (N := some 77) (v := ?_) (a' := ?_) #[true, true, true, true, false, false, false, false, false, false] rfl rfl (any_of HT_.out (by kernel_rfl)) (fun _ _ _ h => h) (Or.inl ⟨by rfl, ?_⟩) ?_ ?_
                          rotate_left
                          · intro w'
                            go_simp
                            with_reducible rfl
                          rotate_left
                          · simp only [Act.put, List.setIfInBounds_toArray, List.set_cons_zero, List.set_cons_succ, i64_w, i32_w]
                            rfl
                          refine pure_ (i := 4) (N := some 78) (v := ?_) (a' := ?_) #[true, true, true, true, true, false, false, false, false, false] rfl rfl (any_of HT_.out (by kernel_rfl)) (fun _ _ _ h => h) (Or.inl ⟨by rfl, ?_⟩) ?_ ?_
                          rotate_left
                          · intro w'
                            go_simp
                            with_reducible rfl
                          rotate_left
                          · simp only [Act.put, List.setIfInBounds_toArray, List.set_cons_zero, List.set_cons_succ, i64_w, i32_w]
                            rfl
                          refine pure_ (i := 5) (N := some 79) (v := ?_) (a' := ?_) #[true, true, true, true, true, true, false, false, false, false] rfl rfl (any_of HT_.out (by kernel_rfl)) (fun _ _ _ h => h) (Or.inl ⟨by rfl, ?_⟩) ?_ ?_
                          rotate_left
                          · intro w'
                            go_simp
                            with_reducible rfl
                          rotate_left
                          · simp only [Act.put, List.setIfInBounds_toArray, List.set_cons_zero, List.set_cons_succ, i64_w, i32_w]
                            rfl
                          refine pure_ (i := 6) (N := some 80) (v := ?_) (a' := ?_) #[true, true, true, true, true, true, true, false, false, false] rfl rfl (any_of HT_.out (by kernel_rfl)) (fun _ _ _ h => h) (Or.inl ⟨by rfl, ?_⟩) ?_ ?_
                          rotate_left
                          · intro w'
                            go_simp
                            with_reducible rfl
                          rotate_left
                          · simp only [Act.put, List.setIfInBounds_toArray, List.set_cons_zero, List.set_cons_succ, i64_w, i32_w]
                            rfl
                          refine pure_ (i := 7) (N := some 81) (v := ?_) (a' := ?_) #[true, true, true, true, true, true, true, true, false, false] rfl rfl (any_of HT_.out (by kernel_rfl)) (fun _ _ _ h => h) (Or.inl ⟨by rfl, ?_⟩) ?_ ?_
                          rotate_left
                          · intro w'
                            go_simp
                            with_reducible rfl
                          rotate_left
                          · simp only [Act.put, List.setIfInBounds_toArray, List.set_cons_zero, List.set_cons_succ, i64_w, i32_w]
                            rfl
                          refine one_ (i := 8) (N := none) #[true, true, true, true, true, true, true, true, true, false] rfl rfl (one_of HT_.out (by kernel_rfl)) (by decide) (fun K hK => ?_)
                          have hs50 : w49.cell? ⟨gb140, 3, none⟩ = some (.string (⟨#[]⟩ : ByteArray)) := (blk_cell BK140.out 3).trans rfl
                          have hfs50 := blk_frozen BK140.out 3
                          have hns50_0 := NB138_140.out
                          have hms50_0 := NB140_138.out
                          refine skip_ (w1 := ?_) (by rfl) rfl ?_ ?_
                          rotate_left
                          · go_simp
                            rfl
                          refine hK.out _ _ trivial (fun hHeld => ?_)
                          clear hK K
                          refine pure_ (i := 9) (N := some 0) (v := ?_) (a' := ?_) #[true, true, true, true, true, true, true, true, true, true] rfl rfl (any_of HT_.out (by kernel_rfl)) (fun _ _ _ h => h) (Or.inl ⟨by rfl, ?_⟩) ?_ ?_
                          rotate_left
                          · intro w'
                            go_simp
                            with_reducible rfl
                          rotate_left
                          · simp only [Act.put, List.setIfInBounds_toArray, List.set_cons_zero, List.set_cons_succ, i64_w, i32_w]
                            rfl
                          refine done_ (done_of HT_.out (by kernel_rfl)) ?_
                          try go_wp2
                          go_meet
                          case rel => exact ⟨_, (x0_17.extract 0 (t141 : Int).toNat), (x0_17.extract ((ji44) : Int).toNat x0_17.size), (by first | rfl | (simp; done) | (simp [*]; done) | (refine congrArg Value.bool ?_; rw [Bool.eq_iff_iff]; simp; done)), H', ⟨by have := HK1.out; have := HJ17.out; first | omega | exact Nat.le_refl _⟩, ⟨by (with_reducible repeat (first | refine blk_drewN ?_ _ | refine blk_drew ?_ | refine blk_alloc ?_ _)); refine blk_far ?_ NB138_140.out _; (with_reducible repeat (first | refine blk_drewN ?_ _ | refine blk_drew ?_ | refine blk_alloc ?_ _)); exact BK138.out⟩, ⟨by (with_reducible repeat (first | refine blk_drewN ?_ _ | refine blk_drew ?_ | refine blk_alloc ?_ _)); refine blk_put (cs := #[.string x141000_17, .string (⟨#[]⟩ : ByteArray), .string (⟨#[]⟩ : ByteArray), .string (⟨#[]⟩ : ByteArray)]) ?_ 3 _ rfl; (with_reducible repeat (first | refine blk_drewN ?_ _ | refine blk_drew ?_ | refine blk_alloc ?_ _)); exact BK140.out⟩, ⟨by repeat (first | (with_reducible first | exact HB.out | apply below_alloc | apply pw_below_drewN | apply below_drew1 | refine below_set ?_ GE138.out | refine below_set ?_ GE140.out) | exact HB.out)⟩⟩
                        · rw [if_neg c48] at H
                          exact absurd H (by simp)
                      · rw [if_neg c47] at H
                        exact absurd H (by simp)
                    · rw [if_neg c46] at H
                      exact absurd H (by simp)
                  · rw [if_neg c45] at H
                    exact absurd H (by simp)
                · rw [if_neg c43] at H
                  have c43b0 : decide (t141 < (x0_17.size : Int)) = false := decide_eq_false c43
                  clear c43
                  (first | rw [c43b0] | (simp only [i64_w, i32_w]; rw [c43b0]) | skip)
                  have H' := Aside0.mk H
                  clear H
                  go_wp2
                  go_meet
                  case rel => exact ⟨_, (x0_17), ((⟨#[]⟩ : ByteArray)), (by first | rfl | (simp; done) | (simp [*]; done) | (refine congrArg Value.bool ?_; rw [Bool.eq_iff_iff]; simp; done)), H', ⟨by have := HK1.out; have := HJ17.out; first | omega | exact Nat.le_refl _⟩, ⟨by (with_reducible repeat (first | refine blk_drewN ?_ _ | refine blk_drew ?_ | refine blk_alloc ?_ _)); exact BK138.out⟩, ⟨by (with_reducible repeat (first | refine blk_drewN ?_ _ | refine blk_drew ?_ | refine blk_alloc ?_ _)); exact BK140.out⟩, ⟨by repeat (first | (with_reducible first | exact HB.out | apply below_alloc | apply pw_below_drewN | apply below_drew1 | refine below_set ?_ GE138.out | refine below_set ?_ GE140.out) | exact HB.out)⟩⟩
              case rest =>
                clear HC42
                try clear c1
                try clear p1
                try clear q1
                try clear hx1
                try clear c2
                try clear c2b0
                try clear c2b1
                try clear p2
                try clear c3
                try clear c4
                try clear c6
                try clear c6b0
                try clear p6
                try clear c7
                try clear c7b0
                try clear p8
                try clear q8
                try clear hx8
                try clear c9
                try clear c9b0
                try clear p11
                try clear q11
                try clear hx11
                try clear c12
                try clear c12b0
                try clear p14
                try clear q14
                try clear hx14
                try clear c16
                try clear c16b0
                try clear c17
                try clear c20
                try clear c23
                try clear c23b0
                try clear c23b1
                try clear c24
                try clear c24b0
                try clear c24b1
                try clear c25
                try clear c25b0
                try clear c25b1
                try clear c26
                try clear c27
                try clear c27b0
                try clear c27b1
                try clear c30
                try clear c30b0
                try clear c30b1
                try clear c31
                try clear c31b0
                try clear c31b1
                try clear c32
                try clear c32b0
                try clear c32b1
                try clear c33
                try clear c33b0
                try clear c33b1
                try clear c34
                try clear c34b0
                try clear c37
                try clear c39
                try clear c43
                try clear c43b0
                try clear c45
                try clear c45b0
                try clear c45b1
                try clear c46
                try clear c46b0
                try clear c46b1
                try clear c47
                try clear c47b0
                try clear c47b1
                try clear c48
                try clear c48b0
                try clear c48b1
                try clear hcz10_0
                try clear hcz10_1
                try clear hcz10_2
                try clear hcz10_3
                try clear hcz13_0
                try clear hcz13_1
                try clear hcz13_2
                try clear hcz13_3
                try clear hcz17_0
                try clear hcz17_1
                try clear hcz17_2
                try clear hcz17_3
                try clear hcz21_0
                try clear hcz21_1
                try clear hcz21_2
                try clear hcz21_3
                try clear hcz38_0
                try clear hcz38_1
                try clear hcz38_2
                try clear hcz38_3
                try clear hcz40_0
                try clear hcz40_1
                try clear hcz40_2
                try clear hcz40_3
                try clear hcz4_0
                try clear hcz4_1
                try clear hcz4_2
                try clear hcz4_3
                try clear hfz10_0
                try clear hfz10_1
                try clear hfz10_2
                try clear hfz10_3
                try clear hfz13_0
                try clear hfz13_1
                try clear hfz13_2
                try clear hfz13_3
                try clear hfz17_0
                try clear hfz17_1
                try clear hfz17_2
                try clear hfz17_3
                try clear hfz21_0
                try clear hfz21_1
                try clear hfz21_2
                try clear hfz21_3
                try clear hfz38_0
                try clear hfz38_1
                try clear hfz38_2
                try clear hfz38_3
                try clear hfz40_0
                try clear hfz40_1
                try clear hfz40_2
                try clear hfz40_3
                try clear hfz4_0
                try clear hfz4_1
                try clear hfz4_2
                try clear hfz4_3
                try clear p1
                try clear p11
                try clear p14
                try clear p2
                try clear p6
                try clear p8
                try clear q1
                try clear q11
                try clear q14
                try clear q8
                obtain ⟨kq, x0_41, x141003_41, rfl, HA, HJ41, BK138, BK140, HB⟩ := hcut
                cases kq with
                | zero => exact absurd HA.out (by simp [exequaturref01_URI.j3])
                | succ kj41 =>
                  have H := HA.out
                  clear HA
                  simp only [exequaturref01_URI.j3] at H
                  replace H := Option.bind_eq_some_iff.mp H
                  obtain ⟨t142, A510, H⟩ := H
                  replace H : (if 0 ≤ t142 then (if t142 ≤ (x0_41.size : Int) then (exequaturref01_URI.l1 kj41 0 x141000_17 (x0_41.extract 0 (t142 : Int).toNat) (x0_41.extract (t142 : Int).toNat x0_41.size) x141003_41) else (none)) else (none)) = some (r1, r2, r3, r4, r5) := H
                  have A51 := Aside0.mk A510
                  clear A510
                  by_cases c52 : 0 ≤ t142
                  · rw [if_pos c52] at H
                    have c52b0 := eq_true c52
                    have c52b1 : decide (0 ≤ t142) = true := decide_eq_true c52
                    clear c52
                    by_cases c53 : t142 ≤ (x0_41.size : Int)
                    · rw [if_pos c53] at H
                      have c53b0 := eq_true c53
                      have c53b1 : decide (t142 ≤ (x0_41.size : Int)) = true := decide_eq_true c53
                      clear c53
                      have c54b0 := eq_true (of_decide_eq_true (by first | (with_reducible assumption) | assumption) : 0 ≤ t142)
                      have c55b0 := eq_true (of_decide_eq_true (by first | (with_reducible assumption) | assumption) : t142 ≤ (x0_41.size : Int))
                      have H' := Aside0.mk H
                      clear H
                      try go_wp2_with (first | ((with_reducible refine gate_callee (f := 17) rfl ?_); refine goesL_ (some 83) rfl rfl Tryd.func17 (by kernel_rfl) rfl #[.string x0_41, .int .u8 47] rfl (by (try simp only [List.map_toArray, List.map_cons, List.map_nil]); first | done | rfl | (simp only [List.length_drop, List.length_take]; rfl)) ?_; (with_reducible refine (exequaturref01_at.calls kj41 x0_41 47 t142 _ A51.out).mono ?_); rintro e w' ⟨rfl, ⟨nd, rfl⟩⟩; refine ⟨_, rfl, ?_⟩; (try (rw [drewN_self wc]; generalize hq_ : World.drewN wc _ = wc; have n0_ : Aside0 (wc.heap[gb138]? = some (.cells #[.string x139000_17, .string x139001_17, .string x139002_17, .string x139003_17] 31 (0, 0))) := ⟨by rw [← hq_]; exact (by (with_reducible repeat (first | refine blk_drewN ?_ _ | refine blk_drew ?_ | refine blk_alloc ?_ _)); exact BK138.out)⟩; have n1_ : Aside0 (wc.heap[gb140]? = some (.cells #[.string x141000_17, .string (⟨#[]⟩ : ByteArray), .string (⟨#[]⟩ : ByteArray), .string x141003_41] 31 (0, 0))) := ⟨by rw [← hq_]; exact (by (with_reducible repeat (first | refine blk_drewN ?_ _ | refine blk_drew ?_ | refine blk_alloc ?_ _)); exact BK140.out)⟩; have n2_ : Aside0 (Below w.heap.size w wc) := ⟨by rw [← hq_]; exact (by repeat (first | (with_reducible first | exact HB.out | apply below_alloc | apply pw_below_drewN | apply below_drew1 | refine below_set ?_ GE138.out | refine below_set ?_ GE140.out) | exact HB.out))⟩; clear BK138 BK140 HB hq_; have BK138 := n0_; have BK140 := n1_; have HB := n2_; clear n0_ n1_ n2_))))
                      have n0_ := Aside0.mk (blk_drew BK138.out)
                      have n1_ := Aside0.mk (blk_drew BK140.out)
                      have n2_ := Aside0.mk (below_drew1 HB.out)
                      clear BK138
                      clear BK140
                      clear HB
                      have BK138 := n0_
                      have BK140 := n1_
                      have HB := n2_
                      clear n0_ n1_ n2_
                      refine start_ (n := 10) (S := fun w' => True) (ds := []) #[false, false, false, false, false, false, false, false, false, false] (by kernel_rfl) rfl rfl trivial (fun hHeld => ?_); refine with_tabW exequaturref01_URI.tab19 exequaturref01_URI.bits19 (fun HT_ HW_ => ?_)
                      generalize wc.drew = w56 at BK138 BK140 HB hHeld ⊢
                      refine pure_ (i := 0) (N := some 84) (v := ?_) (a' := ?_) #[true, false, false, false, false, false, false, false, false, false] rfl rfl (any_of HT_.out (by kernel_rfl)) (fun _ _ _ h => h) (Or.inl ⟨by rfl, ?_⟩) ?_ ?_
                      rotate_left
                      · intro w'
                        go_simp
                        with_reducible rfl
                      rotate_left
                      · simp only [Act.put, List.setIfInBounds_toArray, List.set_cons_zero, List.set_cons_succ, i64_w, i32_w]
                        rfl
                      refine pure_ (i := 1) (N := some 85) (v := ?_) (a' := ?_) #[true, true, false, false, false, false, false, false, false, false] rfl rfl (any_of HT_.out (by kernel_rfl)) (fun _ _ _ h => h) (Or.inl ⟨by rfl, ?_⟩) ?_ ?_
                      rotate_left
                      · intro w'
                        go_simp
                        with_reducible rfl
                      rotate_left
                      · simp only [Act.put, List.setIfInBounds_toArray, List.set_cons_zero, List.set_cons_succ, i64_w, i32_w]
                        rfl
                      refine pure_ (i := 2) (N := some 86) (v := ?_) (a' := ?_) #[true, true, true, false, false, false, false, false, false, false] rfl rfl (any_of HT_.out (by kernel_rfl)) (fun _ _ _ h => h) (Or.inl ⟨by rfl, ?_⟩) ?_ ?_
                      rotate_left
                      · intro w'
                        go_simp
                        with_reducible rfl
                      rotate_left
                      · simp only [Act.put, List.setIfInBounds_toArray, List.set_cons_zero, List.set_cons_succ, i64_w, i32_w]
                        rfl
                      refine pure_ (i := 3) (N := some 87) (v := ?_) (a' := ?_) #[true, true, true, true, false, false, false, false, false, false] rfl rfl (any_of HT_.out (by kernel_rfl)) (fun _ _ _ h => h) (Or.inl ⟨by rfl, ?_⟩) ?_ ?_
                      rotate_left
                      · intro w'
                        go_simp
                        with_reducible rfl
                      rotate_left
                      · simp only [Act.put, List.setIfInBounds_toArray, List.set_cons_zero, List.set_cons_succ, i64_w, i32_w]
                        rfl
                      refine pure_ (i := 4) (N := some 88) (v := ?_) (a' := ?_) #[true, true, true, true, true, false, false, false, false, false] rfl rfl (any_of HT_.out (by kernel_rfl)) (fun _ _ _ h => h) (Or.inl ⟨by rfl, ?_⟩) ?_ ?_
                      rotate_left
                      · intro w'
                        go_simp
                        with_reducible rfl
                      rotate_left
                      · simp only [Act.put, List.setIfInBounds_toArray, List.set_cons_zero, List.set_cons_succ, i64_w, i32_w]
                        rfl
                      refine pure_ (i := 5) (N := some 89) (v := ?_) (a' := ?_) #[true, true, true, true, true, true, false, false, false, false] rfl rfl (any_of HT_.out (by kernel_rfl)) (fun _ _ _ h => h) (Or.inl ⟨by rfl, ?_⟩) ?_ ?_
                      rotate_left
                      · intro w'
                        go_simp
                        with_reducible rfl
                      rotate_left
                      · simp only [Act.put, List.setIfInBounds_toArray, List.set_cons_zero, List.set_cons_succ, i64_w, i32_w]
                        rfl
                      refine pure_ (i := 6) (N := some 90) (v := ?_) (a' := ?_) #[true, true, true, true, true, true, true, false, false, false] rfl rfl (any_of HT_.out (by kernel_rfl)) (fun _ _ _ h => h) (Or.inl ⟨by rfl, ?_⟩) ?_ ?_
                      rotate_left
                      · intro w'
                        go_simp
                        with_reducible rfl
                      rotate_left
                      · simp only [Act.put, List.setIfInBounds_toArray, List.set_cons_zero, List.set_cons_succ, i64_w, i32_w]
                        rfl
                      refine one_ (i := 7) (N := none) #[true, true, true, true, true, true, true, true, false, false] rfl rfl (one_of HT_.out (by kernel_rfl)) (by decide) (fun K hK => ?_)
                      have hs57 : w56.cell? ⟨gb140, 1, none⟩ = some (.string (⟨#[]⟩ : ByteArray)) := (blk_cell BK140.out 1).trans rfl
                      have hfs57 := blk_frozen BK140.out 1
                      have hns57_0 := NB138_140.out
                      have hms57_0 := NB140_138.out
                      refine skip_ (w1 := ?_) (by rfl) rfl ?_ ?_
                      rotate_left
                      · go_simp
                        rfl
                      refine hK.out _ _ trivial (fun hHeld => ?_)
                      clear hK K
                      refine pure_ (i := 8) (N := some 91) (v := ?_) (a' := ?_) #[true, true, true, true, true, true, true, true, true, false] rfl rfl (any_of HT_.out (by kernel_rfl)) (fun _ _ _ h => h) (Or.inl ⟨by rfl, ?_⟩) ?_ ?_
                      rotate_left
                      · intro w'
                        go_simp
                        with_reducible rfl
                      rotate_left
                      · simp only [Act.put, List.setIfInBounds_toArray, List.set_cons_zero, List.set_cons_succ, i64_w, i32_w]
                        rfl
                      refine one_ (i := 9) (N := none) #[true, true, true, true, true, true, true, true, true, true] rfl rfl (one_of HT_.out (by kernel_rfl)) (by decide) (fun K hK => ?_)
                      have hs58 : w56.cell? ⟨gb140, 2, none⟩ = some (.string (⟨#[]⟩ : ByteArray)) := (blk_cell BK140.out 2).trans rfl
                      have hfs58 := blk_frozen BK140.out 2
                      have hns58_0 := NB138_140.out
                      have hms58_0 := NB140_138.out
                      refine skip_ (w1 := ?_) (by rfl) rfl ?_ ?_
                      rotate_left
                      · go_simp
                        rfl
                      refine hK.out _ _ trivial (fun hHeld => ?_)
                      clear hK K
                      refine done_ (done_of HT_.out (by kernel_rfl)) ?_
                      try go_wp2
                      go_loopg [9] kj41 (fun kq v9 w' => ∃ (x9_4 : Int) (x139000_4 : ByteArray) (x139001_4 : ByteArray) (x139002_4 : ByteArray) (x139003_4 : ByteArray), v9 = .int .i64 x9_4 ∧ Aside0 (exequaturref01_URI.l1 kq x9_4 x141000_17 (x0_41.extract 0 (t142 : Int).toNat) (x0_41.extract (t142 : Int).toNat x0_41.size) x141003_41 = some (r1, r2, r3, r4, r5)) ∧ Aside0 (kq ≤ kj41) ∧ Aside0 (w'.heap[gb138]? = some (.cells #[.string x139000_4, .string x139001_4, .string x139002_4, .string x139003_4] 31 (0, 0))) ∧ Aside0 (w'.heap[gb140]? = some (.cells #[.string x141000_17, .string (x0_41.extract 0 (t142 : Int).toNat), .string (x0_41.extract (t142 : Int).toNat x0_41.size), .string x141003_41] 31 (0, 0))) ∧ Aside0 (Below w.heap.size w w'))
                      case atStart => exact ⟨(0), (x139000_17), (x139001_17), (x139002_17), (x139003_17), (by first | rfl | (simp; done) | (simp [*]; done) | (refine congrArg Value.bool ?_; rw [Bool.eq_iff_iff]; simp; done)), H', ⟨Nat.le_refl _⟩, ⟨by (with_reducible repeat (first | refine blk_drewN ?_ _ | refine blk_drew ?_ | refine blk_alloc ?_ _)); refine blk_far ?_ NB138_140.out _; (with_reducible repeat (first | refine blk_drewN ?_ _ | refine blk_drew ?_ | refine blk_alloc ?_ _)); refine blk_far ?_ NB138_140.out _; (with_reducible repeat (first | refine blk_drewN ?_ _ | refine blk_drew ?_ | refine blk_alloc ?_ _)); exact BK138.out⟩, ⟨by (with_reducible repeat (first | refine blk_drewN ?_ _ | refine blk_drew ?_ | refine blk_alloc ?_ _)); refine blk_put (cs := #[.string x141000_17, .string (x0_41.extract 0 (t142 : Int).toNat), .string (⟨#[]⟩ : ByteArray), .string x141003_41]) ?_ 2 _ rfl; (with_reducible repeat (first | refine blk_drewN ?_ _ | refine blk_drew ?_ | refine blk_alloc ?_ _)); refine blk_put (cs := #[.string x141000_17, .string (⟨#[]⟩ : ByteArray), .string (⟨#[]⟩ : ByteArray), .string x141003_41]) ?_ 1 _ rfl; (with_reducible repeat (first | refine blk_drewN ?_ _ | refine blk_drew ?_ | refine blk_alloc ?_ _)); exact BK140.out⟩, ⟨by repeat (first | (with_reducible first | exact HB.out | apply below_alloc | apply pw_below_drewN | apply below_drew1 | refine below_set ?_ GE138.out | refine below_set ?_ GE140.out) | exact HB.out)⟩⟩
                      case round =>
                        clear H'
                        try clear c1
                        try clear p1
                        try clear q1
                        try clear hx1
                        try clear c2
                        try clear c2b0
                        try clear c2b1
                        try clear p2
                        try clear c3
                        try clear c4
                        try clear c5
                        try clear c6
                        try clear c6b0
                        try clear p6
                        try clear c7
                        try clear c7b0
                        try clear p8
                        try clear q8
                        try clear hx8
                        try clear c9
                        try clear c9b0
                        try clear p11
                        try clear q11
                        try clear hx11
                        try clear c12
                        try clear c12b0
                        try clear p14
                        try clear q14
                        try clear hx14
                        try clear c16
                        try clear c16b0
                        try clear c17
                        try clear c20
                        try clear c23
                        try clear c23b0
                        try clear c23b1
                        try clear c24
                        try clear c24b0
                        try clear c24b1
                        try clear c25
                        try clear c25b0
                        try clear c25b1
                        try clear c26
                        try clear c27
                        try clear c27b0
                        try clear c27b1
                        try clear c30
                        try clear c30b0
                        try clear c30b1
                        try clear c31
                        try clear c31b0
                        try clear c31b1
                        try clear c32
                        try clear c32b0
                        try clear c32b1
                        try clear c33
                        try clear c33b0
                        try clear c33b1
                        try clear c34
                        try clear c34b0
                        try clear c37
                        try clear c39
                        try clear c43
                        try clear c43b0
                        try clear c45
                        try clear c45b0
                        try clear c45b1
                        try clear c46
                        try clear c46b0
                        try clear c46b1
                        try clear c47
                        try clear c47b0
                        try clear c47b1
                        try clear c48
                        try clear c48b0
                        try clear c48b1
                        try clear c52
                        try clear c52b0
                        try clear c52b1
                        try clear c53
                        try clear c53b0
                        try clear c53b1
                        try clear c54
                        try clear c54b0
                        try clear c55
                        try clear c55b0
                        try clear hcz10_0
                        try clear hcz10_1
                        try clear hcz10_2
                        try clear hcz10_3
                        try clear hcz13_0
                        try clear hcz13_1
                        try clear hcz13_2
                        try clear hcz13_3
                        try clear hcz17_0
                        try clear hcz17_1
                        try clear hcz17_2
                        try clear hcz17_3
                        try clear hcz21_0
                        try clear hcz21_1
                        try clear hcz21_2
                        try clear hcz21_3
                        try clear hcz38_0
                        try clear hcz38_1
                        try clear hcz38_2
                        try clear hcz38_3
                        try clear hcz40_0
                        try clear hcz40_1
                        try clear hcz40_2
                        try clear hcz40_3
                        try clear hcz4_0
                        try clear hcz4_1
                        try clear hcz4_2
                        try clear hcz4_3
                        try clear hfz10_0
                        try clear hfz10_1
                        try clear hfz10_2
                        try clear hfz10_3
                        try clear hfz13_0
                        try clear hfz13_1
                        try clear hfz13_2
                        try clear hfz13_3
                        try clear hfz17_0
                        try clear hfz17_1
                        try clear hfz17_2
                        try clear hfz17_3
                        try clear hfz21_0
                        try clear hfz21_1
                        try clear hfz21_2
                        try clear hfz21_3
                        try clear hfz38_0
                        try clear hfz38_1
                        try clear hfz38_2
                        try clear hfz38_3
                        try clear hfz40_0
                        try clear hfz40_1
                        try clear hfz40_2
                        try clear hfz40_3
                        try clear hfz4_0
                        try clear hfz4_1
                        try clear hfz4_2
                        try clear hfz4_3
                        try clear p1
                        try clear p11
                        try clear p14
                        try clear p2
                        try clear p6
                        try clear p8
                        try clear q1
                        try clear q11
                        try clear q14
                        try clear q8
                        obtain ⟨x9_4, x139000_4, x139001_4, x139002_4, x139003_4, rfl, HA, HK4, BK138, BK140, HB⟩ := hrel
                        cases gk with
                        | zero => exact absurd HA.out (by simp [exequaturref01_URI.l1])
                        | succ k4 =>
                          have H := HA.out
                          clear HA
                          simp only [exequaturref01_URI.l1] at H
                          generalize hgx_ : x0_41.extract 0 (t142 : Int).toNat = hh_ at H BK140
                          by_cases c59 : x9_4 < (hh_.size : Int)
                          · rw [if_pos c59] at H
                            have c59b0 : decide (x9_4 < (hh_.size : Int)) = true := decide_eq_true c59
                            clear c59
                            by_cases c60 : 0 ≤ x9_4
                            · rw [if_pos c60] at H
                              have c60b0 : decide (0 ≤ x9_4) = true := decide_eq_true c60
                              clear c60
                              by_cases c62 : (bt hh_ x9_4) ≥ 97
                              · rw [if_pos c62] at H
                                have c62b0 : decide (97 ≤ (bt hh_ x9_4)) = true := decide_eq_true c62
                                clear c62
                                by_cases c63 : (bt hh_ x9_4) ≤ 122
                                · rw [if_pos c63] at H
                                  have c63b0 : decide ((bt hh_ x9_4) ≤ 122) = true := decide_eq_true c63
                                  clear c63
                                  have H' := Aside0.mk H
                                  clear H
                                  have hnb64 := NB140_138.out
                                  have hnc64 := NB138_140.out
                                  have hcz65_0 : wr.cell? ⟨gb140, 0, none⟩ = some (.string x141000_17) := (blk_cell BK140.out 0).trans rfl
                                  have hcz65_1 : wr.cell? ⟨gb140, 1, none⟩ = some (.string hh_) := (blk_cell BK140.out 1).trans rfl
                                  have hcz65_2 : wr.cell? ⟨gb140, 2, none⟩ = some (.string (x0_41.extract (t142 : Int).toNat x0_41.size)) := (blk_cell BK140.out 2).trans rfl
                                  have hcz65_3 : wr.cell? ⟨gb140, 3, none⟩ = some (.string x141003_41) := (blk_cell BK140.out 3).trans rfl
                                  have hfz65_0 := blk_frozen BK140.out 0
                                  have hfz65_1 := blk_frozen BK140.out 1
                                  have hfz65_2 := blk_frozen BK140.out 2
                                  have hfz65_3 := blk_frozen BK140.out 3
                                  have p61 : 0 ≤ (x9_4 : Int) := of_decide_eq_true (by first | (with_reducible assumption) | assumption)
                                  have q61 : x9_4 < (hh_.size : Int) := of_decide_eq_true (by first | (with_reducible assumption) | assumption)
                                  have hx61 := bt_at hh_ x9_4
                                  replace p61 := eq_true p61
                                  replace q61 := eq_true q61
                                  go_wp2
                                  subst hgx_; go_roundg k4
                                  case measure => have := HK1.out; have := HJ17.out; have := HJ41.out; have := HK4.out; omega
                                  case rel => exact ⟨(wrap64 (x9_4 + 1)), (x139000_4), (x139001_4), (x139002_4), (x139003_4), (by first | rfl | (simp; done) | (simp [*]; done) | (refine congrArg Value.bool ?_; rw [Bool.eq_iff_iff]; simp; done)), H', ⟨by have := HK1.out; have := HJ17.out; have := HJ41.out; have := HK4.out; omega⟩, ⟨by (with_reducible repeat (first | refine blk_drewN ?_ _ | refine blk_drew ?_ | refine blk_alloc ?_ _)); exact BK138.out⟩, ⟨by (with_reducible repeat (first | refine blk_drewN ?_ _ | refine blk_drew ?_ | refine blk_alloc ?_ _)); exact BK140.out⟩, ⟨by repeat (first | (with_reducible first | exact HB.out | apply below_alloc | apply pw_below_drewN | apply below_drew1 | refine below_set ?_ GE138.out | refine below_set ?_ GE140.out) | exact HB.out)⟩⟩
                                · rw [if_neg c63] at H
                                  have c63b0 : decide ((bt hh_ x9_4) ≤ 122) = false := decide_eq_false c63
                                  clear c63
                                  by_cases c66 : (bt hh_ x9_4) ≥ 48
                                  · rw [if_pos c66] at H
                                    have c66b0 : decide (48 ≤ (bt hh_ x9_4)) = true := decide_eq_true c66
                                    clear c66
                                    by_cases c67 : (bt hh_ x9_4) ≤ 57
                                    · rw [if_pos c67] at H
                                      have c67b0 : decide ((bt hh_ x9_4) ≤ 57) = true := decide_eq_true c67
                                      clear c67
                                      have H' := Aside0.mk H
                                      clear H
                                      have hnb68 := NB140_138.out
                                      have hnc68 := NB138_140.out
                                      have hcz69_0 : wr.cell? ⟨gb140, 0, none⟩ = some (.string x141000_17) := (blk_cell BK140.out 0).trans rfl
                                      have hcz69_1 : wr.cell? ⟨gb140, 1, none⟩ = some (.string hh_) := (blk_cell BK140.out 1).trans rfl
                                      have hcz69_2 : wr.cell? ⟨gb140, 2, none⟩ = some (.string (x0_41.extract (t142 : Int).toNat x0_41.size)) := (blk_cell BK140.out 2).trans rfl
                                      have hcz69_3 : wr.cell? ⟨gb140, 3, none⟩ = some (.string x141003_41) := (blk_cell BK140.out 3).trans rfl
                                      have hfz69_0 := blk_frozen BK140.out 0
                                      have hfz69_1 := blk_frozen BK140.out 1
                                      have hfz69_2 := blk_frozen BK140.out 2
                                      have hfz69_3 := blk_frozen BK140.out 3
                                      have p61 : 0 ≤ (x9_4 : Int) := of_decide_eq_true (by first | (with_reducible assumption) | assumption)
                                      have q61 : x9_4 < (hh_.size : Int) := of_decide_eq_true (by first | (with_reducible assumption) | assumption)
                                      have hx61 := bt_at hh_ x9_4
                                      replace p61 := eq_true p61
                                      replace q61 := eq_true q61
                                      go_wp2
                                      subst hgx_; go_roundg k4
                                      case measure => have := HK1.out; have := HJ17.out; have := HJ41.out; have := HK4.out; omega
                                      case rel => exact ⟨(wrap64 (x9_4 + 1)), (x139000_4), (x139001_4), (x139002_4), (x139003_4), (by first | rfl | (simp; done) | (simp [*]; done) | (refine congrArg Value.bool ?_; rw [Bool.eq_iff_iff]; simp; done)), H', ⟨by have := HK1.out; have := HJ17.out; have := HJ41.out; have := HK4.out; omega⟩, ⟨by (with_reducible repeat (first | refine blk_drewN ?_ _ | refine blk_drew ?_ | refine blk_alloc ?_ _)); exact BK138.out⟩, ⟨by (with_reducible repeat (first | refine blk_drewN ?_ _ | refine blk_drew ?_ | refine blk_alloc ?_ _)); exact BK140.out⟩, ⟨by repeat (first | (with_reducible first | exact HB.out | apply below_alloc | apply pw_below_drewN | apply below_drew1 | refine below_set ?_ GE138.out | refine below_set ?_ GE140.out) | exact HB.out)⟩⟩
                                    · rw [if_neg c67] at H
                                      have c67b0 : decide ((bt hh_ x9_4) ≤ 57) = false := decide_eq_false c67
                                      clear c67
                                      by_cases c70 : (bt hh_ x9_4) = 45
                                      · rw [if_pos c70] at H
                                        have c70b0 : ((bt hh_ x9_4) == 45) = true := beq_iff_eq.mpr c70
                                        have c70b1 : ((bt hh_ x9_4) != 45) = false := bne_eq_false_iff_eq.mpr c70
                                        clear c70
                                        have H' := Aside0.mk H
                                        clear H
                                        have hnb71 := NB140_138.out
                                        have hnc71 := NB138_140.out
                                        have hcz72_0 : wr.cell? ⟨gb140, 0, none⟩ = some (.string x141000_17) := (blk_cell BK140.out 0).trans rfl
                                        have hcz72_1 : wr.cell? ⟨gb140, 1, none⟩ = some (.string hh_) := (blk_cell BK140.out 1).trans rfl
                                        have hcz72_2 : wr.cell? ⟨gb140, 2, none⟩ = some (.string (x0_41.extract (t142 : Int).toNat x0_41.size)) := (blk_cell BK140.out 2).trans rfl
                                        have hcz72_3 : wr.cell? ⟨gb140, 3, none⟩ = some (.string x141003_41) := (blk_cell BK140.out 3).trans rfl
                                        have hfz72_0 := blk_frozen BK140.out 0
                                        have hfz72_1 := blk_frozen BK140.out 1
                                        have hfz72_2 := blk_frozen BK140.out 2
                                        have hfz72_3 := blk_frozen BK140.out 3
                                        have p61 : 0 ≤ (x9_4 : Int) := of_decide_eq_true (by first | (with_reducible assumption) | assumption)
                                        have q61 : x9_4 < (hh_.size : Int) := of_decide_eq_true (by first | (with_reducible assumption) | assumption)
                                        have hx61 := bt_at hh_ x9_4
                                        replace p61 := eq_true p61
                                        replace q61 := eq_true q61
                                        go_wp2
                                        subst hgx_; go_roundg k4
                                        case measure => have := HK1.out; have := HJ17.out; have := HJ41.out; have := HK4.out; omega
                                        case rel => exact ⟨(wrap64 (x9_4 + 1)), (x139000_4), (x139001_4), (x139002_4), (x139003_4), (by first | rfl | (simp; done) | (simp [*]; done) | (refine congrArg Value.bool ?_; rw [Bool.eq_iff_iff]; simp; done)), H', ⟨by have := HK1.out; have := HJ17.out; have := HJ41.out; have := HK4.out; omega⟩, ⟨by (with_reducible repeat (first | refine blk_drewN ?_ _ | refine blk_drew ?_ | refine blk_alloc ?_ _)); exact BK138.out⟩, ⟨by (with_reducible repeat (first | refine blk_drewN ?_ _ | refine blk_drew ?_ | refine blk_alloc ?_ _)); exact BK140.out⟩, ⟨by repeat (first | (with_reducible first | exact HB.out | apply below_alloc | apply pw_below_drewN | apply below_drew1 | refine below_set ?_ GE138.out | refine below_set ?_ GE140.out) | exact HB.out)⟩⟩
                                      · rw [if_neg c70] at H
                                        have c70b0 : ((bt hh_ x9_4) == 45) = false := beq_eq_false_iff_ne.mpr c70
                                        have c70b1 : ((bt hh_ x9_4) != 45) = true := bne_iff_ne.mpr c70
                                        by_cases c73 : (bt hh_ x9_4) = 46
                                        · rw [if_pos c73] at H
                                          have c73b0 : ((bt hh_ x9_4) == 46) = true := beq_iff_eq.mpr c73
                                          have c73b1 : ((bt hh_ x9_4) != 46) = false := bne_eq_false_iff_eq.mpr c73
                                          clear c73
                                          have H' := Aside0.mk H
                                          clear H
                                          have hnb74 := NB140_138.out
                                          have hnc74 := NB138_140.out
                                          have hcz75_0 : wr.cell? ⟨gb140, 0, none⟩ = some (.string x141000_17) := (blk_cell BK140.out 0).trans rfl
                                          have hcz75_1 : wr.cell? ⟨gb140, 1, none⟩ = some (.string hh_) := (blk_cell BK140.out 1).trans rfl
                                          have hcz75_2 : wr.cell? ⟨gb140, 2, none⟩ = some (.string (x0_41.extract (t142 : Int).toNat x0_41.size)) := (blk_cell BK140.out 2).trans rfl
                                          have hcz75_3 : wr.cell? ⟨gb140, 3, none⟩ = some (.string x141003_41) := (blk_cell BK140.out 3).trans rfl
                                          have hfz75_0 := blk_frozen BK140.out 0
                                          have hfz75_1 := blk_frozen BK140.out 1
                                          have hfz75_2 := blk_frozen BK140.out 2
                                          have hfz75_3 := blk_frozen BK140.out 3
                                          have p61 : 0 ≤ (x9_4 : Int) := of_decide_eq_true (by first | (with_reducible assumption) | assumption)
                                          have q61 : x9_4 < (hh_.size : Int) := of_decide_eq_true (by first | (with_reducible assumption) | assumption)
                                          have hx61 := bt_at hh_ x9_4
                                          replace p61 := eq_true p61
                                          replace q61 := eq_true q61
                                          go_wp2
                                          subst hgx_; go_roundg k4
                                          case measure => have := HK1.out; have := HJ17.out; have := HJ41.out; have := HK4.out; omega
                                          case rel => exact ⟨(wrap64 (x9_4 + 1)), (x139000_4), (x139001_4), (x139002_4), (x139003_4), (by first | rfl | (simp; done) | (simp [*]; done) | (refine congrArg Value.bool ?_; rw [Bool.eq_iff_iff]; simp; done)), H', ⟨by have := HK1.out; have := HJ17.out; have := HJ41.out; have := HK4.out; omega⟩, ⟨by (with_reducible repeat (first | refine blk_drewN ?_ _ | refine blk_drew ?_ | refine blk_alloc ?_ _)); exact BK138.out⟩, ⟨by (with_reducible repeat (first | refine blk_drewN ?_ _ | refine blk_drew ?_ | refine blk_alloc ?_ _)); exact BK140.out⟩, ⟨by repeat (first | (with_reducible first | exact HB.out | apply below_alloc | apply pw_below_drewN | apply below_drew1 | refine below_set ?_ GE138.out | refine below_set ?_ GE140.out) | exact HB.out)⟩⟩
                                        · rw [if_neg c73] at H
                                          have c73b0 : ((bt hh_ x9_4) == 46) = false := beq_eq_false_iff_ne.mpr c73
                                          have c73b1 : ((bt hh_ x9_4) != 46) = true := bne_iff_ne.mpr c73
                                          by_cases c76 : ((bt hh_ x9_4) = 58)
                                          · rw [if_pos c76] at H
                                            have c76b0 : ((bt hh_ x9_4) == 58) = true := beq_iff_eq.mpr c76
                                            have c76b1 : ((bt hh_ x9_4) != 58) = false := bne_eq_false_iff_eq.mpr c76
                                            clear c76
                                            have H' := Aside0.mk H
                                            clear H
                                            have hnb77 := NB140_138.out
                                            have hnc77 := NB138_140.out
                                            have hcz78_0 : wr.cell? ⟨gb140, 0, none⟩ = some (.string x141000_17) := (blk_cell BK140.out 0).trans rfl
                                            have hcz78_1 : wr.cell? ⟨gb140, 1, none⟩ = some (.string hh_) := (blk_cell BK140.out 1).trans rfl
                                            have hcz78_2 : wr.cell? ⟨gb140, 2, none⟩ = some (.string (x0_41.extract (t142 : Int).toNat x0_41.size)) := (blk_cell BK140.out 2).trans rfl
                                            have hcz78_3 : wr.cell? ⟨gb140, 3, none⟩ = some (.string x141003_41) := (blk_cell BK140.out 3).trans rfl
                                            have hfz78_0 := blk_frozen BK140.out 0
                                            have hfz78_1 := blk_frozen BK140.out 1
                                            have hfz78_2 := blk_frozen BK140.out 2
                                            have hfz78_3 := blk_frozen BK140.out 3
                                            have p61 : 0 ≤ (x9_4 : Int) := of_decide_eq_true (by first | (with_reducible assumption) | assumption)
                                            have q61 : x9_4 < (hh_.size : Int) := of_decide_eq_true (by first | (with_reducible assumption) | assumption)
                                            have hx61 := bt_at hh_ x9_4
                                            replace p61 := eq_true p61
                                            replace q61 := eq_true q61
                                            go_wp2
                                            subst hgx_; go_roundg k4
                                            case measure => have := HK1.out; have := HJ17.out; have := HJ41.out; have := HK4.out; omega
                                            case rel => exact ⟨(wrap64 (x9_4 + 1)), (x139000_4), (x139001_4), (x139002_4), (x139003_4), (by first | rfl | (simp; done) | (simp [*]; done) | (refine congrArg Value.bool ?_; rw [Bool.eq_iff_iff]; simp; done)), H', ⟨by have := HK1.out; have := HJ17.out; have := HJ41.out; have := HK4.out; omega⟩, ⟨by (with_reducible repeat (first | refine blk_drewN ?_ _ | refine blk_drew ?_ | refine blk_alloc ?_ _)); exact BK138.out⟩, ⟨by (with_reducible repeat (first | refine blk_drewN ?_ _ | refine blk_drew ?_ | refine blk_alloc ?_ _)); exact BK140.out⟩, ⟨by repeat (first | (with_reducible first | exact HB.out | apply below_alloc | apply pw_below_drewN | apply below_drew1 | refine below_set ?_ GE138.out | refine below_set ?_ GE140.out) | exact HB.out)⟩⟩
                                          · rw [if_neg c76] at H
                                            have c76b0 : ((bt hh_ x9_4) == 58) = false := beq_eq_false_iff_ne.mpr c76
                                            have c76b1 : ((bt hh_ x9_4) != 58) = true := bne_iff_ne.mpr c76
                                            simp only [Option.some.injEq, Prod.mk.injEq] at H
                                            obtain ⟨rfl, rfl, rfl, rfl, rfl⟩ := H
                                            have hnb79 := NB140_138.out
                                            have hnc79 := NB138_140.out
                                            have hcz80_0 : wr.cell? ⟨gb140, 0, none⟩ = some (.string x141000_17) := (blk_cell BK140.out 0).trans rfl
                                            have hcz80_1 : wr.cell? ⟨gb140, 1, none⟩ = some (.string hh_) := (blk_cell BK140.out 1).trans rfl
                                            have hcz80_2 : wr.cell? ⟨gb140, 2, none⟩ = some (.string (x0_41.extract (t142 : Int).toNat x0_41.size)) := (blk_cell BK140.out 2).trans rfl
                                            have hcz80_3 : wr.cell? ⟨gb140, 3, none⟩ = some (.string x141003_41) := (blk_cell BK140.out 3).trans rfl
                                            have hfz80_0 := blk_frozen BK140.out 0
                                            have hfz80_1 := blk_frozen BK140.out 1
                                            have hfz80_2 := blk_frozen BK140.out 2
                                            have hfz80_3 := blk_frozen BK140.out 3
                                            have p61 : 0 ≤ (x9_4 : Int) := of_decide_eq_true (by first | (with_reducible assumption) | assumption)
                                            have q61 : x9_4 < (hh_.size : Int) := of_decide_eq_true (by first | (with_reducible assumption) | assumption)
                                            have hx61 := bt_at hh_ x9_4
                                            replace p61 := eq_true p61
                                            replace q61 := eq_true q61
                                            have hcz81_0 : wr.cell? ⟨gb138, 0, none⟩ = some (.string x139000_4) := (blk_cell BK138.out 0).trans rfl
                                            have hcz81_1 : wr.cell? ⟨gb138, 1, none⟩ = some (.string x139001_4) := (blk_cell BK138.out 1).trans rfl
                                            have hcz81_2 : wr.cell? ⟨gb138, 2, none⟩ = some (.string x139002_4) := (blk_cell BK138.out 2).trans rfl
                                            have hcz81_3 : wr.cell? ⟨gb138, 3, none⟩ = some (.string x139003_4) := (blk_cell BK138.out 3).trans rfl
                                            have hfz81_0 := blk_frozen BK138.out 0
                                            have hfz81_1 := blk_frozen BK138.out 1
                                            have hfz81_2 := blk_frozen BK138.out 2
                                            have hfz81_3 := blk_frozen BK138.out 3
                                            go_wp2
                                            refine bodyPost_ret (results_ct rfl _ _ gb138 31 #[.string (⟨#[]⟩ : ByteArray), .string (⟨#[]⟩ : ByteArray), .string (⟨#[]⟩ : ByteArray), .string (⟨#[]⟩ : ByteArray)] (0, 0) _ rfl (by (with_reducible repeat (first | refine blk_drewN ?_ _ | refine blk_drew ?_ | refine blk_alloc ?_ _)); refine blk_put (cs := #[.string (⟨#[]⟩ : ByteArray), .string (⟨#[]⟩ : ByteArray), .string (⟨#[]⟩ : ByteArray), .string x139003_4]) ?_ 3 _ rfl; (with_reducible repeat (first | refine blk_drewN ?_ _ | refine blk_drew ?_ | refine blk_alloc ?_ _)); refine blk_put (cs := #[.string (⟨#[]⟩ : ByteArray), .string (⟨#[]⟩ : ByteArray), .string x139002_4, .string x139003_4]) ?_ 2 _ rfl; (with_reducible repeat (first | refine blk_drewN ?_ _ | refine blk_drew ?_ | refine blk_alloc ?_ _)); refine blk_put (cs := #[.string (⟨#[]⟩ : ByteArray), .string x139001_4, .string x139002_4, .string x139003_4]) ?_ 1 _ rfl; (with_reducible repeat (first | refine blk_drewN ?_ _ | refine blk_drew ?_ | refine blk_alloc ?_ _)); refine blk_put (cs := #[.string x139000_4, .string x139001_4, .string x139002_4, .string x139003_4]) ?_ 0 _ rfl; (with_reducible repeat (first | refine blk_drewN ?_ _ | refine blk_drew ?_ | refine blk_alloc ?_ _)); exact BK138.out) Tryd.underlying31 rfl (by kernel_rfl)) rfl ?_
                                            exact ⟨by first | rfl | (simp [errW_none, errW_some] <;> rfl) | (simp [*, errW_none, errW_some] <;> rfl), by repeat (first | (with_reducible first | exact HB.out | apply below_alloc | apply pw_below_drewN | apply below_drew1 | refine below_set ?_ GE138.out | refine below_set ?_ GE140.out) | exact HB.out)⟩
                                            all_goals (first | (exfalso; simp_all <;> omega) | (go_ret; exact ⟨by first | rfl | (simp [errW_none, errW_some] <;> rfl) | (simp [*, errW_none, errW_some] <;> rfl), by repeat (first | (with_reducible first | exact HB.out | apply below_alloc | apply pw_below_drewN | apply below_drew1 | refine below_set ?_ GE138.out | refine below_set ?_ GE140.out) | exact HB.out)⟩))
                                  · rw [if_neg c66] at H
                                    have c66b0 : decide (48 ≤ (bt hh_ x9_4)) = false := decide_eq_false c66
                                    clear c66
                                    by_cases c82 : (bt hh_ x9_4) = 45
                                    · rw [if_pos c82] at H
                                      have c82b0 : ((bt hh_ x9_4) == 45) = true := beq_iff_eq.mpr c82
                                      have c82b1 : ((bt hh_ x9_4) != 45) = false := bne_eq_false_iff_eq.mpr c82
                                      clear c82
                                      have H' := Aside0.mk H
                                      clear H
                                      have hnb83 := NB140_138.out
                                      have hnc83 := NB138_140.out
                                      have hcz84_0 : wr.cell? ⟨gb140, 0, none⟩ = some (.string x141000_17) := (blk_cell BK140.out 0).trans rfl
                                      have hcz84_1 : wr.cell? ⟨gb140, 1, none⟩ = some (.string hh_) := (blk_cell BK140.out 1).trans rfl
                                      have hcz84_2 : wr.cell? ⟨gb140, 2, none⟩ = some (.string (x0_41.extract (t142 : Int).toNat x0_41.size)) := (blk_cell BK140.out 2).trans rfl
                                      have hcz84_3 : wr.cell? ⟨gb140, 3, none⟩ = some (.string x141003_41) := (blk_cell BK140.out 3).trans rfl
                                      have hfz84_0 := blk_frozen BK140.out 0
                                      have hfz84_1 := blk_frozen BK140.out 1
                                      have hfz84_2 := blk_frozen BK140.out 2
                                      have hfz84_3 := blk_frozen BK140.out 3
                                      have p61 : 0 ≤ (x9_4 : Int) := of_decide_eq_true (by first | (with_reducible assumption) | assumption)
                                      have q61 : x9_4 < (hh_.size : Int) := of_decide_eq_true (by first | (with_reducible assumption) | assumption)
                                      have hx61 := bt_at hh_ x9_4
                                      replace p61 := eq_true p61
                                      replace q61 := eq_true q61
                                      go_wp2
                                      subst hgx_; go_roundg k4
                                      case measure => have := HK1.out; have := HJ17.out; have := HJ41.out; have := HK4.out; omega
                                      case rel => exact ⟨(wrap64 (x9_4 + 1)), (x139000_4), (x139001_4), (x139002_4), (x139003_4), (by first | rfl | (simp; done) | (simp [*]; done) | (refine congrArg Value.bool ?_; rw [Bool.eq_iff_iff]; simp; done)), H', ⟨by have := HK1.out; have := HJ17.out; have := HJ41.out; have := HK4.out; omega⟩, ⟨by (with_reducible repeat (first | refine blk_drewN ?_ _ | refine blk_drew ?_ | refine blk_alloc ?_ _)); exact BK138.out⟩, ⟨by (with_reducible repeat (first | refine blk_drewN ?_ _ | refine blk_drew ?_ | refine blk_alloc ?_ _)); exact BK140.out⟩, ⟨by repeat (first | (with_reducible first | exact HB.out | apply below_alloc | apply pw_below_drewN | apply below_drew1 | refine below_set ?_ GE138.out | refine below_set ?_ GE140.out) | exact HB.out)⟩⟩
                                    · rw [if_neg c82] at H
                                      have c82b0 : ((bt hh_ x9_4) == 45) = false := beq_eq_false_iff_ne.mpr c82
                                      have c82b1 : ((bt hh_ x9_4) != 45) = true := bne_iff_ne.mpr c82
                                      by_cases c85 : (bt hh_ x9_4) = 46
                                      · rw [if_pos c85] at H
                                        have c85b0 : ((bt hh_ x9_4) == 46) = true := beq_iff_eq.mpr c85
                                        have c85b1 : ((bt hh_ x9_4) != 46) = false := bne_eq_false_iff_eq.mpr c85
                                        clear c85
                                        have H' := Aside0.mk H
                                        clear H
                                        have hnb86 := NB140_138.out
                                        have hnc86 := NB138_140.out
                                        have hcz87_0 : wr.cell? ⟨gb140, 0, none⟩ = some (.string x141000_17) := (blk_cell BK140.out 0).trans rfl
                                        have hcz87_1 : wr.cell? ⟨gb140, 1, none⟩ = some (.string hh_) := (blk_cell BK140.out 1).trans rfl
                                        have hcz87_2 : wr.cell? ⟨gb140, 2, none⟩ = some (.string (x0_41.extract (t142 : Int).toNat x0_41.size)) := (blk_cell BK140.out 2).trans rfl
                                        have hcz87_3 : wr.cell? ⟨gb140, 3, none⟩ = some (.string x141003_41) := (blk_cell BK140.out 3).trans rfl
                                        have hfz87_0 := blk_frozen BK140.out 0
                                        have hfz87_1 := blk_frozen BK140.out 1
                                        have hfz87_2 := blk_frozen BK140.out 2
                                        have hfz87_3 := blk_frozen BK140.out 3
                                        have p61 : 0 ≤ (x9_4 : Int) := of_decide_eq_true (by first | (with_reducible assumption) | assumption)
                                        have q61 : x9_4 < (hh_.size : Int) := of_decide_eq_true (by first | (with_reducible assumption) | assumption)
                                        have hx61 := bt_at hh_ x9_4
                                        replace p61 := eq_true p61
                                        replace q61 := eq_true q61
                                        go_wp2
                                        subst hgx_; go_roundg k4
                                        case measure => have := HK1.out; have := HJ17.out; have := HJ41.out; have := HK4.out; omega
                                        case rel => exact ⟨(wrap64 (x9_4 + 1)), (x139000_4), (x139001_4), (x139002_4), (x139003_4), (by first | rfl | (simp; done) | (simp [*]; done) | (refine congrArg Value.bool ?_; rw [Bool.eq_iff_iff]; simp; done)), H', ⟨by have := HK1.out; have := HJ17.out; have := HJ41.out; have := HK4.out; omega⟩, ⟨by (with_reducible repeat (first | refine blk_drewN ?_ _ | refine blk_drew ?_ | refine blk_alloc ?_ _)); exact BK138.out⟩, ⟨by (with_reducible repeat (first | refine blk_drewN ?_ _ | refine blk_drew ?_ | refine blk_alloc ?_ _)); exact BK140.out⟩, ⟨by repeat (first | (with_reducible first | exact HB.out | apply below_alloc | apply pw_below_drewN | apply below_drew1 | refine below_set ?_ GE138.out | refine below_set ?_ GE140.out) | exact HB.out)⟩⟩
                                      · rw [if_neg c85] at H
                                        have c85b0 : ((bt hh_ x9_4) == 46) = false := beq_eq_false_iff_ne.mpr c85
                                        have c85b1 : ((bt hh_ x9_4) != 46) = true := bne_iff_ne.mpr c85
                                        by_cases c88 : ((bt hh_ x9_4) = 58)
                                        · rw [if_pos c88] at H
                                          have c88b0 : ((bt hh_ x9_4) == 58) = true := beq_iff_eq.mpr c88
                                          have c88b1 : ((bt hh_ x9_4) != 58) = false := bne_eq_false_iff_eq.mpr c88
                                          clear c88
                                          have H' := Aside0.mk H
                                          clear H
                                          have hnb89 := NB140_138.out
                                          have hnc89 := NB138_140.out
                                          have hcz90_0 : wr.cell? ⟨gb140, 0, none⟩ = some (.string x141000_17) := (blk_cell BK140.out 0).trans rfl
                                          have hcz90_1 : wr.cell? ⟨gb140, 1, none⟩ = some (.string hh_) := (blk_cell BK140.out 1).trans rfl
                                          have hcz90_2 : wr.cell? ⟨gb140, 2, none⟩ = some (.string (x0_41.extract (t142 : Int).toNat x0_41.size)) := (blk_cell BK140.out 2).trans rfl
                                          have hcz90_3 : wr.cell? ⟨gb140, 3, none⟩ = some (.string x141003_41) := (blk_cell BK140.out 3).trans rfl
                                          have hfz90_0 := blk_frozen BK140.out 0
                                          have hfz90_1 := blk_frozen BK140.out 1
                                          have hfz90_2 := blk_frozen BK140.out 2
                                          have hfz90_3 := blk_frozen BK140.out 3
                                          have p61 : 0 ≤ (x9_4 : Int) := of_decide_eq_true (by first | (with_reducible assumption) | assumption)
                                          have q61 : x9_4 < (hh_.size : Int) := of_decide_eq_true (by first | (with_reducible assumption) | assumption)
                                          have hx61 := bt_at hh_ x9_4
                                          replace p61 := eq_true p61
                                          replace q61 := eq_true q61
                                          go_wp2
                                          subst hgx_; go_roundg k4
                                          case measure => have := HK1.out; have := HJ17.out; have := HJ41.out; have := HK4.out; omega
                                          case rel => exact ⟨(wrap64 (x9_4 + 1)), (x139000_4), (x139001_4), (x139002_4), (x139003_4), (by first | rfl | (simp; done) | (simp [*]; done) | (refine congrArg Value.bool ?_; rw [Bool.eq_iff_iff]; simp; done)), H', ⟨by have := HK1.out; have := HJ17.out; have := HJ41.out; have := HK4.out; omega⟩, ⟨by (with_reducible repeat (first | refine blk_drewN ?_ _ | refine blk_drew ?_ | refine blk_alloc ?_ _)); exact BK138.out⟩, ⟨by (with_reducible repeat (first | refine blk_drewN ?_ _ | refine blk_drew ?_ | refine blk_alloc ?_ _)); exact BK140.out⟩, ⟨by repeat (first | (with_reducible first | exact HB.out | apply below_alloc | apply pw_below_drewN | apply below_drew1 | refine below_set ?_ GE138.out | refine below_set ?_ GE140.out) | exact HB.out)⟩⟩
                                        · rw [if_neg c88] at H
                                          have c88b0 : ((bt hh_ x9_4) == 58) = false := beq_eq_false_iff_ne.mpr c88
                                          have c88b1 : ((bt hh_ x9_4) != 58) = true := bne_iff_ne.mpr c88
                                          simp only [Option.some.injEq, Prod.mk.injEq] at H
                                          obtain ⟨rfl, rfl, rfl, rfl, rfl⟩ := H
                                          have hnb91 := NB140_138.out
                                          have hnc91 := NB138_140.out
                                          have hcz92_0 : wr.cell? ⟨gb140, 0, none⟩ = some (.string x141000_17) := (blk_cell BK140.out 0).trans rfl
                                          have hcz92_1 : wr.cell? ⟨gb140, 1, none⟩ = some (.string hh_) := (blk_cell BK140.out 1).trans rfl
                                          have hcz92_2 : wr.cell? ⟨gb140, 2, none⟩ = some (.string (x0_41.extract (t142 : Int).toNat x0_41.size)) := (blk_cell BK140.out 2).trans rfl
                                          have hcz92_3 : wr.cell? ⟨gb140, 3, none⟩ = some (.string x141003_41) := (blk_cell BK140.out 3).trans rfl
                                          have hfz92_0 := blk_frozen BK140.out 0
                                          have hfz92_1 := blk_frozen BK140.out 1
                                          have hfz92_2 := blk_frozen BK140.out 2
                                          have hfz92_3 := blk_frozen BK140.out 3
                                          have p61 : 0 ≤ (x9_4 : Int) := of_decide_eq_true (by first | (with_reducible assumption) | assumption)
                                          have q61 : x9_4 < (hh_.size : Int) := of_decide_eq_true (by first | (with_reducible assumption) | assumption)
                                          have hx61 := bt_at hh_ x9_4
                                          replace p61 := eq_true p61
                                          replace q61 := eq_true q61
                                          have hcz93_0 : wr.cell? ⟨gb138, 0, none⟩ = some (.string x139000_4) := (blk_cell BK138.out 0).trans rfl
                                          have hcz93_1 : wr.cell? ⟨gb138, 1, none⟩ = some (.string x139001_4) := (blk_cell BK138.out 1).trans rfl
                                          have hcz93_2 : wr.cell? ⟨gb138, 2, none⟩ = some (.string x139002_4) := (blk_cell BK138.out 2).trans rfl
                                          have hcz93_3 : wr.cell? ⟨gb138, 3, none⟩ = some (.string x139003_4) := (blk_cell BK138.out 3).trans rfl
                                          have hfz93_0 := blk_frozen BK138.out 0
                                          have hfz93_1 := blk_frozen BK138.out 1
                                          have hfz93_2 := blk_frozen BK138.out 2
                                          have hfz93_3 := blk_frozen BK138.out 3
                                          go_wp2
                                          refine bodyPost_ret (results_ct rfl _ _ gb138 31 #[.string (⟨#[]⟩ : ByteArray), .string (⟨#[]⟩ : ByteArray), .string (⟨#[]⟩ : ByteArray), .string (⟨#[]⟩ : ByteArray)] (0, 0) _ rfl (by (with_reducible repeat (first | refine blk_drewN ?_ _ | refine blk_drew ?_ | refine blk_alloc ?_ _)); refine blk_put (cs := #[.string (⟨#[]⟩ : ByteArray), .string (⟨#[]⟩ : ByteArray), .string (⟨#[]⟩ : ByteArray), .string x139003_4]) ?_ 3 _ rfl; (with_reducible repeat (first | refine blk_drewN ?_ _ | refine blk_drew ?_ | refine blk_alloc ?_ _)); refine blk_put (cs := #[.string (⟨#[]⟩ : ByteArray), .string (⟨#[]⟩ : ByteArray), .string x139002_4, .string x139003_4]) ?_ 2 _ rfl; (with_reducible repeat (first | refine blk_drewN ?_ _ | refine blk_drew ?_ | refine blk_alloc ?_ _)); refine blk_put (cs := #[.string (⟨#[]⟩ : ByteArray), .string x139001_4, .string x139002_4, .string x139003_4]) ?_ 1 _ rfl; (with_reducible repeat (first | refine blk_drewN ?_ _ | refine blk_drew ?_ | refine blk_alloc ?_ _)); refine blk_put (cs := #[.string x139000_4, .string x139001_4, .string x139002_4, .string x139003_4]) ?_ 0 _ rfl; (with_reducible repeat (first | refine blk_drewN ?_ _ | refine blk_drew ?_ | refine blk_alloc ?_ _)); exact BK138.out) Tryd.underlying31 rfl (by kernel_rfl)) rfl ?_
                                          exact ⟨by first | rfl | (simp [errW_none, errW_some] <;> rfl) | (simp [*, errW_none, errW_some] <;> rfl), by repeat (first | (with_reducible first | exact HB.out | apply below_alloc | apply pw_below_drewN | apply below_drew1 | refine below_set ?_ GE138.out | refine below_set ?_ GE140.out) | exact HB.out)⟩
                                          all_goals (first | (exfalso; simp_all <;> omega) | (go_ret; exact ⟨by first | rfl | (simp [errW_none, errW_some] <;> rfl) | (simp [*, errW_none, errW_some] <;> rfl), by repeat (first | (with_reducible first | exact HB.out | apply below_alloc | apply pw_below_drewN | apply below_drew1 | refine below_set ?_ GE138.out | refine below_set ?_ GE140.out) | exact HB.out)⟩))
                              · rw [if_neg c62] at H
                                have c62b0 : decide (97 ≤ (bt hh_ x9_4)) = false := decide_eq_false c62
                                clear c62
                                by_cases c94 : (bt hh_ x9_4) ≥ 48
                                · rw [if_pos c94] at H
                                  have c94b0 : decide (48 ≤ (bt hh_ x9_4)) = true := decide_eq_true c94
                                  clear c94
                                  by_cases c95 : (bt hh_ x9_4) ≤ 57
                                  · rw [if_pos c95] at H
                                    have c95b0 : decide ((bt hh_ x9_4) ≤ 57) = true := decide_eq_true c95
                                    clear c95
                                    have H' := Aside0.mk H
                                    clear H
                                    have hnb96 := NB140_138.out
                                    have hnc96 := NB138_140.out
                                    have hcz97_0 : wr.cell? ⟨gb140, 0, none⟩ = some (.string x141000_17) := (blk_cell BK140.out 0).trans rfl
                                    have hcz97_1 : wr.cell? ⟨gb140, 1, none⟩ = some (.string hh_) := (blk_cell BK140.out 1).trans rfl
                                    have hcz97_2 : wr.cell? ⟨gb140, 2, none⟩ = some (.string (x0_41.extract (t142 : Int).toNat x0_41.size)) := (blk_cell BK140.out 2).trans rfl
                                    have hcz97_3 : wr.cell? ⟨gb140, 3, none⟩ = some (.string x141003_41) := (blk_cell BK140.out 3).trans rfl
                                    have hfz97_0 := blk_frozen BK140.out 0
                                    have hfz97_1 := blk_frozen BK140.out 1
                                    have hfz97_2 := blk_frozen BK140.out 2
                                    have hfz97_3 := blk_frozen BK140.out 3
                                    have p61 : 0 ≤ (x9_4 : Int) := of_decide_eq_true (by first | (with_reducible assumption) | assumption)
                                    have q61 : x9_4 < (hh_.size : Int) := of_decide_eq_true (by first | (with_reducible assumption) | assumption)
                                    have hx61 := bt_at hh_ x9_4
                                    replace p61 := eq_true p61
                                    replace q61 := eq_true q61
                                    go_wp2
                                    subst hgx_; go_roundg k4
                                    case measure => have := HK1.out; have := HJ17.out; have := HJ41.out; have := HK4.out; omega
                                    case rel => exact ⟨(wrap64 (x9_4 + 1)), (x139000_4), (x139001_4), (x139002_4), (x139003_4), (by first | rfl | (simp; done) | (simp [*]; done) | (refine congrArg Value.bool ?_; rw [Bool.eq_iff_iff]; simp; done)), H', ⟨by have := HK1.out; have := HJ17.out; have := HJ41.out; have := HK4.out; omega⟩, ⟨by (with_reducible repeat (first | refine blk_drewN ?_ _ | refine blk_drew ?_ | refine blk_alloc ?_ _)); exact BK138.out⟩, ⟨by (with_reducible repeat (first | refine blk_drewN ?_ _ | refine blk_drew ?_ | refine blk_alloc ?_ _)); exact BK140.out⟩, ⟨by repeat (first | (with_reducible first | exact HB.out | apply below_alloc | apply pw_below_drewN | apply below_drew1 | refine below_set ?_ GE138.out | refine below_set ?_ GE140.out) | exact HB.out)⟩⟩
                                  · rw [if_neg c95] at H
                                    have c95b0 : decide ((bt hh_ x9_4) ≤ 57) = false := decide_eq_false c95
                                    clear c95
                                    by_cases c98 : (bt hh_ x9_4) = 45
                                    · rw [if_pos c98] at H
                                      have c98b0 : ((bt hh_ x9_4) == 45) = true := beq_iff_eq.mpr c98
                                      have c98b1 : ((bt hh_ x9_4) != 45) = false := bne_eq_false_iff_eq.mpr c98
                                      clear c98
                                      have H' := Aside0.mk H
                                      clear H
                                      have hnb99 := NB140_138.out
                                      have hnc99 := NB138_140.out
                                      have hcz100_0 : wr.cell? ⟨gb140, 0, none⟩ = some (.string x141000_17) := (blk_cell BK140.out 0).trans rfl
                                      have hcz100_1 : wr.cell? ⟨gb140, 1, none⟩ = some (.string hh_) := (blk_cell BK140.out 1).trans rfl
                                      have hcz100_2 : wr.cell? ⟨gb140, 2, none⟩ = some (.string (x0_41.extract (t142 : Int).toNat x0_41.size)) := (blk_cell BK140.out 2).trans rfl
                                      have hcz100_3 : wr.cell? ⟨gb140, 3, none⟩ = some (.string x141003_41) := (blk_cell BK140.out 3).trans rfl
                                      have hfz100_0 := blk_frozen BK140.out 0
                                      have hfz100_1 := blk_frozen BK140.out 1
                                      have hfz100_2 := blk_frozen BK140.out 2
                                      have hfz100_3 := blk_frozen BK140.out 3
                                      have p61 : 0 ≤ (x9_4 : Int) := of_decide_eq_true (by first | (with_reducible assumption) | assumption)
                                      have q61 : x9_4 < (hh_.size : Int) := of_decide_eq_true (by first | (with_reducible assumption) | assumption)
                                      have hx61 := bt_at hh_ x9_4
                                      replace p61 := eq_true p61
                                      replace q61 := eq_true q61
                                      go_wp2
                                      subst hgx_; go_roundg k4
                                      case measure => have := HK1.out; have := HJ17.out; have := HJ41.out; have := HK4.out; omega
                                      case rel => exact ⟨(wrap64 (x9_4 + 1)), (x139000_4), (x139001_4), (x139002_4), (x139003_4), (by first | rfl | (simp; done) | (simp [*]; done) | (refine congrArg Value.bool ?_; rw [Bool.eq_iff_iff]; simp; done)), H', ⟨by have := HK1.out; have := HJ17.out; have := HJ41.out; have := HK4.out; omega⟩, ⟨by (with_reducible repeat (first | refine blk_drewN ?_ _ | refine blk_drew ?_ | refine blk_alloc ?_ _)); exact BK138.out⟩, ⟨by (with_reducible repeat (first | refine blk_drewN ?_ _ | refine blk_drew ?_ | refine blk_alloc ?_ _)); exact BK140.out⟩, ⟨by repeat (first | (with_reducible first | exact HB.out | apply below_alloc | apply pw_below_drewN | apply below_drew1 | refine below_set ?_ GE138.out | refine below_set ?_ GE140.out) | exact HB.out)⟩⟩
                                    · rw [if_neg c98] at H
                                      have c98b0 : ((bt hh_ x9_4) == 45) = false := beq_eq_false_iff_ne.mpr c98
                                      have c98b1 : ((bt hh_ x9_4) != 45) = true := bne_iff_ne.mpr c98
                                      by_cases c101 : (bt hh_ x9_4) = 46
                                      · rw [if_pos c101] at H
                                        have c101b0 : ((bt hh_ x9_4) == 46) = true := beq_iff_eq.mpr c101
                                        have c101b1 : ((bt hh_ x9_4) != 46) = false := bne_eq_false_iff_eq.mpr c101
                                        clear c101
                                        have H' := Aside0.mk H
                                        clear H
                                        have hnb102 := NB140_138.out
                                        have hnc102 := NB138_140.out
                                        have hcz103_0 : wr.cell? ⟨gb140, 0, none⟩ = some (.string x141000_17) := (blk_cell BK140.out 0).trans rfl
                                        have hcz103_1 : wr.cell? ⟨gb140, 1, none⟩ = some (.string hh_) := (blk_cell BK140.out 1).trans rfl
                                        have hcz103_2 : wr.cell? ⟨gb140, 2, none⟩ = some (.string (x0_41.extract (t142 : Int).toNat x0_41.size)) := (blk_cell BK140.out 2).trans rfl
                                        have hcz103_3 : wr.cell? ⟨gb140, 3, none⟩ = some (.string x141003_41) := (blk_cell BK140.out 3).trans rfl
                                        have hfz103_0 := blk_frozen BK140.out 0
                                        have hfz103_1 := blk_frozen BK140.out 1
                                        have hfz103_2 := blk_frozen BK140.out 2
                                        have hfz103_3 := blk_frozen BK140.out 3
                                        have p61 : 0 ≤ (x9_4 : Int) := of_decide_eq_true (by first | (with_reducible assumption) | assumption)
                                        have q61 : x9_4 < (hh_.size : Int) := of_decide_eq_true (by first | (with_reducible assumption) | assumption)
                                        have hx61 := bt_at hh_ x9_4
                                        replace p61 := eq_true p61
                                        replace q61 := eq_true q61
                                        go_wp2
                                        subst hgx_; go_roundg k4
                                        case measure => have := HK1.out; have := HJ17.out; have := HJ41.out; have := HK4.out; omega
                                        case rel => exact ⟨(wrap64 (x9_4 + 1)), (x139000_4), (x139001_4), (x139002_4), (x139003_4), (by first | rfl | (simp; done) | (simp [*]; done) | (refine congrArg Value.bool ?_; rw [Bool.eq_iff_iff]; simp; done)), H', ⟨by have := HK1.out; have := HJ17.out; have := HJ41.out; have := HK4.out; omega⟩, ⟨by (with_reducible repeat (first | refine blk_drewN ?_ _ | refine blk_drew ?_ | refine blk_alloc ?_ _)); exact BK138.out⟩, ⟨by (with_reducible repeat (first | refine blk_drewN ?_ _ | refine blk_drew ?_ | refine blk_alloc ?_ _)); exact BK140.out⟩, ⟨by repeat (first | (with_reducible first | exact HB.out | apply below_alloc | apply pw_below_drewN | apply below_drew1 | refine below_set ?_ GE138.out | refine below_set ?_ GE140.out) | exact HB.out)⟩⟩
                                      · rw [if_neg c101] at H
                                        have c101b0 : ((bt hh_ x9_4) == 46) = false := beq_eq_false_iff_ne.mpr c101
                                        have c101b1 : ((bt hh_ x9_4) != 46) = true := bne_iff_ne.mpr c101
                                        by_cases c104 : ((bt hh_ x9_4) = 58)
                                        · rw [if_pos c104] at H
                                          have c104b0 : ((bt hh_ x9_4) == 58) = true := beq_iff_eq.mpr c104
                                          have c104b1 : ((bt hh_ x9_4) != 58) = false := bne_eq_false_iff_eq.mpr c104
                                          clear c104
                                          have H' := Aside0.mk H
                                          clear H
                                          have hnb105 := NB140_138.out
                                          have hnc105 := NB138_140.out
                                          have hcz106_0 : wr.cell? ⟨gb140, 0, none⟩ = some (.string x141000_17) := (blk_cell BK140.out 0).trans rfl
                                          have hcz106_1 : wr.cell? ⟨gb140, 1, none⟩ = some (.string hh_) := (blk_cell BK140.out 1).trans rfl
                                          have hcz106_2 : wr.cell? ⟨gb140, 2, none⟩ = some (.string (x0_41.extract (t142 : Int).toNat x0_41.size)) := (blk_cell BK140.out 2).trans rfl
                                          have hcz106_3 : wr.cell? ⟨gb140, 3, none⟩ = some (.string x141003_41) := (blk_cell BK140.out 3).trans rfl
                                          have hfz106_0 := blk_frozen BK140.out 0
                                          have hfz106_1 := blk_frozen BK140.out 1
                                          have hfz106_2 := blk_frozen BK140.out 2
                                          have hfz106_3 := blk_frozen BK140.out 3
                                          have p61 : 0 ≤ (x9_4 : Int) := of_decide_eq_true (by first | (with_reducible assumption) | assumption)
                                          have q61 : x9_4 < (hh_.size : Int) := of_decide_eq_true (by first | (with_reducible assumption) | assumption)
                                          have hx61 := bt_at hh_ x9_4
                                          replace p61 := eq_true p61
                                          replace q61 := eq_true q61
                                          go_wp2
                                          subst hgx_; go_roundg k4
                                          case measure => have := HK1.out; have := HJ17.out; have := HJ41.out; have := HK4.out; omega
                                          case rel => exact ⟨(wrap64 (x9_4 + 1)), (x139000_4), (x139001_4), (x139002_4), (x139003_4), (by first | rfl | (simp; done) | (simp [*]; done) | (refine congrArg Value.bool ?_; rw [Bool.eq_iff_iff]; simp; done)), H', ⟨by have := HK1.out; have := HJ17.out; have := HJ41.out; have := HK4.out; omega⟩, ⟨by (with_reducible repeat (first | refine blk_drewN ?_ _ | refine blk_drew ?_ | refine blk_alloc ?_ _)); exact BK138.out⟩, ⟨by (with_reducible repeat (first | refine blk_drewN ?_ _ | refine blk_drew ?_ | refine blk_alloc ?_ _)); exact BK140.out⟩, ⟨by repeat (first | (with_reducible first | exact HB.out | apply below_alloc | apply pw_below_drewN | apply below_drew1 | refine below_set ?_ GE138.out | refine below_set ?_ GE140.out) | exact HB.out)⟩⟩
                                        · rw [if_neg c104] at H
                                          have c104b0 : ((bt hh_ x9_4) == 58) = false := beq_eq_false_iff_ne.mpr c104
                                          have c104b1 : ((bt hh_ x9_4) != 58) = true := bne_iff_ne.mpr c104
                                          simp only [Option.some.injEq, Prod.mk.injEq] at H
                                          obtain ⟨rfl, rfl, rfl, rfl, rfl⟩ := H
                                          have hnb107 := NB140_138.out
                                          have hnc107 := NB138_140.out
                                          have hcz108_0 : wr.cell? ⟨gb140, 0, none⟩ = some (.string x141000_17) := (blk_cell BK140.out 0).trans rfl
                                          have hcz108_1 : wr.cell? ⟨gb140, 1, none⟩ = some (.string hh_) := (blk_cell BK140.out 1).trans rfl
                                          have hcz108_2 : wr.cell? ⟨gb140, 2, none⟩ = some (.string (x0_41.extract (t142 : Int).toNat x0_41.size)) := (blk_cell BK140.out 2).trans rfl
                                          have hcz108_3 : wr.cell? ⟨gb140, 3, none⟩ = some (.string x141003_41) := (blk_cell BK140.out 3).trans rfl
                                          have hfz108_0 := blk_frozen BK140.out 0
                                          have hfz108_1 := blk_frozen BK140.out 1
                                          have hfz108_2 := blk_frozen BK140.out 2
                                          have hfz108_3 := blk_frozen BK140.out 3
                                          have p61 : 0 ≤ (x9_4 : Int) := of_decide_eq_true (by first | (with_reducible assumption) | assumption)
                                          have q61 : x9_4 < (hh_.size : Int) := of_decide_eq_true (by first | (with_reducible assumption) | assumption)
                                          have hx61 := bt_at hh_ x9_4
                                          replace p61 := eq_true p61
                                          replace q61 := eq_true q61
                                          have hcz109_0 : wr.cell? ⟨gb138, 0, none⟩ = some (.string x139000_4) := (blk_cell BK138.out 0).trans rfl
                                          have hcz109_1 : wr.cell? ⟨gb138, 1, none⟩ = some (.string x139001_4) := (blk_cell BK138.out 1).trans rfl
                                          have hcz109_2 : wr.cell? ⟨gb138, 2, none⟩ = some (.string x139002_4) := (blk_cell BK138.out 2).trans rfl
                                          have hcz109_3 : wr.cell? ⟨gb138, 3, none⟩ = some (.string x139003_4) := (blk_cell BK138.out 3).trans rfl
                                          have hfz109_0 := blk_frozen BK138.out 0
                                          have hfz109_1 := blk_frozen BK138.out 1
                                          have hfz109_2 := blk_frozen BK138.out 2
                                          have hfz109_3 := blk_frozen BK138.out 3
                                          go_wp2
                                          refine bodyPost_ret (results_ct rfl _ _ gb138 31 #[.string (⟨#[]⟩ : ByteArray), .string (⟨#[]⟩ : ByteArray), .string (⟨#[]⟩ : ByteArray), .string (⟨#[]⟩ : ByteArray)] (0, 0) _ rfl (by (with_reducible repeat (first | refine blk_drewN ?_ _ | refine blk_drew ?_ | refine blk_alloc ?_ _)); refine blk_put (cs := #[.string (⟨#[]⟩ : ByteArray), .string (⟨#[]⟩ : ByteArray), .string (⟨#[]⟩ : ByteArray), .string x139003_4]) ?_ 3 _ rfl; (with_reducible repeat (first | refine blk_drewN ?_ _ | refine blk_drew ?_ | refine blk_alloc ?_ _)); refine blk_put (cs := #[.string (⟨#[]⟩ : ByteArray), .string (⟨#[]⟩ : ByteArray), .string x139002_4, .string x139003_4]) ?_ 2 _ rfl; (with_reducible repeat (first | refine blk_drewN ?_ _ | refine blk_drew ?_ | refine blk_alloc ?_ _)); refine blk_put (cs := #[.string (⟨#[]⟩ : ByteArray), .string x139001_4, .string x139002_4, .string x139003_4]) ?_ 1 _ rfl; (with_reducible repeat (first | refine blk_drewN ?_ _ | refine blk_drew ?_ | refine blk_alloc ?_ _)); refine blk_put (cs := #[.string x139000_4, .string x139001_4, .string x139002_4, .string x139003_4]) ?_ 0 _ rfl; (with_reducible repeat (first | refine blk_drewN ?_ _ | refine blk_drew ?_ | refine blk_alloc ?_ _)); exact BK138.out) Tryd.underlying31 rfl (by kernel_rfl)) rfl ?_
                                          exact ⟨by first | rfl | (simp [errW_none, errW_some] <;> rfl) | (simp [*, errW_none, errW_some] <;> rfl), by repeat (first | (with_reducible first | exact HB.out | apply below_alloc | apply pw_below_drewN | apply below_drew1 | refine below_set ?_ GE138.out | refine below_set ?_ GE140.out) | exact HB.out)⟩
                                          all_goals (first | (exfalso; simp_all <;> omega) | (go_ret; exact ⟨by first | rfl | (simp [errW_none, errW_some] <;> rfl) | (simp [*, errW_none, errW_some] <;> rfl), by repeat (first | (with_reducible first | exact HB.out | apply below_alloc | apply pw_below_drewN | apply below_drew1 | refine below_set ?_ GE138.out | refine below_set ?_ GE140.out) | exact HB.out)⟩))
                                · rw [if_neg c94] at H
                                  have c94b0 : decide (48 ≤ (bt hh_ x9_4)) = false := decide_eq_false c94
                                  clear c94
                                  by_cases c110 : (bt hh_ x9_4) = 45
                                  · rw [if_pos c110] at H
                                    have c110b0 : ((bt hh_ x9_4) == 45) = true := beq_iff_eq.mpr c110
                                    have c110b1 : ((bt hh_ x9_4) != 45) = false := bne_eq_false_iff_eq.mpr c110
                                    clear c110
                                    have H' := Aside0.mk H
                                    clear H
                                    have hnb111 := NB140_138.out
                                    have hnc111 := NB138_140.out
                                    have hcz112_0 : wr.cell? ⟨gb140, 0, none⟩ = some (.string x141000_17) := (blk_cell BK140.out 0).trans rfl
                                    have hcz112_1 : wr.cell? ⟨gb140, 1, none⟩ = some (.string hh_) := (blk_cell BK140.out 1).trans rfl
                                    have hcz112_2 : wr.cell? ⟨gb140, 2, none⟩ = some (.string (x0_41.extract (t142 : Int).toNat x0_41.size)) := (blk_cell BK140.out 2).trans rfl
                                    have hcz112_3 : wr.cell? ⟨gb140, 3, none⟩ = some (.string x141003_41) := (blk_cell BK140.out 3).trans rfl
                                    have hfz112_0 := blk_frozen BK140.out 0
                                    have hfz112_1 := blk_frozen BK140.out 1
                                    have hfz112_2 := blk_frozen BK140.out 2
                                    have hfz112_3 := blk_frozen BK140.out 3
                                    have p61 : 0 ≤ (x9_4 : Int) := of_decide_eq_true (by first | (with_reducible assumption) | assumption)
                                    have q61 : x9_4 < (hh_.size : Int) := of_decide_eq_true (by first | (with_reducible assumption) | assumption)
                                    have hx61 := bt_at hh_ x9_4
                                    replace p61 := eq_true p61
                                    replace q61 := eq_true q61
                                    go_wp2
                                    subst hgx_; go_roundg k4
                                    case measure => have := HK1.out; have := HJ17.out; have := HJ41.out; have := HK4.out; omega
                                    case rel => exact ⟨(wrap64 (x9_4 + 1)), (x139000_4), (x139001_4), (x139002_4), (x139003_4), (by first | rfl | (simp; done) | (simp [*]; done) | (refine congrArg Value.bool ?_; rw [Bool.eq_iff_iff]; simp; done)), H', ⟨by have := HK1.out; have := HJ17.out; have := HJ41.out; have := HK4.out; omega⟩, ⟨by (with_reducible repeat (first | refine blk_drewN ?_ _ | refine blk_drew ?_ | refine blk_alloc ?_ _)); exact BK138.out⟩, ⟨by (with_reducible repeat (first | refine blk_drewN ?_ _ | refine blk_drew ?_ | refine blk_alloc ?_ _)); exact BK140.out⟩, ⟨by repeat (first | (with_reducible first | exact HB.out | apply below_alloc | apply pw_below_drewN | apply below_drew1 | refine below_set ?_ GE138.out | refine below_set ?_ GE140.out) | exact HB.out)⟩⟩
                                  · rw [if_neg c110] at H
                                    have c110b0 : ((bt hh_ x9_4) == 45) = false := beq_eq_false_iff_ne.mpr c110
                                    have c110b1 : ((bt hh_ x9_4) != 45) = true := bne_iff_ne.mpr c110
                                    by_cases c113 : (bt hh_ x9_4) = 46
                                    · rw [if_pos c113] at H
                                      have c113b0 : ((bt hh_ x9_4) == 46) = true := beq_iff_eq.mpr c113
                                      have c113b1 : ((bt hh_ x9_4) != 46) = false := bne_eq_false_iff_eq.mpr c113
                                      clear c113
                                      have H' := Aside0.mk H
                                      clear H
                                      have hnb114 := NB140_138.out
                                      have hnc114 := NB138_140.out
                                      have hcz115_0 : wr.cell? ⟨gb140, 0, none⟩ = some (.string x141000_17) := (blk_cell BK140.out 0).trans rfl
                                      have hcz115_1 : wr.cell? ⟨gb140, 1, none⟩ = some (.string hh_) := (blk_cell BK140.out 1).trans rfl
                                      have hcz115_2 : wr.cell? ⟨gb140, 2, none⟩ = some (.string (x0_41.extract (t142 : Int).toNat x0_41.size)) := (blk_cell BK140.out 2).trans rfl
                                      have hcz115_3 : wr.cell? ⟨gb140, 3, none⟩ = some (.string x141003_41) := (blk_cell BK140.out 3).trans rfl
                                      have hfz115_0 := blk_frozen BK140.out 0
                                      have hfz115_1 := blk_frozen BK140.out 1
                                      have hfz115_2 := blk_frozen BK140.out 2
                                      have hfz115_3 := blk_frozen BK140.out 3
                                      have p61 : 0 ≤ (x9_4 : Int) := of_decide_eq_true (by first | (with_reducible assumption) | assumption)
                                      have q61 : x9_4 < (hh_.size : Int) := of_decide_eq_true (by first | (with_reducible assumption) | assumption)
                                      have hx61 := bt_at hh_ x9_4
                                      replace p61 := eq_true p61
                                      replace q61 := eq_true q61
                                      go_wp2
                                      subst hgx_; go_roundg k4
                                      case measure => have := HK1.out; have := HJ17.out; have := HJ41.out; have := HK4.out; omega
                                      case rel => exact ⟨(wrap64 (x9_4 + 1)), (x139000_4), (x139001_4), (x139002_4), (x139003_4), (by first | rfl | (simp; done) | (simp [*]; done) | (refine congrArg Value.bool ?_; rw [Bool.eq_iff_iff]; simp; done)), H', ⟨by have := HK1.out; have := HJ17.out; have := HJ41.out; have := HK4.out; omega⟩, ⟨by (with_reducible repeat (first | refine blk_drewN ?_ _ | refine blk_drew ?_ | refine blk_alloc ?_ _)); exact BK138.out⟩, ⟨by (with_reducible repeat (first | refine blk_drewN ?_ _ | refine blk_drew ?_ | refine blk_alloc ?_ _)); exact BK140.out⟩, ⟨by repeat (first | (with_reducible first | exact HB.out | apply below_alloc | apply pw_below_drewN | apply below_drew1 | refine below_set ?_ GE138.out | refine below_set ?_ GE140.out) | exact HB.out)⟩⟩
                                    · rw [if_neg c113] at H
                                      have c113b0 : ((bt hh_ x9_4) == 46) = false := beq_eq_false_iff_ne.mpr c113
                                      have c113b1 : ((bt hh_ x9_4) != 46) = true := bne_iff_ne.mpr c113
                                      by_cases c116 : ((bt hh_ x9_4) = 58)
                                      · rw [if_pos c116] at H
                                        have c116b0 : ((bt hh_ x9_4) == 58) = true := beq_iff_eq.mpr c116
                                        have c116b1 : ((bt hh_ x9_4) != 58) = false := bne_eq_false_iff_eq.mpr c116
                                        clear c116
                                        have H' := Aside0.mk H
                                        clear H
                                        have hnb117 := NB140_138.out
                                        have hnc117 := NB138_140.out
                                        have hcz118_0 : wr.cell? ⟨gb140, 0, none⟩ = some (.string x141000_17) := (blk_cell BK140.out 0).trans rfl
                                        have hcz118_1 : wr.cell? ⟨gb140, 1, none⟩ = some (.string hh_) := (blk_cell BK140.out 1).trans rfl
                                        have hcz118_2 : wr.cell? ⟨gb140, 2, none⟩ = some (.string (x0_41.extract (t142 : Int).toNat x0_41.size)) := (blk_cell BK140.out 2).trans rfl
                                        have hcz118_3 : wr.cell? ⟨gb140, 3, none⟩ = some (.string x141003_41) := (blk_cell BK140.out 3).trans rfl
                                        have hfz118_0 := blk_frozen BK140.out 0
                                        have hfz118_1 := blk_frozen BK140.out 1
                                        have hfz118_2 := blk_frozen BK140.out 2
                                        have hfz118_3 := blk_frozen BK140.out 3
                                        have p61 : 0 ≤ (x9_4 : Int) := of_decide_eq_true (by first | (with_reducible assumption) | assumption)
                                        have q61 : x9_4 < (hh_.size : Int) := of_decide_eq_true (by first | (with_reducible assumption) | assumption)
                                        have hx61 := bt_at hh_ x9_4
                                        replace p61 := eq_true p61
                                        replace q61 := eq_true q61
                                        go_wp2
                                        subst hgx_; go_roundg k4
                                        case measure => have := HK1.out; have := HJ17.out; have := HJ41.out; have := HK4.out; omega
                                        case rel => exact ⟨(wrap64 (x9_4 + 1)), (x139000_4), (x139001_4), (x139002_4), (x139003_4), (by first | rfl | (simp; done) | (simp [*]; done) | (refine congrArg Value.bool ?_; rw [Bool.eq_iff_iff]; simp; done)), H', ⟨by have := HK1.out; have := HJ17.out; have := HJ41.out; have := HK4.out; omega⟩, ⟨by (with_reducible repeat (first | refine blk_drewN ?_ _ | refine blk_drew ?_ | refine blk_alloc ?_ _)); exact BK138.out⟩, ⟨by (with_reducible repeat (first | refine blk_drewN ?_ _ | refine blk_drew ?_ | refine blk_alloc ?_ _)); exact BK140.out⟩, ⟨by repeat (first | (with_reducible first | exact HB.out | apply below_alloc | apply pw_below_drewN | apply below_drew1 | refine below_set ?_ GE138.out | refine below_set ?_ GE140.out) | exact HB.out)⟩⟩
                                      · rw [if_neg c116] at H
                                        have c116b0 : ((bt hh_ x9_4) == 58) = false := beq_eq_false_iff_ne.mpr c116
                                        have c116b1 : ((bt hh_ x9_4) != 58) = true := bne_iff_ne.mpr c116
                                        simp only [Option.some.injEq, Prod.mk.injEq] at H
                                        obtain ⟨rfl, rfl, rfl, rfl, rfl⟩ := H
                                        have hnb119 := NB140_138.out
                                        have hnc119 := NB138_140.out
                                        have hcz120_0 : wr.cell? ⟨gb140, 0, none⟩ = some (.string x141000_17) := (blk_cell BK140.out 0).trans rfl
                                        have hcz120_1 : wr.cell? ⟨gb140, 1, none⟩ = some (.string hh_) := (blk_cell BK140.out 1).trans rfl
                                        have hcz120_2 : wr.cell? ⟨gb140, 2, none⟩ = some (.string (x0_41.extract (t142 : Int).toNat x0_41.size)) := (blk_cell BK140.out 2).trans rfl
                                        have hcz120_3 : wr.cell? ⟨gb140, 3, none⟩ = some (.string x141003_41) := (blk_cell BK140.out 3).trans rfl
                                        have hfz120_0 := blk_frozen BK140.out 0
                                        have hfz120_1 := blk_frozen BK140.out 1
                                        have hfz120_2 := blk_frozen BK140.out 2
                                        have hfz120_3 := blk_frozen BK140.out 3
                                        have p61 : 0 ≤ (x9_4 : Int) := of_decide_eq_true (by first | (with_reducible assumption) | assumption)
                                        have q61 : x9_4 < (hh_.size : Int) := of_decide_eq_true (by first | (with_reducible assumption) | assumption)
                                        have hx61 := bt_at hh_ x9_4
                                        replace p61 := eq_true p61
                                        replace q61 := eq_true q61
                                        have hcz121_0 : wr.cell? ⟨gb138, 0, none⟩ = some (.string x139000_4) := (blk_cell BK138.out 0).trans rfl
                                        have hcz121_1 : wr.cell? ⟨gb138, 1, none⟩ = some (.string x139001_4) := (blk_cell BK138.out 1).trans rfl
                                        have hcz121_2 : wr.cell? ⟨gb138, 2, none⟩ = some (.string x139002_4) := (blk_cell BK138.out 2).trans rfl
                                        have hcz121_3 : wr.cell? ⟨gb138, 3, none⟩ = some (.string x139003_4) := (blk_cell BK138.out 3).trans rfl
                                        have hfz121_0 := blk_frozen BK138.out 0
                                        have hfz121_1 := blk_frozen BK138.out 1
                                        have hfz121_2 := blk_frozen BK138.out 2
                                        have hfz121_3 := blk_frozen BK138.out 3
                                        go_wp2
                                        refine bodyPost_ret (results_ct rfl _ _ gb138 31 #[.string (⟨#[]⟩ : ByteArray), .string (⟨#[]⟩ : ByteArray), .string (⟨#[]⟩ : ByteArray), .string (⟨#[]⟩ : ByteArray)] (0, 0) _ rfl (by (with_reducible repeat (first | refine blk_drewN ?_ _ | refine blk_drew ?_ | refine blk_alloc ?_ _)); refine blk_put (cs := #[.string (⟨#[]⟩ : ByteArray), .string (⟨#[]⟩ : ByteArray), .string (⟨#[]⟩ : ByteArray), .string x139003_4]) ?_ 3 _ rfl; (with_reducible repeat (first | refine blk_drewN ?_ _ | refine blk_drew ?_ | refine blk_alloc ?_ _)); refine blk_put (cs := #[.string (⟨#[]⟩ : ByteArray), .string (⟨#[]⟩ : ByteArray), .string x139002_4, .string x139003_4]) ?_ 2 _ rfl; (with_reducible repeat (first | refine blk_drewN ?_ _ | refine blk_drew ?_ | refine blk_alloc ?_ _)); refine blk_put (cs := #[.string (⟨#[]⟩ : ByteArray), .string x139001_4, .string x139002_4, .string x139003_4]) ?_ 1 _ rfl; (with_reducible repeat (first | refine blk_drewN ?_ _ | refine blk_drew ?_ | refine blk_alloc ?_ _)); refine blk_put (cs := #[.string x139000_4, .string x139001_4, .string x139002_4, .string x139003_4]) ?_ 0 _ rfl; (with_reducible repeat (first | refine blk_drewN ?_ _ | refine blk_drew ?_ | refine blk_alloc ?_ _)); exact BK138.out) Tryd.underlying31 rfl (by kernel_rfl)) rfl ?_
                                        exact ⟨by first | rfl | (simp [errW_none, errW_some] <;> rfl) | (simp [*, errW_none, errW_some] <;> rfl), by repeat (first | (with_reducible first | exact HB.out | apply below_alloc | apply pw_below_drewN | apply below_drew1 | refine below_set ?_ GE138.out | refine below_set ?_ GE140.out) | exact HB.out)⟩
                                        all_goals (first | (exfalso; simp_all <;> omega) | (go_ret; exact ⟨by first | rfl | (simp [errW_none, errW_some] <;> rfl) | (simp [*, errW_none, errW_some] <;> rfl), by repeat (first | (with_reducible first | exact HB.out | apply below_alloc | apply pw_below_drewN | apply below_drew1 | refine below_set ?_ GE138.out | refine below_set ?_ GE140.out) | exact HB.out)⟩))
                            · rw [if_neg c60] at H
                              exact absurd H (by simp)
                          · rw [if_neg c59] at H
                            have c59b0 : decide (x9_4 < (hh_.size : Int)) = false := decide_eq_false c59
                            clear c59
                            by_cases c122 : hh_.toList = ([] : List UInt8)
                            · rw [if_pos c122] at H
                              have c122b0 : (hh_.toList == ([] : List UInt8)) = true := beq_iff_eq.mpr c122
                              have c122b1 : (hh_.toList != ([] : List UInt8)) = false := bne_eq_false_iff_eq.mpr c122
                              clear c122
                              simp only [Option.some.injEq, Prod.mk.injEq] at H
                              obtain ⟨rfl, rfl, rfl, rfl, rfl⟩ := H
                              have hnb123 := NB140_138.out
                              have hnc123 := NB138_140.out
                              have hcz124_0 : wr.cell? ⟨gb140, 0, none⟩ = some (.string x141000_17) := (blk_cell BK140.out 0).trans rfl
                              have hcz124_1 : wr.cell? ⟨gb140, 1, none⟩ = some (.string hh_) := (blk_cell BK140.out 1).trans rfl
                              have hcz124_2 : wr.cell? ⟨gb140, 2, none⟩ = some (.string (x0_41.extract (t142 : Int).toNat x0_41.size)) := (blk_cell BK140.out 2).trans rfl
                              have hcz124_3 : wr.cell? ⟨gb140, 3, none⟩ = some (.string x141003_41) := (blk_cell BK140.out 3).trans rfl
                              have hfz124_0 := blk_frozen BK140.out 0
                              have hfz124_1 := blk_frozen BK140.out 1
                              have hfz124_2 := blk_frozen BK140.out 2
                              have hfz124_3 := blk_frozen BK140.out 3
                              have hcz125_0 : wr.cell? ⟨gb138, 0, none⟩ = some (.string x139000_4) := (blk_cell BK138.out 0).trans rfl
                              have hcz125_1 : wr.cell? ⟨gb138, 1, none⟩ = some (.string x139001_4) := (blk_cell BK138.out 1).trans rfl
                              have hcz125_2 : wr.cell? ⟨gb138, 2, none⟩ = some (.string x139002_4) := (blk_cell BK138.out 2).trans rfl
                              have hcz125_3 : wr.cell? ⟨gb138, 3, none⟩ = some (.string x139003_4) := (blk_cell BK138.out 3).trans rfl
                              have hfz125_0 := blk_frozen BK138.out 0
                              have hfz125_1 := blk_frozen BK138.out 1
                              have hfz125_2 := blk_frozen BK138.out 2
                              have hfz125_3 := blk_frozen BK138.out 3
                              go_wp2
                              refine bodyPost_ret (results_ct rfl _ _ gb138 31 #[.string (⟨#[]⟩ : ByteArray), .string (⟨#[]⟩ : ByteArray), .string (⟨#[]⟩ : ByteArray), .string (⟨#[]⟩ : ByteArray)] (0, 0) _ rfl (by (with_reducible repeat (first | refine blk_drewN ?_ _ | refine blk_drew ?_ | refine blk_alloc ?_ _)); refine blk_put (cs := #[.string (⟨#[]⟩ : ByteArray), .string (⟨#[]⟩ : ByteArray), .string (⟨#[]⟩ : ByteArray), .string x139003_4]) ?_ 3 _ rfl; (with_reducible repeat (first | refine blk_drewN ?_ _ | refine blk_drew ?_ | refine blk_alloc ?_ _)); refine blk_put (cs := #[.string (⟨#[]⟩ : ByteArray), .string (⟨#[]⟩ : ByteArray), .string x139002_4, .string x139003_4]) ?_ 2 _ rfl; (with_reducible repeat (first | refine blk_drewN ?_ _ | refine blk_drew ?_ | refine blk_alloc ?_ _)); refine blk_put (cs := #[.string (⟨#[]⟩ : ByteArray), .string x139001_4, .string x139002_4, .string x139003_4]) ?_ 1 _ rfl; (with_reducible repeat (first | refine blk_drewN ?_ _ | refine blk_drew ?_ | refine blk_alloc ?_ _)); refine blk_put (cs := #[.string x139000_4, .string x139001_4, .string x139002_4, .string x139003_4]) ?_ 0 _ rfl; (with_reducible repeat (first | refine blk_drewN ?_ _ | refine blk_drew ?_ | refine blk_alloc ?_ _)); exact BK138.out) Tryd.underlying31 rfl (by kernel_rfl)) rfl ?_
                              exact ⟨by first | rfl | (simp [errW_none, errW_some] <;> rfl) | (simp [*, errW_none, errW_some] <;> rfl), by repeat (first | (with_reducible first | exact HB.out | apply below_alloc | apply pw_below_drewN | apply below_drew1 | refine below_set ?_ GE138.out | refine below_set ?_ GE140.out) | exact HB.out)⟩
                              all_goals (first | (exfalso; simp_all <;> omega) | (go_ret; exact ⟨by first | rfl | (simp [errW_none, errW_some] <;> rfl) | (simp [*, errW_none, errW_some] <;> rfl), by repeat (first | (with_reducible first | exact HB.out | apply below_alloc | apply pw_below_drewN | apply below_drew1 | refine below_set ?_ GE138.out | refine below_set ?_ GE140.out) | exact HB.out)⟩))
                            · rw [if_neg c122] at H
                              have c122b0 : (hh_.toList == ([] : List UInt8)) = false := beq_eq_false_iff_ne.mpr c122
                              have c122b1 : (hh_.toList != ([] : List UInt8)) = true := bne_iff_ne.mpr c122
                              simp only [Option.some.injEq, Prod.mk.injEq] at H
                              obtain ⟨rfl, rfl, rfl, rfl, rfl⟩ := H
                              have hnb126 := NB140_138.out
                              have hnc126 := NB138_140.out
                              have hcz127_0 : wr.cell? ⟨gb140, 0, none⟩ = some (.string x141000_17) := (blk_cell BK140.out 0).trans rfl
                              have hcz127_1 : wr.cell? ⟨gb140, 1, none⟩ = some (.string hh_) := (blk_cell BK140.out 1).trans rfl
                              have hcz127_2 : wr.cell? ⟨gb140, 2, none⟩ = some (.string (x0_41.extract (t142 : Int).toNat x0_41.size)) := (blk_cell BK140.out 2).trans rfl
                              have hcz127_3 : wr.cell? ⟨gb140, 3, none⟩ = some (.string x141003_41) := (blk_cell BK140.out 3).trans rfl
                              have hfz127_0 := blk_frozen BK140.out 0
                              have hfz127_1 := blk_frozen BK140.out 1
                              have hfz127_2 := blk_frozen BK140.out 2
                              have hfz127_3 := blk_frozen BK140.out 3
                              have hcz128_0 : wr.cell? ⟨gb138, 0, none⟩ = some (.string x139000_4) := (blk_cell BK138.out 0).trans rfl
                              have hcz128_1 : wr.cell? ⟨gb138, 1, none⟩ = some (.string x139001_4) := (blk_cell BK138.out 1).trans rfl
                              have hcz128_2 : wr.cell? ⟨gb138, 2, none⟩ = some (.string x139002_4) := (blk_cell BK138.out 2).trans rfl
                              have hcz128_3 : wr.cell? ⟨gb138, 3, none⟩ = some (.string x139003_4) := (blk_cell BK138.out 3).trans rfl
                              have hfz128_0 := blk_frozen BK138.out 0
                              have hfz128_1 := blk_frozen BK138.out 1
                              have hfz128_2 := blk_frozen BK138.out 2
                              have hfz128_3 := blk_frozen BK138.out 3
                              go_wp2
                              refine bodyPost_ret (results_ct rfl _ _ gb138 31 #[.string x141000_17, .string hh_, .string (x0_41.extract (t142 : Int).toNat x0_41.size), .string x141003_41] (0, 0) _ rfl (by (with_reducible repeat (first | refine blk_drewN ?_ _ | refine blk_drew ?_ | refine blk_alloc ?_ _)); refine blk_put (cs := #[.string x141000_17, .string hh_, .string (x0_41.extract (t142 : Int).toNat x0_41.size), .string x139003_4]) ?_ 3 _ rfl; (with_reducible repeat (first | refine blk_drewN ?_ _ | refine blk_drew ?_ | refine blk_alloc ?_ _)); refine blk_put (cs := #[.string x141000_17, .string hh_, .string x139002_4, .string x139003_4]) ?_ 2 _ rfl; (with_reducible repeat (first | refine blk_drewN ?_ _ | refine blk_drew ?_ | refine blk_alloc ?_ _)); refine blk_put (cs := #[.string x141000_17, .string x139001_4, .string x139002_4, .string x139003_4]) ?_ 1 _ rfl; (with_reducible repeat (first | refine blk_drewN ?_ _ | refine blk_drew ?_ | refine blk_alloc ?_ _)); refine blk_put (cs := #[.string x139000_4, .string x139001_4, .string x139002_4, .string x139003_4]) ?_ 0 _ rfl; (with_reducible repeat (first | refine blk_drewN ?_ _ | refine blk_drew ?_ | refine blk_alloc ?_ _)); exact BK138.out) Tryd.underlying31 rfl (by kernel_rfl)) rfl ?_
                              exact ⟨by first | rfl | (simp [errW_none, errW_some] <;> rfl) | (simp [*, errW_none, errW_some] <;> rfl), by repeat (first | (with_reducible first | exact HB.out | apply below_alloc | apply pw_below_drewN | apply below_drew1 | refine below_set ?_ GE138.out | refine below_set ?_ GE140.out) | exact HB.out)⟩
                              all_goals (first | (exfalso; simp_all <;> omega) | (go_ret; exact ⟨by first | rfl | (simp [errW_none, errW_some] <;> rfl) | (simp [*, errW_none, errW_some] <;> rfl), by repeat (first | (with_reducible first | exact HB.out | apply below_alloc | apply pw_below_drewN | apply below_drew1 | refine below_set ?_ GE138.out | refine below_set ?_ GE140.out) | exact HB.out)⟩))
                    · rw [if_neg c53] at H
                      exact absurd H (by simp)
                  · rw [if_neg c52] at H
                    exact absurd H (by simp)

end Go.Proofs.YtjagjfmkfiikaaaDoor.X
