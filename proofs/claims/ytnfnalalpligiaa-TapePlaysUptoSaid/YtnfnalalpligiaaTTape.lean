/- The program's tape: what each of its methods does, by its state. -/
import Derived.Test.YtnfnalalpligiaaX0
import Derived.Test.YtnfnalalpligiaaTRow
import Derived.StillTailTactics
import Derived.Lib.SliceRun
import Derived.Laws.Pointers
namespace Go.Proofs.Ytnfnalalpligiaa.X
open Go.RowKit Go.Proofs.YtnfnalalpligiaaW.PrintWords Go.Proofs.YtnfnalalpligiaaW.PrintLast Go.Proofs.YtnfnalalpligiaaW.PrintMore
set_option linter.unusedVariables false
set_option linter.unusedSimpArgs false

/-! ### what a tape does, in plain words: f the fuse, d whether it is down -/
def okB (f : Int) (d : Bool) (n : Int) : Bool := !d && (decide (f < 0) || decide (n ≤ f))
def fz (f : Int) (d : Bool) (n : Int) : Int := if d then f else if f < 0 then f else if n ≤ f then f - n else 0
def dn (f : Int) (d : Bool) (n : Int) : Bool := d || !(decide (f < 0) || decide (n ≤ f))
def tk (f : Int) (d : Bool) (n : Int) (whole : Bool) : Int := if d then 0 else if f < 0 ∨ n ≤ f then n else if whole then 0 else f
def sy (f : Int) (d : Bool) (n l s : Int) : Int := if okB f d n then l else s
def er (f : Int) (d : Bool) (n : Int) : Int := if okB f d n then 0 else 8

/-- what a slice that is read alone shows -/
structure Ar (w : World) (v : Value) (g : Nat) (zs : List Int) : Prop where
  shape : ∃ ao off cap, v = .slice ao zs.length cap ∧ zs.length ≤ cap ∧ zs.length ≤ 9223372036854775807 ∧ (0 < zs.length → ao = some ⟨g, off, none⟩ ∧ g < w.heap.size) ∧
    ∀ j, j < zs.length → w.cell? ⟨g, off + j, none⟩ = some (.int .u8 (zs.getD j 0))

theorem Ar.keep {w w' : World} {v : Value} {g : Nat} {zs : List Int} (h : Ar w v g zs) (hs : w.heap.size ≤ w'.heap.size) (hb : g < w.heap.size → w'.heap[g]? = w.heap[g]?) : Ar w' v g zs := by
  obtain ⟨ao, off, cap, rfl, h1, h2, h3, h4⟩ := h.shape
  exact ⟨ao, off, cap, rfl, h1, h2, fun h0 => ⟨(h3 h0).1, Nat.lt_of_lt_of_le (h3 h0).2 hs⟩, fun j hj => (World.cell?_of_block (a := ⟨g, off + j, none⟩) (hb (h3 (by omega)).2)).trans (h4 j hj)⟩
theorem Ar.tc {S : Nat → Prop} {w w' : World} {v : Value} {g : Nat} {zs : List Int} (h : Ar w v g zs) (k : Tc S w w') (hn : g < w.heap.size → ¬ S g) : Ar w' v g zs := h.keep k.size fun hg => k.block g hg (hn hg)

theorem nums_get {zs : List Int} {j : Nat} (hj : j < zs.length) : (nums .u8 zs)[j]? = some (.int .u8 (zs.getD j 0)) := by
  simp [nums, List.getD_eq_getElem?_getD, hj]
theorem nums_len (zs : List Int) : (nums .u8 zs).length = zs.length := by simp [nums]
theorem nums_one (zs : List Int) : ∀ u ∈ nums .u8 zs, u.oneCell' = true := by
  intro u hu
  simp only [nums, List.mem_map] at hu
  obtain ⟨x, _, rfl⟩ := hu
  rfl
theorem Ar.src {w : World} {v : Value} {g : Nat} {zs : List Int} (h : Ar w v g zs) : Src Try.prog 1 22 v zs.length (nums .u8 zs) w := by
  obtain ⟨ao, off, cap, rfl, h1, h2, h3, h4⟩ := h.shape
  by_cases h0 : 0 < zs.length
  · obtain ⟨rfl, _⟩ := h3 h0
    refine Src.ofSlice _ Try.underlying22 _ _ _ _ (by rw [nums_len, Nat.mul_one]) (fun j u hj => ?_) (nums_one zs)
    have hl := (List.getElem?_eq_some_iff.1 hj).1
    rw [nums_len] at hl
    rw [nums_get hl] at hj
    obtain rfl := Option.some.inj hj
    rw [Addr.add_lit]
    exact h4 j hl
  · obtain rfl : zs = [] := List.eq_nil_of_length_eq_zero (by omega)
    cases ao with
    | none => exact Src.ofNil _ Try.underlying22 _
    | some a => exact Src.ofSlice _ Try.underlying22 _ _ _ _ (by simp [nums]) (fun j u hj => by simp [nums] at hj) (nums_one [])
theorem Rw.ar {w : World} {v : Value} {g : Option Nat} {zs : List Int} (h : Rw w v g (nums .u8 zs)) : Ar w v (g.getD 0) zs := by
  obtain ⟨ao, cap, rfl, hm, hg, hc⟩ := h.shape
  have hl := hc.le
  rw [nums_len] at hl hc ⊢
  unfold maxLen at hm
  refine ⟨ao, 0, cap, rfl, hl, by omega, fun h0 => ⟨hc.addr (by omega), hc.lt (by omega)⟩, fun j hj => ?_⟩
  exact hc.olds j _ (nums_get hj)
theorem Ar.take {w : World} {ao : Option Addr} {n cap g : Nat} {zs : List Int} (h : Ar w (.slice ao n cap) g zs) (k : Nat) (hk : k ≤ zs.length) : Ar w (.slice ao k cap) g (zs.take k) := by
  obtain ⟨ao', off, cap', e, h1, h2, h3, h4⟩ := h.shape
  simp only [Value.slice.injEq] at e
  obtain ⟨rfl, rfl, rfl⟩ := e
  have hl : (zs.take k).length = k := by rw [List.length_take]; omega
  refine ⟨ao, off, cap, by rw [hl], by omega, by omega, fun h0 => h3 (by omega), fun j hj => ?_⟩
  rw [h4 j (by omega)]
  simp [List.getD_eq_getElem?_getD, List.getElem?_take, show j < k by omega]

/-- a tape's state: type T, block p; its bytes lie in block g -/
def St (T : TypeId) (w : World) (p : Nat) (g : Option Nat) (zs : List Int) (s f : Int) (d : Bool) : Prop :=
  some p ≠ g ∧ ∃ v, w.heap[p]? = some (.cells #[v, .int .i64 s, .int .i64 f, .bool d] T (0, 0)) ∧ Rw w v g (nums .u8 zs)
theorem St.tc {S : Nat → Prop} {T : TypeId} {w w' : World} {p : Nat} {g : Option Nat} {zs : List Int} {s f : Int} {d : Bool} (h : St T w p g zs s f d) (k : Tc S w w') (hp : ¬ S p) (hg : ∀ b, g = some b → ¬ S b) : St T w' p g zs s f d := by
  obtain ⟨h0, v, h1, h2⟩ := h
  exact ⟨h0, v, (k.block p (blk_lt h1) hp).trans h1, h2.tc k hg⟩
/-- a step that turns p alone leaves its row -/
theorem Rw.off {w w' : World} {v : Value} {g : Option Nat} {cs : List Value} {p : Nat} (h : Rw w v g cs) (k : Tc (fun k => k = p) w w') (hn : some p ≠ g) : Rw w' v g cs :=
  h.tc k fun b e he => hn (by rw [e, he])
theorem St.lt {T : TypeId} {w : World} {p : Nat} {g : Option Nat} {zs : List Int} {s f : Int} {d : Bool} (h : St T w p g zs s f d) : p < w.heap.size := by
  obtain ⟨h0, v, h1, h2⟩ := h; exact blk_lt h1

set_option maxHeartbeats 2000000 in
set_option maxRecDepth 100000 in
theorem burn_calls (p : Nat) (v : Value) (s f : Int) (d : Bool) (n : Int) (whole : Bool) (w : World) (hb : w.heap[p]? = some (.cells #[v, .int .i64 s, .int .i64 f, .bool d] 44 (0, 0))) (hn0 : 0 ≤ n) (hf : f ≤ 9223372036854775807) :
    Calls Try.prog 21 #[.pointer (some ⟨p, 0, none⟩), .int .i64 n, .bool whole] w fun e w' => e = .returned (.tuple #[.int .i64 (tk f d n whole), .bool (okB f d n)]) ∧
      w'.heap[p]? = some (.cells #[v, .int .i64 s, .int .i64 (fz f d n), .bool (dn f d n)] 44 (0, 0)) ∧ Tc (fun k => k = p) w w' := by
  have hc2 : w.cell? ⟨p, 2, none⟩ = some (.int .i64 f) := (blk_cell hb 2).trans rfl
  have hc3 : w.cell? ⟨p, 3, none⟩ = some (.bool d) := (blk_cell hb 3).trans rfl
  have hf2 := blk_frozen hb 2
  have hf3 := blk_frozen hb 3
  have HB := Aside0.mk hb
  clear hb
  cases d with
  | true =>
    go_enter Try.func21, Try.ntmps21
    go_wp2
    go_ret2
    exact ⟨by simp [tk, okB], by simpa [fz, dn] using HB.out, Tc.refl _ _⟩
  | false =>
    by_cases c1 : f < 0
    · have hq1 : decide (f < 0) = true := decide_eq_true c1
      have hq2 : decide (f ≥ 0) = false := decide_eq_false (by omega)
      have HC := Aside0.mk c1
      clear c1
      go_enter Try.func21, Try.ntmps21
      go_wp2
      go_ret2
      have c1 := HC.out
      exact ⟨by simp [tk, okB, c1], by simpa [fz, dn, c1] using HB.out, Tc.refl _ _⟩
    · have hq1 : decide (f < 0) = false := decide_eq_false c1
      have hq2 : decide (f ≥ 0) = true := decide_eq_true (by omega)
      have HC := Aside0.mk c1
      by_cases c2 : n ≤ f
      · have hq3 : decide (f ≥ n) = true := decide_eq_true c2
        have hw1 : wrap64 (f - n) = f - n := (by unfold wrap64; omega)
        have HC2 := Aside0.mk c2
        clear c1 c2
        go_enter Try.func21, Try.ntmps21
        go_wp2
        go_ret2
        have c1 : ¬ f < 0 := by have := HC.out; omega
        have c2 : n ≤ f := HC2.out
        refine ⟨by simp [tk, okB, c1, c2], ?_, Tc.set (S := fun k => k = p) (a := w) (b := w) (Tc.refl _ _) ⟨p, 2, none⟩ _ (fun _ => rfl)⟩
        have := blk_set HB.out 2 (.int .i64 (f - n))
        simpa [fz, dn, c1, c2] using this
      · have hq3 : decide (f ≥ n) = false := decide_eq_false c2
        have HC2 := Aside0.mk c2
        clear c1 c2
        cases whole with
        | true =>
          go_enter Try.func21, Try.ntmps21
          go_wp2
          go_ret2
          have c1 : ¬ f < 0 := by have := HC.out; omega
          have c2 : ¬ n ≤ f := by have := HC2.out; omega
          refine ⟨by simp [tk, okB, c1, c2], ?_, Tc.set (a := w) (Tc.set (S := fun k => k = p) (a := w) (b := w) (Tc.refl _ _) ⟨p, 2, none⟩ _ (fun _ => rfl)) ⟨p, 3, none⟩ _ (fun _ => rfl)⟩
          have := blk_set (blk_set HB.out 2 (.int .i64 0)) 3 (.bool true)
          simpa [fz, dn, c1, c2] using this
        | false =>
          go_enter Try.func21, Try.ntmps21
          go_wp2
          go_ret2
          have c1 : ¬ f < 0 := by have := HC.out; omega
          have c2 : ¬ n ≤ f := by have := HC2.out; omega
          refine ⟨by simp [tk, okB, c1, c2], ?_, Tc.set (a := w) (Tc.set (S := fun k => k = p) (a := w) (b := w) (Tc.refl _ _) ⟨p, 2, none⟩ _ (fun _ => rfl)) ⟨p, 3, none⟩ _ (fun _ => rfl)⟩
          have := blk_set (blk_set HB.out 2 (.int .i64 0)) 3 (.bool true)
          simpa [fz, dn, c1, c2] using this

theorem Rw.empty {w : World} {g : Nat} (hg : g < w.heap.size) : Rw w (.slice (some ⟨g, 0, .none⟩) 0 0) (some g) [] := ⟨⟨_, 0, rfl, by simp [maxLen], fun h => by omega, by
  refine ⟨Nat.le_refl _, fun h => by omega, fun h => by omega, rfl, fun j u h => by simp at h, fun j h => by simp at h⟩⟩, fun b e => (by cases e; exact hg), fun b e j hj => by simp at hj⟩

theorem i5 : (Try.prog.info? 5).map (fun i => (i.zero, i.size, i.bytes)) = some (some (.int .u8 0), 1, 1) := by kernel_rfl

set_option maxHeartbeats 2000000 in
set_option maxRecDepth 100000 in
theorem clone_calls (v : Value) (g : Nat) (zs : List Int) (w : World) (h : Ar w v g zs) (hz : zs.length ≤ 140737488355328) :
    Calls Try.prog 22 #[v] w fun e w' => ∃ v' g', e = .returned v' ∧ Rw w' v' g' (nums .u8 zs) ∧ (∀ b, g' = some b → w.heap.size ≤ b) ∧ Below w.heap.size w w' := by
  obtain ⟨i0, hi, hz0, hz1, hz2⟩ := info_parts i5
  have HA := Aside0.mk h
  obtain ⟨ao, off, cap, rfl, h1, h2, h3, h4⟩ := h.shape
  clear h
  cases ao with
  | none =>
    have q22 : ∀ (w : World) (a : Option Addr) (n c n' c' : Nat), (binOp .eql 22 (.slice a n c) (.slice none n' c')).run Try.prog w = .ok (.bool a.isNone) w := fun w a n c n' c' => Lib.run_eql_slice_nil w _ _ a n c n' c' Try.underlying22
    have h0 : zs = [] := List.eq_nil_of_length_eq_zero (by rcases Nat.eq_zero_or_pos zs.length with h | h; · exact h
                                                           · exact absurd (h3 h).1 (by simp))
    subst h0
    clear h3 h4 h1 h2
    go_enter Try.func22, Try.ntmps22
    go_wp2
    go_ret
    exact ⟨_, none, rfl, Rw.nil _, (by intro b e; cases e), Below.refl _ _⟩
  | some a =>
    clear h3 h4
    have q22 : ∀ (w : World) (a : Option Addr) (n c n' c' : Nat), (binOp .eql 22 (.slice a n c) (.slice none n' c')).run Try.prog w = .ok (.bool a.isNone) w := fun w a n c n' c' => Lib.run_eql_slice_nil w _ _ a n c n' c' Try.underlying22
    have HW1 : Rw (w.alloc (.cells #[] 5)) (.slice (some ⟨w.heap.size, 0, .none⟩) 0 0) (some w.heap.size) [] := Rw.empty (by simp)
    have HA1 := (HA.out.keep (w' := w.alloc (.cells #[] 5)) (by simp) (fun hg => Below.heap_alloc _ _ _ hg)).src
    have HAs := Aside0.mk HA1
    have HWs := Aside0.mk HW1
    clear HA1 HW1 h1 h2
    have HZ := Aside0.mk hz
    clear hz
    go_enter Try.func22, Try.ntmps22
    go_wp2_with (at_builtin; refine wpList_append_rw _ rfl (.tmp 5) (.tmp 6) 22 22 rfl 5 i0 (.int .u8 0) Try.underlying22 hi hz0 hz1 hz2 rfl _ (some w.heap.size) [] rfl HWs.out _ zs.length (nums .u8 zs) rfl HAs.out (by have := HZ.out; simpa using this) ?_)
    intro v' w' g' hr hgr hg'
    have HR := Aside0.mk hr
    have HG := Aside0.mk hgr
    clear hr hgr
    go_wp2
    go_ret
    refine ⟨_, g', rfl, by simpa using HR.out, ?_, ?_⟩
    · rcases hg' with rfl | rfl <;> (intro b e; cases e; simp)
    · exact (below_alloc (Below.refl _ w) _).grown HG.out (by simp) (fun k hk => by cases hk; exact Nat.le_refl _)
theorem q24 (w : World) (p : Option Addr) : (binOp .eql 24 (.pointer p) (.pointer none)).run Try.prog w = .ok (.bool p.isNone) w := run_eql_pointer_nil w 24 p (by kernel_rfl)
theorem q24n (w : World) (p : Option Addr) : (binOp .neq 24 (.pointer p) (.pointer none)).run Try.prog w = .ok (.bool (!p.isNone)) w := run_neq_pointer_nil w 24 p (by kernel_rfl)

theorem St.zs {T : TypeId} {w : World} {p : Nat} {g : Option Nat} {zs : List Int} {s f : Int} {d : Bool} (h : St T w p g zs s f d) : ∃ ao cap, w.heap[p]? = some (.cells #[.slice ao zs.length cap, .int .i64 s, .int .i64 f, .bool d] T (0, 0)) ∧ Rw w (.slice ao zs.length cap) g (nums .u8 zs) ∧ zs.length ≤ cap ∧ some p ≠ g := by
  obtain ⟨h0, v, h1, h2⟩ := h
  obtain ⟨ao, cap, rfl, h3, h4, h5⟩ := h2.len
  rw [nums_len] at h1 h2 h3
  exact ⟨ao, cap, h1, h2, h3, h0⟩

set_option maxHeartbeats 2000000 in
set_option maxRecDepth 100000 in
theorem new_calls (w : World) : Calls Try.prog 8 #[] w fun e w' => ∃ p, e = .returned (.pointer (some ⟨p, 0, none⟩)) ∧ w.heap.size ≤ p ∧ St 44 w' p none [] 0 (-1) false ∧ Below w.heap.size w w' := by
  go_enter Try.func8, Try.ntmps8
  go_wp2
  go_ret
  refine ⟨w.heap.size, rfl, Nat.le_refl _, ⟨by simp, _, heap_alloc_new w _, Rw.nil _⟩, below_alloc (Below.refl _ _) _⟩

set_option maxHeartbeats 2000000 in
set_option maxRecDepth 100000 in
theorem sure_calls (p : Nat) (g : Option Nat) (zs : List Int) (s f : Int) (d : Bool) (w : World) (h : St 44 w p g zs s f d) :
    Calls Try.prog 14 #[.pointer (some ⟨p, 0, none⟩)] w fun e w' => e = .returned (.int .i64 s) ∧ w' = w := by
  obtain ⟨ao, cap, hb, hr, hl, hn⟩ := h.zs
  have qe := q24
  have hc1 : w.cell? ⟨p, 1, none⟩ = some (.int .i64 s) := (blk_cell hb 1).trans rfl
  clear h hb hr hn
  go_enter Try.func14, Try.ntmps14
  go_wp2
  go_ret
  exact ⟨rfl, rfl⟩

set_option maxHeartbeats 2000000 in
set_option maxRecDepth 100000 in
theorem fuse_calls (p : Nat) (g : Option Nat) (zs : List Int) (s f : Int) (d : Bool) (n : Int) (w : World) (h : St 44 w p g zs s f d) :
    Calls Try.prog 11 #[.pointer (some ⟨p, 0, none⟩), .int .i64 n] w fun e w' => e = .returned (.tuple #[]) ∧ St 44 w' p g zs s (max n 0) d ∧ Tc (fun k => k = p) w w' := by
  obtain ⟨ao, cap, hb, hr, hl, hn⟩ := h.zs
  have qe := q24n
  have hc2 : w.cell? ⟨p, 2, none⟩ = some (.int .i64 f) := (blk_cell hb 2).trans rfl
  have hf2 := blk_frozen hb 2
  have HB := Aside0.mk hb
  have HR := Aside0.mk hr
  have HN := Aside0.mk hn
  clear h hb hr hn
  have fin : ∀ m : Int, m = max n 0 → St 44 (w.setCell ⟨p, 2, none⟩ (.int .i64 m)) p g zs s (max n 0) d ∧ Tc (fun k => k = p) w (w.setCell ⟨p, 2, none⟩ (.int .i64 m)) := fun m hm => by
    subst hm
    have hT := Tc.set (S := fun k => k = p) (a := w) (b := w) (Tc.refl _ _) ⟨p, 2, none⟩ (.int .i64 (max n 0)) (fun _ => rfl)
    refine ⟨⟨HN.out, _, ?_, HR.out.off hT HN.out⟩, hT⟩
    simpa using blk_set HB.out 2 (.int .i64 (max n 0))
  have FIN := Aside0.mk fin
  clear fin
  go_enter Try.func11, Try.ntmps11
  go_wp2
  · go_end0
    exact ⟨rfl, FIN.out _ (by omega)⟩
  · go_end0
    exact ⟨rfl, FIN.out _ (by omega)⟩

set_option maxHeartbeats 2000000 in
set_option maxRecDepth 100000 in
theorem bytes_calls (p : Nat) (g : Option Nat) (zs : List Int) (s f : Int) (d : Bool) (w : World) (h : St 44 w p g zs s f d) (hz : zs.length ≤ 140737488355328) :
    Calls Try.prog 13 #[.pointer (some ⟨p, 0, none⟩)] w fun e w' => ∃ v' g', e = .returned v' ∧ Rw w' v' g' (nums .u8 zs) ∧ (∀ b, g' = some b → w.heap.size ≤ b) ∧ Below w.heap.size w w' := by
  obtain ⟨ao, cap, hb, hr, hl, hn⟩ := h.zs
  have qe := q24
  have hc0 : w.cell? ⟨p, 0, none⟩ = some (.slice ao zs.length cap) := (blk_cell hb 0).trans rfl
  have HC := Aside0.mk (clone_calls _ (g.getD 0) zs w hr.ar hz)
  clear h hb hr hn hz
  go_enter Try.func13, Try.ntmps13
  go_wp2_with fail
  refine HC.out.mono ?_
  rintro e w2 ⟨v', g', rfl, h1, h2, h3⟩
  have H1 := Aside0.mk h1
  have H3 := Aside0.mk h3
  clear h1 h3
  go_wp2
  go_ret
  exact ⟨_, g', rfl, H1.out, h2, H3.out⟩

set_option maxHeartbeats 2000000 in
set_option maxRecDepth 100000 in
theorem sync_calls (p : Nat) (g : Option Nat) (zs : List Int) (s f : Int) (d : Bool) (w : World) (h : St 44 w p g zs s f d) (hf : f ≤ 9223372036854775807) :
    Calls Try.prog 10 #[.pointer (some ⟨p, 0, none⟩)] w fun e w' => e = .returned (.int .i64 (er f d 1)) ∧ St 44 w' p g zs (sy f d 1 zs.length s) (fz f d 1) (dn f d 1) ∧ Tc (fun k => k = p) w w' := by
  obtain ⟨ao, cap, hb, hr, hl, hn⟩ := h.zs
  have qe := q24
  have HC := Aside0.mk (burn_calls p _ s f d 1 true w hb (by omega) hf)
  have HR := Aside0.mk hr
  have HN := Aside0.mk hn
  have HL := Aside0.mk (blk_lt hb)
  clear h hb hr hn
  go_enter Try.func10, Try.ntmps10
  go_wp2_with fail
  refine HC.out.mono ?_
  rintro e w2 ⟨rfl, h1, h2⟩
  have hc0 : w2.cell? ⟨p, 0, none⟩ = some (.slice ao zs.length cap) := (blk_cell h1 0).trans rfl
  have hc1 : w2.cell? ⟨p, 1, none⟩ = some (.int .i64 s) := (blk_cell h1 1).trans rfl
  have hf1 := blk_frozen h1 1
  have H1 := Aside0.mk h1
  have H2 := Aside0.mk h2
  clear h1 h2
  have HS := Aside0.mk (show ∀ x : Int, St 44 (w2.setCell ⟨p, 1, none⟩ (.int .i64 x)) p g zs x (fz f d 1) (dn f d 1) ∧ Tc (fun k => k = p) w (w2.setCell ⟨p, 1, none⟩ (.int .i64 x)) from fun x => by
    have hT := Tc.set (S := fun k => k = p) (a := w) H2.out ⟨p, 1, none⟩ (.int .i64 x) (fun _ => rfl)
    refine ⟨⟨HN.out, _, ?_, HR.out.off hT HN.out⟩, hT⟩
    simpa using blk_set H1.out 1 (.int .i64 x))
  have HU := Aside0.mk (show St 44 w2 p g zs s (fz f d 1) (dn f d 1) from ⟨HN.out, _, H1.out, HR.out.off H2.out HN.out⟩)
  obtain ⟨k, hk⟩ : ∃ k, okB f d 1 = k := ⟨_, rfl⟩
  have HK := Aside0.mk hk
  rw [hk]
  clear hk
  cases k with
  | true =>
    go_wp2
    go_ret
    exact ⟨by simp [er, HK.out], by simpa [sy, HK.out] using (HS.out _).1, (HS.out _).2⟩
  | false =>
    go_wp2
    go_ret
    exact ⟨by simp [er, HK.out], by simpa [sy, HK.out] using HU.out, H2.out⟩

def wr (zs b : List Int) (f : Int) (d : Bool) : List Int := zs ++ b.take (tk f d b.length false).toNat
theorem tk_range (f : Int) (d : Bool) (n : Int) (wh : Bool) (h : 0 ≤ n) : 0 ≤ tk f d n wh ∧ tk f d n wh ≤ n := by
  unfold tk
  split
  · omega
  · split
    · omega
    · split <;> omega
def sw (zs b : List Int) (f : Int) (d : Bool) (n : Int) : List Int := if okB f d n then b else zs
def lsz (b : List Int) : Int := b.length

set_option maxHeartbeats 2000000 in
set_option maxRecDepth 100000 in
theorem write_calls (p gb : Nat) (g : Option Nat) (zs bs : List Int) (s f : Int) (d : Bool) (v : Value) (w : World) (h : St 44 w p g zs s f d) (hb : Ar w v gb bs) (hgb : gb ≠ p) (hf : f ≤ 9223372036854775807) (hz : zs.length + bs.length ≤ 140737488355328) :
    Calls Try.prog 9 #[.pointer (some ⟨p, 0, none⟩), v] w fun e w' => e = .returned (.int .i64 (er f d bs.length)) ∧ ∃ g', St 44 w' p g' (wr zs bs f d) s (fz f d bs.length) (dn f d bs.length) ∧ Tc (fun k => k = p ∨ some k = g) w w' ∧ (g' = g ∨ ∀ b, g' = some b → w.heap.size ≤ b) := by
  obtain ⟨i0, hi, hz0, hz1, hz2⟩ := info_parts i5
  obtain ⟨ao, cap, hp, hr, hl, hn⟩ := h.zs
  have qe := q24
  have HT := Aside0.mk (tk_range f d bs.length false (by omega))
  obtain ⟨n, hn'⟩ : ∃ n, tk f d bs.length false = n := ⟨_, rfl⟩
  have HC := Aside0.mk (burn_calls p _ s f d bs.length false w hp (by omega) hf)
  rw [hn'] at HC HT
  have HNN := Aside0.mk hn'
  have HR := Aside0.mk hr
  have HN := Aside0.mk hn
  have HL := Aside0.mk (blk_lt hp)
  have HA := Aside0.mk hb
  have HGB := Aside0.mk hgb
  have HZ := Aside0.mk hz
  have HF := Aside0.mk hf
  obtain ⟨ab, offb, capb, rfl, hb1, hb2, hb3, hb4⟩ := hb.shape
  have hcut := cut_to (P := Try.prog) 22 5 .i64 Try.underlying22 hi ab bs.length capb n HT.out.1 HT.out.2 hb1
  clear h hp hr hn hb hgb hz hb1 hb2 hb3 hb4 hn' hf
  go_enter Try.func9, Try.ntmps9
  go_wp2_with fail
  refine HC.out.mono ?_
  rintro e w2 ⟨rfl, h1, h2⟩
  have hc0 : w2.cell? ⟨p, 0, none⟩ = some (.slice ao zs.length cap) := (blk_cell h1 0).trans rfl
  have hf0 := blk_frozen h1 0
  have HR2 := Aside0.mk (HR.out.off h2 HN.out)
  have HA2 := Aside0.mk ((HA.out.tc h2 (fun _ e => HGB.out e)).take n.toNat (by have := HT.out; omega))
  have hlt : (bs.take n.toNat).length = n.toNat := by rw [List.length_take]; have := HT.out; omega
  have H1 := Aside0.mk h1
  have H2 := Aside0.mk h2
  have HLT := Aside0.mk hlt
  clear h1 h2 hlt
  obtain ⟨k, hk⟩ : ∃ k, okB f d bs.length = k := ⟨_, rfl⟩
  have HK := Aside0.mk hk
  rw [hk]
  clear hk
  have HPL := Aside0.mk (blk_lt H1.out)
  have HSB := Aside0.mk (show (nums .u8 zs).length + (bs.take n.toNat).length ≤ 140737488355328 by rw [nums_len, List.length_take]; have := HZ.out; omega)
  go_wp2_with fail
  go_region_law (refine step_append_rw rfl (.tmp 20) (.tmp 23) 22 22 rfl 5 i0 (.int .u8 0) Try.underlying22 hi hz0 hz1 hz2 rfl (.slice ao zs.length cap) g (nums .u8 zs) (by simp [Act.eval, Act.put]) (Rw.keep HR2.out (Nat.le_refl _) (fun _ _ _ => rfl)) (.slice ab n.toNat capb) _ (nums .u8 (bs.take n.toNat)) (by simp [Act.eval, Act.put]) (Ar.src (Ar.keep HA2.out (Nat.le_refl _) (fun _ => rfl))) HSB.out ?_; intro v' w3 g' r1 r2 r3; have HB3 := Aside0.mk ((r2.block p HPL.out HN.out).trans H1.out); have R1 := Aside0.mk r1; have R2 := Aside0.mk r2; have R3 := Aside0.mk r3; clear r2 r3; obtain ⟨ao', cap', rfl, hl', hm', ha'⟩ := r1.len; clear r1 hl' hm' ha'; have hc0' : w3.cell? ⟨p, 0, none⟩ = some (.slice ao zs.length cap) := (blk_cell HB3.out 0).trans rfl; have hf0' := blk_frozen HB3.out 0)
  all_goals
    have hpg : some p ≠ g' := by
      rcases R3.out with rfl | h
      · exact HN.out
      · have := HPL.out
        intro e
        rw [← e] at h
        exact absurd (Option.some.inj h) (Nat.ne_of_lt this)
    have hfin := Aside0.mk (show St 44 (w3.setCell ⟨p, 0, none⟩ (.slice ao' (nums .u8 zs ++ nums .u8 (bs.take n.toNat)).length cap')) p g' (wr zs bs f d) s (fz f d bs.length) (dn f d bs.length) ∧ Tc (fun k => k = p ∨ some k = g) w (w3.setCell ⟨p, 0, none⟩ (.slice ao' (nums .u8 zs ++ nums .u8 (bs.take n.toNat)).length cap')) ∧ (g' = g ∨ ∀ b, g' = some b → w.heap.size ≤ b) from by
      have hT1 : Tc (fun k => k = p) w w2.drew := ⟨H2.out.os, H2.out.tape, H2.out.output, H2.out.size, H2.out.block⟩
      have hT2 : Tc (fun k => k = p ∨ some k = g) w w3 := (hT1.then (T := fun k => k = p ∨ some k = g) (Tc.refl (fun k => k = p) _) (fun _ _ e => .inl e) (fun _ _ e => .inl e)).grown R2.out (fun i e _ => .inr e.symm)
      have hT3 := hT2.set ⟨p, 0, none⟩ (.slice ao' (nums .u8 zs ++ nums .u8 (bs.take n.toNat)).length cap') (fun _ => .inl rfl)
      refine ⟨⟨hpg, .slice ao' (nums .u8 zs ++ nums .u8 (bs.take n.toNat)).length cap', by simpa using blk_set HB3.out 0 (.slice ao' (nums .u8 zs ++ nums .u8 (bs.take n.toNat)).length cap'), ?_⟩, hT3, ?_⟩
      · have e1 : nums .u8 (wr zs bs f d) = nums .u8 zs ++ nums .u8 (bs.take n.toNat) := by simp [wr, nums, HNN.out]
        rw [e1]
        exact R1.out.keep (by simp [World.setCell]) (fun b e _ => Below.heap_setCell w3 ⟨p, 0, none⟩ _ b (fun h => hpg (by rw [e, h])))
      · rcases R3.out with h | h
        · exact .inl h
        · right; intro b e; rw [h] at e; cases e; exact hT1.size)
    simp only [List.length_append] at hfin
    clear hpg
    cases k with
    | true =>
      go_wp2
      go_ret
      exact ⟨by simp [er, HK.out], g', hfin.out⟩
    | false =>
      go_wp2
      go_ret
      exact ⟨by simp [er, HK.out], g', hfin.out⟩

set_option maxHeartbeats 2000000 in
set_option maxRecDepth 100000 in
theorem swap_calls (p gb : Nat) (g : Option Nat) (zs bs : List Int) (s f : Int) (d : Bool) (v : Value) (w : World) (h : St 44 w p g zs s f d) (hb : Ar w v gb bs) (hgb : gb ≠ p) (hf : f ≤ 9223372036854775807) (hz : bs.length ≤ 140737488355328) :
    Calls Try.prog 18 #[.pointer (some ⟨p, 0, none⟩), v] w fun e w' => e = .returned (.int .i64 (er f d (bs.length + 1))) ∧ ∃ g', St 44 w' p g' (sw zs bs f d (bs.length + 1)) (sy f d (bs.length + 1) bs.length s) (fz f d (bs.length + 1)) (dn f d (bs.length + 1)) ∧ Tc (fun k => k = p ∨ some k = g) w w' ∧ (g' = g ∨ ∀ b, g' = some b → w.heap.size ≤ b) := by
  obtain ⟨ao, cap, hp, hr, hl, hn⟩ := h.zs
  have qe := q24
  have hw1 : wrap64 ((bs.length : Int) + 1) = (bs.length : Int) + 1 := by unfold wrap64; omega
  have HC := Aside0.mk (burn_calls p _ s f d (bs.length + 1) true w hp (by omega) hf)
  have HR := Aside0.mk hr
  have HN := Aside0.mk hn
  have HL := Aside0.mk (blk_lt hp)
  have HA := Aside0.mk hb
  have HGB := Aside0.mk hgb
  have HZ := Aside0.mk hz
  obtain ⟨ab, offb, capb, rfl, hb1, hb2, hb3, hb4⟩ := hb.shape
  clear h hp hr hn hb hgb hz hb1 hb2 hb3 hb4 hf
  go_enter Try.func18, Try.ntmps18
  go_wp2_with fail
  refine HC.out.mono ?_
  rintro e w2 ⟨rfl, h1, h2⟩
  have HCL := Aside0.mk (clone_calls _ gb bs w2 (HA.out.tc h2 (fun _ e => HGB.out e)) HZ.out)
  have H1 := Aside0.mk h1
  have H2 := Aside0.mk h2
  clear h1 h2
  have HU := Aside0.mk (show St 44 w2 p g zs s (fz f d (bs.length + 1)) (dn f d (bs.length + 1)) from ⟨HN.out, _, H1.out, HR.out.off H2.out HN.out⟩)
  obtain ⟨k, hk⟩ : ∃ k, okB f d (bs.length + 1) = k := ⟨_, rfl⟩
  have HK := Aside0.mk hk
  rw [hk]
  clear hk
  cases k with
  | false =>
    go_wp2
    go_ret
    exact ⟨by simp [er, HK.out], g, by simpa [sy, sw, HK.out] using HU.out, H2.out.then (S' := fun k => k = p) (Tc.refl _ _) (fun _ _ e => .inl e) (fun _ _ e => .inl e), .inl rfl⟩
  | true =>
    go_wp2_with fail
    refine HCL.out.mono ?_
    rintro e w3 ⟨v', g', rfl, h3, h4, h5⟩
    have hb3 := blk_below H1.out h5
    have hc0' : w3.cell? ⟨p, 0, none⟩ = some (.slice ao zs.length cap) := (blk_cell hb3 0).trans rfl
    have hc1' : w3.cell? ⟨p, 1, none⟩ = some (.int .i64 s) := (blk_cell hb3 1).trans rfl
    have hf0' := blk_frozen hb3 0
    have hf1' := blk_frozen hb3 1
    have HB3 := Aside0.mk hb3
    have H3 := Aside0.mk h3
    have H4 := Aside0.mk h4
    have H5 := Aside0.mk h5
    clear hb3 h4 h5
    obtain ⟨ao', cap', rfl, hl', hm', ha'⟩ := h3.len
    clear h3 hl' hm' ha'
    have hpg : some p ≠ g' := by
      intro e
      have h1 := blk_lt H1.out
      have h2 := H4.out p e.symm
      omega
    have hfin := Aside0.mk (show ∀ w4, w4 = (w3.setCell ⟨p, 0, none⟩ (.slice ao' (nums .u8 bs).length cap')).setCell ⟨p, 1, none⟩ (.int .i64 bs.length) → St 44 w4 p g' bs bs.length (fz f d (bs.length + 1)) (dn f d (bs.length + 1)) ∧ Tc (fun k => k = p ∨ some k = g) w w4 ∧ (g' = g ∨ ∀ b, g' = some b → w.heap.size ≤ b) from fun w4 hw4 => by
      subst hw4
      have hT1 : Tc (fun k => k = p ∨ some k = g) w w3 := H2.out.then (S' := fun k => False) (Tc.ofBelow H5.out) (fun _ _ e => .inl e) (fun _ _ e => e.elim)
      have hT3 := (hT1.set ⟨p, 0, none⟩ (.slice ao' (nums .u8 bs).length cap') (fun _ => .inl rfl)).set ⟨p, 1, none⟩ (.int .i64 bs.length) (fun _ => .inl rfl)
      refine ⟨⟨hpg, .slice ao' (nums .u8 bs).length cap', ?_, ?_⟩, hT3, ?_⟩
      · have := blk_set (blk_set HB3.out 0 (.slice ao' (nums .u8 bs).length cap')) 1 (.int .i64 bs.length)
        simpa using this
      · refine H3.out.keep (by simp [World.setCell]) (fun b e _ => ?_)
        have hne : b ≠ p := fun h => hpg (by rw [e, h])
        exact (Below.heap_setCell _ ⟨p, 1, none⟩ _ b hne).trans (Below.heap_setCell w3 ⟨p, 0, none⟩ _ b hne)
      · exact .inr (fun b e => Nat.le_trans H2.out.size (H4.out b e)))
    clear hpg
    go_wp2
    go_ret
    exact ⟨by simp [er, HK.out], g', by simpa [sw, sy, HK.out] using hfin.out _ rfl⟩

theorem cut3 (ao : Option Addr) (n c : Nat) (j : Int) (h0 : 0 ≤ j) (h1 : j ≤ n) (h2 : n ≤ c) (W : World) :
    (Instr.slice 22 (.slice ao n c) none (some (.int .i64 j)) (some (.int .i64 j))).run Try.prog W = .ok (.slice ao j.toNat j.toNat) W := by
  obtain ⟨i0, hi, hz0, hz1, hz2⟩ := info_parts i5
  have ha : (ao.map fun x => x.add 0) = ao := by cases ao <;> simp [Addr.add]
  have hj : (j.toNat : Int) = j := Int.toNat_of_nonneg h0
  have hm : max j 0 = j := by omega
  simp [Instr.slice, run_underlying Try.underlying22, Instr.sliceBounds, Instr.sliceBound, asIntOf, sizeOf, typeInfo, hi, hz1, go_sem, ha, h0, show j ≤ (c : Int) by omega, hj, hm]

theorem run_mx {P : Program} {w : World} (ts : Array TypeId) (t : TypeId) (k k' : IntKind) (x y : Int) : (Builtin.max_ ts t #[.int k x, .int k' y]).run P w = .ok (.int k (max x y)) w := by
  simp only [Builtin.max_, List.foldlM_cons, List.foldlM_nil, Builtin.max2, go_sem]
  simp
  split <;> omega
theorem run_mn {P : Program} {w : World} (ts : Array TypeId) (t : TypeId) (k k' : IntKind) (x y : Int) : (Builtin.min_ ts t #[.int k x, .int k' y]).run P w = .ok (.int k (min x y)) w := by
  simp only [Builtin.min_, List.foldlM_cons, List.foldlM_nil, Builtin.min2, go_sem]
  simp
  split <;> omega
attribute [local go_sem 5000] run_mx run_mn
set_option maxHeartbeats 4000000 in
set_option maxRecDepth 100000 in
theorem crash_calls (p : Nat) (g : Option Nat) (zs : List Int) (s f : Int) (d : Bool) (n : Int) (w : World) (h : St 44 w p g zs s f d) (hs0 : 0 ≤ s) (hs1 : s ≤ zs.length) (hz : zs.length ≤ 140737488355328) (hn : n ≤ 9223372036854775807) :
    Calls Try.prog 12 #[.pointer (some ⟨p, 0, none⟩), .int .i64 n] w fun e w' => e = .returned (.tuple #[]) ∧ St 44 w' p g (zs.take (s + min (max n 0) (zs.length - s)).toNat) (s + min (max n 0) (zs.length - s)) (-1) false ∧ Tc (fun k => k = p) w w' := by
  obtain ⟨ao, cap, hp, hr, hl, hpg⟩ := h.zs
  have qe := q24
  have hc0 : w.cell? ⟨p, 0, none⟩ = some (.slice ao zs.length cap) := (blk_cell hp 0).trans rfl
  have hc1 : w.cell? ⟨p, 1, none⟩ = some (.int .i64 s) := (blk_cell hp 1).trans rfl
  have hc2 : w.cell? ⟨p, 2, none⟩ = some (.int .i64 f) := (blk_cell hp 2).trans rfl
  have hc3 : w.cell? ⟨p, 3, none⟩ = some (.bool d) := (blk_cell hp 3).trans rfl
  have hf0 := blk_frozen hp 0
  have hf1 := blk_frozen hp 1
  have hf2 := blk_frozen hp 2
  have hf3 := blk_frozen hp 3
  have HP := Aside0.mk hp
  have HR := Aside0.mk hr
  have HN := Aside0.mk hpg
  clear h hp hr hpg
  obtain ⟨M, hM⟩ : ∃ M, min (max n 0) ((zs.length : Int) - s) = M := ⟨_, rfl⟩
  have hM1 : 0 ≤ M ∧ M ≤ (zs.length : Int) - s := by omega
  have HM1 := Aside0.mk hM1
  obtain ⟨J, hJ⟩ : ∃ J, s + M = J := ⟨_, rfl⟩
  have HJ := Aside0.mk hJ
  have HJ1 := Aside0.mk (show 0 ≤ J ∧ J ≤ zs.length by omega)
  have hw1 : IntKind.i64.wrap ((zs.length : Int) - s) = (zs.length : Int) - s := IntWalk.i64_in _ (by omega)
  have hw2 : IntKind.i64.wrap (s + M) = J := by rw [hJ]; exact IntWalk.i64_in _ (by omega)
  have hcut := cut3 ao zs.length cap J HJ1.out.1 HJ1.out.2 hl
  rw [hM, hJ]
  clear hM1 hJ
  go_enter Try.func12, Try.ntmps12
  go_wp2_with fail
  go_still (by kernel_rfl)
  go_wp2_with fail
  obtain ⟨w2, hw2⟩ : ∃ w2, w2 = (w.setCell ⟨p, 1, none⟩ (.int .i64 J)).drew := ⟨_, rfl⟩
  rw [← hw2]
  have hb2 : w2.heap[p]? = some (.cells #[.slice ao zs.length cap, .int .i64 J, .int .i64 f, .bool d] 44 (0, 0)) := by
    rw [hw2]
    show (w.setCell ⟨p, 1, none⟩ (.int .i64 J)).heap[p]? = _
    have := blk_set HP.out 1 (.int .i64 J)
    simpa using this
  have HT2 := Aside0.mk (show Tc (fun k => k = p) w w2 from by
    rw [hw2]
    have := Tc.set (S := fun k => k = p) (a := w) (b := w) (Tc.refl _ _) ⟨p, 1, none⟩ (.int .i64 J) (fun _ => rfl)
    exact ⟨this.os, this.tape, this.output, this.size, this.block⟩)
  clear hw2
  have hd0 : w2.cell? ⟨p, 0, none⟩ = some (.slice ao zs.length cap) := (blk_cell hb2 0).trans rfl
  have hd1 : w2.cell? ⟨p, 1, none⟩ = some (.int .i64 J) := (blk_cell hb2 1).trans rfl
  have hd2 : w2.cell? ⟨p, 2, none⟩ = some (.int .i64 f) := (blk_cell hb2 2).trans rfl
  have hd3 : w2.cell? ⟨p, 3, none⟩ = some (.bool d) := (blk_cell hb2 3).trans rfl
  have he0 := blk_frozen hb2 0
  have he2 := blk_frozen hb2 2
  have he3 := blk_frozen hb2 3
  have HB2 := Aside0.mk hb2
  clear hb2 hc0 hc1 hc2 hc3 hf0 hf1 hf2 hf3
  refine wp_region_still_tail 14 (by kernel_rfl) (by kernel_rfl) ?_
  simp only [List.take_succ_cons, List.take_zero, List.drop_succ_cons, List.drop_zero]
  show wpStill Try.prog _ (World.drew w2) (fun a' => wpList Try.prog _ _ _ a' (World.drew w2)) _ _
  repeat still_step
  refine wpStill_nil ?_
  go_wp2
  go_end0
  have hT := Tc.set (S := fun k => k = p) (Tc.set (S := fun k => k = p) (Tc.set (S := fun k => k = p) HT2.out ⟨p, 0, none⟩ (.slice ao J.toNat J.toNat) (fun _ => rfl)) ⟨p, 2, none⟩ (.int .i64 (-1)) (fun _ => rfl)) ⟨p, 3, none⟩ (.bool false) (fun _ => rfl)
  refine ⟨rfl, ⟨HN.out, .slice ao J.toNat J.toNat, ?_, ?_⟩, ⟨hT.os, hT.tape, hT.output, hT.size, hT.block⟩⟩
  · show (((w2.setCell ⟨p, 0, none⟩ (.slice ao J.toNat J.toNat)).setCell ⟨p, 2, none⟩ (.int .i64 (-1))).setCell ⟨p, 3, none⟩ (.bool false)).heap[p]? = _
    have := blk_set (blk_set (blk_set HB2.out 0 (.slice ao J.toNat J.toNat)) 2 (.int .i64 (-1))) 3 (.bool false)
    simpa using this
  · have hr := (HR.out.cut J.toNat (by rw [nums_len]; have := HJ1.out; omega)).off hT HN.out
    have e1 : (nums .u8 zs).take J.toNat = nums .u8 (zs.take J.toNat) := by simp [nums, List.map_take]
    rw [e1] at hr
    exact hr.keep (Nat.le_refl _) (fun _ _ _ => rfl)
end Go.Proofs.Ytnfnalalpligiaa.X
