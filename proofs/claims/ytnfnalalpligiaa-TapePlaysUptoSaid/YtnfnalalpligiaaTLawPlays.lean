/- TapePlays: its walk. -/
import Derived.Test.YtnfnalalpligiaaTOwn
import Derived.Test.YtnfnalalpligiaaHOps
import Derived.Deep.RegionWith
import Derived.Deep.DeepCutAuto
import Derived.Deep.CutBlock
namespace Go.Proofs.Ytnfnalalpligiaa.X
open Go.RowKit Go.Proofs.YtnfnalalpligiaaW.PrintWords Go.Proofs.YtnfnalalpligiaaW.PrintLast Go.Proofs.YtnfnalalpligiaaW.PrintMore
set_option linter.unusedVariables false
set_option linter.unusedSimpArgs false

theorem at_T37 {w : World} {A : Option Addr} {n : Nat} {xs : List S37} (h : Kd.C k37 w A n xs) (k : Nat) (hk : k < n) (x : S37) (hx : xs.getD k z37 = x) : ∃ ad Ab cb, A = some ad ∧ w.cell? (ad.add (k * 3)) = some (.int .i64 x.f0) ∧
    w.cell? ⟨(ad.add (k * 3)).block, (ad.add (k * 3)).off + 1, none⟩ = some (.int .i64 x.f1) ∧ w.cell? ⟨(ad.add (k * 3)).block, (ad.add (k * 3)).off + 2, none⟩ = some (.slice Ab x.f2.length cb) ∧
    x.f2.length ≤ cb ∧ Kd.C (Kd.int .u8) w Ab x.f2.length x.f2 := by
  obtain ⟨ad, c, e, _, hK, hc0⟩ := Kd.C_get h z37 (k : Int) (by omega) (by omega)
  simp only [Int.toNat_natCast] at hK hc0
  rw [hx] at hK
  have hc : ∀ j u, c[j]? = some u → w.cell? (ad.add (k * 3 + j)) = some u := hc0
  obtain ⟨_, _, rfl, g0, ⟨_, _, rfl, g1, g2⟩⟩ := hK
  cases g0
  cases g1
  obtain ⟨Ab, cb, rfl, h1, h2⟩ := g2
  exact ⟨ad, Ab, cb, e, hc 0 _ rfl, by rw [← add_field _ _ 1 (by omega)]; exact hc 1 _ rfl, by rw [← add_field _ _ 2 (by omega)]; exact hc 2 _ rfl, h1, h2⟩

/-- a byte is stored into a row -/
theorem Rw.setc {w : World} {a : Option Addr} {n c b : Nat} {zs : List Int} (h : Rw w (.slice a n c) (some b) (nums .u8 zs)) (j : Nat) (hj : j < n) (y : Int) :
    Rw (w.setCell ⟨b, j, none⟩ (.int .u8 y)) (.slice a n c) (some b) (nums .u8 (zs.set j y)) := by
  obtain ⟨ao, cap, e, hm, hg, hc⟩ := h.shape
  simp only [Value.slice.injEq] at e
  obtain ⟨rfl, rfl, rfl⟩ := e
  have hl : (nums .u8 (zs.set j y)).length = (nums .u8 zs).length := by simp [nums]
  have hlt : j < zs.length := by simpa [nums] using hj
  refine ⟨⟨a, c, by rw [hl], hm, hg, ?_⟩, fun b' e' => by have := h.lt b' e'; simpa [World.setCell] using this, fun b' e' i hi => by rw [World.frozen?_setCell]; exact h.fr b' e' i (by rw [← hl]; exact hi)⟩
  simp only [Option.getD_some] at hc ⊢
  rw [hl]
  refine ⟨hc.le, hc.addr, fun h0 => by have := hc.lt h0; simpa [World.setCell] using this, by rw [hl, Nat.mul_one], fun i u hi => ?_, fun i hi => ?_⟩
  · have hi' := (List.getElem?_eq_some_iff.1 hi).1
    rw [hl] at hi'
    have hold := hc.olds i _ (List.getElem?_eq_getElem hi')
    by_cases hij : i = j
    · subst hij
      rw [Nat.zero_add] at hold ⊢
      rw [World.cell?_setCell_same _ _ _ hold]
      have : (nums .u8 (zs.set i y))[i]? = some (.int .u8 y) := by simp [nums, hlt]
      rw [this] at hi
      exact hi
    · rw [World.cell?_setCell_other _ _ _ _ (fun e => hij (by simpa using (congrArg Addr.off e).symm))]
      have : (nums .u8 (zs.set j y))[i]? = (nums .u8 zs)[i]? := by simp [nums, List.getElem?_set, Ne.symm hij]
      rw [this] at hi
      exact hc.olds i u hi
  · rw [World.frozen?_setCell, World.cell?_setCell_other _ _ _ _ (fun e => by have := congrArg Addr.off e; simp at this; omega)]
    exact hc.spare i hi
theorem Rw.cellAt {w : World} {a : Option Addr} {n c b : Nat} {zs : List Int} (h : Rw w (.slice a n c) (some b) (nums .u8 zs)) (j : Nat) (hj : j < n) :
    a = some ⟨b, 0, none⟩ ∧ w.cell? ⟨b, j, none⟩ = some (.int .u8 (zs.getD j 0)) ∧ w.frozen? ⟨b, j, none⟩ = false := by
  obtain ⟨ao, cap, e, hm, hg, hc⟩ := h.shape
  simp only [Value.slice.injEq] at e
  obtain ⟨rfl, rfl, rfl⟩ := e
  have hle := hc.le
  have := hc.olds j _ (nums_get (zs := zs) (by simpa [nums] using hj))
  rw [Nat.zero_add] at this
  exact ⟨hc.addr (by omega), this, h.fr b rfl j hj⟩

/-- what the two tapes are, between two acts: the same -/
structure Two (w0 w : World) (p q : Nat) (n : Nat) (g h : Option Nat) (zs : List Int) (s f : Int) (d : Bool) : Prop where
  t : Tp w0.heap.size 44 w p g zs s f d
  u : Tp w0.heap.size 39 w q h zs s f d
  ap : Ap p g q h
  be : Below w0.heap.size w0 w
  s0 : 0 ≤ s
  s1 : s ≤ zs.length
  f1 : f ≤ 9223372036854775807
  z1 : zs.length ≤ n
theorem Two.below {w0 w w' : World} {p q n n' : Nat} {g h : Option Nat} {zs : List Int} {s f : Int} {d : Bool} (t : Two w0 w p q n g h zs s f d) (k : Below w.heap.size w w') (hn : n ≤ n') : Two w0 w' p q n' g h zs s f d :=
  ⟨t.t.below k, t.u.below k, t.ap, below_on t.be k, t.s0, t.s1, t.f1, Nat.le_trans t.z1 hn⟩
/-- a row of the call's own, apart from both -/
structure Mine (w0 w : World) (p q : Nat) (g h : Option Nat) (a : Option Addr) (n c b : Nat) (zs : List Int) : Prop where
  rw : Rw w (.slice a n c) (some b) (nums .u8 zs)
  lo : w0.heap.size ≤ b
  bp : b ≠ p
  bq : b ≠ q
  bg : g ≠ some b
  bh : h ≠ some b

theorem Mine.sym {w0 w : World} {p q : Nat} {g h : Option Nat} {a : Option Addr} {n c b : Nat} {zs : List Int} (m : Mine w0 w p q g h a n c b zs) : Mine w0 w q p h g a n c b zs := ⟨m.rw, m.lo, m.bq, m.bp, m.bh, m.bg⟩
theorem Mine.step {w0 w w' : World} {p q : Nat} {g g' h : Option Nat} {a : Option Addr} {n c b : Nat} {zs : List Int} (m : Mine w0 w p q g h a n c b zs) (tc : Tc (fun k => k = p ∨ some k = g) w w') (gg : g' = g ∨ ∀ x, g' = some x → w.heap.size ≤ x) : Mine w0 w' p q g' h a n c b zs := by
  refine ⟨m.rw.tc tc (fun b' e he => ?_), m.lo, m.bp, m.bq, ?_, m.bh⟩
  · cases e
    rcases he with he | he
    · exact m.bp he
    · exact m.bg he.symm
  · rcases gg with rfl | gg
    · exact m.bg
    · intro e
      have h1 := gg b e
      have h2 := m.rw.lt b rfl
      omega
theorem Mine.below {w0 w w' : World} {p q : Nat} {g h : Option Nat} {a : Option Addr} {n c b : Nat} {zs : List Int} (m : Mine w0 w p q g h a n c b zs) (k : Below w.heap.size w w') : Mine w0 w' p q g h a n c b zs :=
  ⟨m.rw.tc (S := fun _ => False) (Tc.ofBelow k) (fun _ _ h => h), m.lo, m.bp, m.bq, m.bg, m.bh⟩
theorem Mine.set {w0 w : World} {p q : Nat} {g h : Option Nat} {a : Option Addr} {n c b : Nat} {zs : List Int} (m : Mine w0 w p q g h a n c b zs) (j : Nat) (hj : j < n) (y : Int) : Mine w0 (w.setCell ⟨b, j, none⟩ (.int .u8 y)) p q g h a n c b (zs.set j y) :=
  ⟨m.rw.setc j hj y, m.lo, m.bp, m.bq, m.bg, m.bh⟩
theorem Two.set {w0 w : World} {p q n : Nat} {g h : Option Nat} {zs : List Int} {s f : Int} {d : Bool} (t : Two w0 w p q n g h zs s f d) {a : Option Addr} {n' c b : Nat} {zi : List Int} (m : Mine w0 w p q g h a n' c b zi) (j : Nat) (u : Value) : Two w0 (w.setCell ⟨b, j, none⟩ u) p q n g h zs s f d := by
  have k := Tc.set (S := fun k => k = b) (a := w) (b := w) (Tc.refl _ _) ⟨b, j, none⟩ u (fun _ => rfl)
  exact ⟨t.t.on k (fun e => m.bp e.symm) (fun b' e1 e => m.bg (by rw [e1, e])), t.u.on k (fun e => m.bq e.symm) (fun b' e1 e => m.bh (by rw [e1, e])), t.ap, t.be.setCell (p := ⟨b, j, none⟩) m.lo u, t.s0, t.s1, t.f1, t.z1⟩
theorem Two.both {w0 w w1 w2 : World} {p q n n' : Nat} {g h g' h' : Option Nat} {zs zs' : List Int} {s f s' f' : Int} {d d' : Bool} (t : Two w0 w p q n g h zs s f d) (d1 : Done 44 w0 w w1 p g zs' s' f' d' g') (d2 : Done 39 w0 w1 w2 q h zs' s' f' d' h')
    (k0 : 0 ≤ s') (k1 : s' ≤ zs'.length) (k2 : f' ≤ 9223372036854775807) (k3 : zs'.length ≤ n') : Two w0 w2 p q n' g' h' zs' s' f' d' := by
  have u1 := t.u.other t.ap d1.tc d1.gg
  have t2 := d1.tp.other u1.2.symm d2.tc d2.gg
  exact ⟨t2.1, d2.tp, t2.2.symm, d2.be, k0, k1, k2, k3⟩
theorem Mine.both {w0 w w1 w2 : World} {p q : Nat} {g h g' h' : Option Nat} {zs1 zs2 : List Int} {s1 f1 s2 f2 : Int} {d1 d2 : Bool} {a : Option Addr} {n c b : Nat} {zs : List Int} (m : Mine w0 w p q g h a n c b zs) (e1 : Done 44 w0 w w1 p g zs1 s1 f1 d1 g') (e2 : Done 39 w0 w1 w2 q h zs2 s2 f2 d2 h') : Mine w0 w2 p q g' h' a n c b zs :=
  ((m.step e1.tc e1.gg).sym.step e2.tc e2.gg).sym
/-- the reference's fuse is set in place -/
theorem ufuse {w0 w : World} {q : Nat} {h : Option Nat} {zs : List Int} {s f : Int} {d : Bool} (t : Tp w0.heap.size 39 w q h zs s f d) (hb : Below w0.heap.size w0 w) (n : Int) : Done 39 w0 w (w.setCell ⟨q, 2, none⟩ (.int .i64 n)) q h zs s n d h := by
  obtain ⟨h0, v, h1, h2⟩ := t.st
  have k := Tc.set (S := fun k => k = q) (a := w) (b := w) (Tc.refl _ _) ⟨q, 2, none⟩ (.int .i64 n) (fun _ => rfl)
  refine .mk1 t hb ⟨h0, v, ?_, h2.off k h0⟩ (k.wide h) (.inl rfl)
  simpa using blk_set h1 2 (.int .i64 n)
theorem ufuse2 {w0 w : World} {q : Nat} {h : Option Nat} {zs : List Int} {s f : Int} {d : Bool} (t : Tp w0.heap.size 39 w q h zs s f d) (hb : Below w0.heap.size w0 w) (m n : Int) : Done 39 w0 w ((w.setCell ⟨q, 2, none⟩ (.int .i64 m)).setCell ⟨q, 2, none⟩ (.int .i64 n)) q h zs s n d h := by
  obtain ⟨h0, v, h1, h2⟩ := t.st
  have k := Tc.set (S := fun k => k = q) (Tc.set (S := fun k => k = q) (a := w) (b := w) (Tc.refl _ _) ⟨q, 2, none⟩ (.int .i64 m) (fun _ => rfl)) ⟨q, 2, none⟩ (.int .i64 n) (fun _ => rfl)
  refine .mk1 t hb ⟨h0, v, ?_, h2.off k h0⟩ (k.wide h) (.inl rfl)
  simpa using blk_set (blk_set h1 2 (.int .i64 m)) 2 (.int .i64 n)
theorem wr_len (zs b : List Int) (f : Int) (d : Bool) : zs.length ≤ (wr zs b f d).length ∧ (wr zs b f d).length ≤ zs.length + b.length := by
  unfold wr
  rw [List.length_append, List.length_take]
  omega
theorem sy_range (f : Int) (d : Bool) (n s : Int) (zs : List Int) (h0 : 0 ≤ s) (h1 : s ≤ zs.length) : 0 ≤ sy f d n zs.length s ∧ sy f d n zs.length s ≤ zs.length := by
  unfold sy; split <;> omega
theorem sw_range (f : Int) (d : Bool) (n s : Int) (zs b : List Int) (h0 : 0 ≤ s) (h1 : s ≤ zs.length) : 0 ≤ sy f d n b.length s ∧ sy f d n b.length s ≤ (sw zs b f d n).length ∧ ((sw zs b f d n).length ≤ zs.length ∨ (sw zs b f d n).length ≤ b.length) := by
  unfold sy sw; split <;> omega
theorem fz_le (f : Int) (d : Bool) (n : Int) (h : f ≤ 9223372036854775807) (hn : 0 ≤ n) : fz f d n ≤ 9223372036854775807 := by
  unfold fz
  split
  · exact h
  · split
    · exact h
    · split <;> omega

set_option maxHeartbeats 16000000 in
set_option maxRecDepth 100000 in
theorem plays_walk (A0 : Option Addr) (c0 : Nat) (l0 : List S37) (w : World) (hr0 : Kd.C k37 w A0 l0.length l0) (hc0 : l0.length ≤ c0) (hN : ∀ x ∈ l0, x.f1 ≤ 9223372036854775807) :
    Calls Try.prog 4 #[.slice A0 l0.length c0] w fun e w' => e = .returned (.bool true) ∧ Below w.heap.size w w' := by
  obtain ⟨i0, hi, hz0, hz1, hz2⟩ := info_parts i5
  have HR := Aside0.mk hr0
  have HN := Aside0.mk hN
  clear hr0 hN
  by_cases k1 : 100 < l0.length
  · have hq1 : decide ((l0.length : Int) > 100) = true := decide_eq_true (by omega)
    clear k1
    go_enter Try.func4, Try.ntmps4
    go_wp2_with fail
    refine (answers_calls w).mono ?_
    rintro e w1 ⟨rfl, hb⟩
    have HB := Aside0.mk hb
    clear hb
    go_wp2
    go_ret
    exact ⟨rfl, HB.out⟩
  have hq1 : decide ((l0.length : Int) > 100) = false := decide_eq_false (by omega)
  have hL : l0.length ≤ 100 := by omega
  clear k1
  go_enter Try.func4, Try.ntmps4
  go_wp2_with fail
  refine (L_new (w0 := w) (Below.refl _ w)).mono ?_
  rintro e w1 ⟨p, rfl, ht, hp, hb, hB⟩
  have T1 := Aside0.mk ht
  have B1 := Aside0.mk hB
  clear ht hp hb hB
  go_wp2_with fail
  refine (R_new (w0 := w) B1.out).mono ?_
  rintro e w2 ⟨q, rfl, hu, hq, hb, hB⟩
  have hpq : p < w1.heap.size := T1.out.st.lt
  have TW := Aside0.mk (show Two w w2 p q 0 none none [] 0 (-1) false from ⟨T1.out.below hb, hu, ⟨by omega, by simp, by simp, fun b e => by cases e⟩, hB, by omega, by simp, by omega, by simp⟩)
  clear hu hq hb hB hpq T1 B1
  go_wp2
  go_loopw [5] (fun i wr => ∃ k : Nat, k ≤ l0.length ∧ i = .int .i64 k ∧ Aside0 (∃ g h zs s f d, Two w wr p q (500 * k) g h zs s f d)) (fun i _ => l0.length - (intOf i).toNat)
  case atStart => exact ⟨0, Nat.zero_le _, rfl, ⟨_, _, _, _, _, _, TW.out⟩⟩
  case round =>
    obtain ⟨k, hkl, rfl, HT⟩ := hrel
    obtain ⟨g, h, zs, s, f, d, ht⟩ := HT.out
    have T2 := Aside0.mk ht
    clear ht HT TW
    by_cases hlt : k < l0.length
    · have hlt' : decide ((k : Int) < l0.length) = true := decide_eq_true (by omega)
      obtain ⟨x, hx⟩ : ∃ x, l0.getD k z37 = x := ⟨_, rfl⟩
      obtain ⟨ad, Ab, cb, rfl, e0, e1, e2, hcb, hC⟩ := at_T37 (Kd.C_below HR.out T2.out.be) k hlt x hx
      have HX := Aside0.mk (show x ∈ l0 by rw [← hx, List.getD_eq_getElem?_getD, List.getElem?_eq_getElem hlt]; simp)
      have HAB := Aside0.mk (show Arg w (.slice Ab x.f2.length cb) x.f2 from by
        obtain ⟨ad', Ab', cb', e', _, _, e2', hcb', hC'⟩ := at_T37 HR.out k hlt x hx
        obtain rfl := Option.some.inj e'
        have hsm : Below w.heap.size w wr := T2.out.be
        have hlt2 := World.block_lt_of_cell? _ _ e2'
        have := (hsm.cell (p := ⟨(ad.add (k * 3)).block, (ad.add (k * 3)).off + 2, none⟩) hlt2).symm.trans e2
        rw [e2'] at this
        obtain ⟨rfl, _, rfl⟩ : Ab' = Ab ∧ True ∧ cb' = cb := by simpa using this
        exact Arg.ofC hC' hcb')
      clear hx hC
      have hwk : IntKind.i64.wrap ((k : Int) + 1) = (k : Int) + 1 := IntWalk.i64_in _ (by omega)
      by_cases c5 : 500 < x.f2.length
      · have hq5 : decide ((x.f2.length : Int) > 500) = true := decide_eq_true (by omega)
        clear c5
        go_wp2
        go_roundw
        case rel => exact ⟨k + 1, by omega, by go_num, ⟨_, _, _, _, _, _, T2.out.below (below_alloc (Below.refl _ wr) _) (by omega)⟩⟩
        case measure => simp [intOf]; omega
      · have hq5 : decide ((x.f2.length : Int) > 500) = false := decide_eq_false (by omega)
        have HX5 := Aside0.mk (show x.f2.length ≤ 500 by omega)
        clear c5
        obtain ⟨wa, hwa⟩ : ∃ wa, wa = wr.alloc (.cells #[.int .i64 x.f0, .int .i64 x.f1, .slice Ab x.f2.length cb] 37) := ⟨_, rfl⟩
        have hba : Below wr.heap.size wr wa := by rw [hwa]; exact below_alloc (Below.refl _ wr) _
        have hia : wa.heap[wr.heap.size]? = some (.cells #[.int .i64 x.f0, .int .i64 x.f1, .slice Ab x.f2.length cb] 37 (0, 0)) := by rw [hwa]; exact heap_alloc_new wr _
        have hsza : wr.heap.size < wa.heap.size := blk_lt hia
        have TA := Aside0.mk (T2.out.below hba (Nat.le_refl _))
        have IA := Aside0.mk hia
        have SZA := Aside0.mk hsza
        have HWA := Aside0.mk hwa
        have ca2 : wa.cell? ⟨wr.heap.size, 2, none⟩ = some (.slice Ab x.f2.length cb) := (blk_cell hia 2).trans rfl
        have ca2' : (wa.alloc (.cells #[] 5)).cell? ⟨wr.heap.size, 2, none⟩ = some (.slice Ab x.f2.length cb) := (blk_cell (blk_alloc hia _) 2).trans rfl
        have HWs := Aside0.mk (show Rw ((wr.alloc (.cells #[.int .i64 x.f0, .int .i64 x.f1, .slice Ab x.f2.length cb] 37)).alloc (.cells #[] 5)) (.slice (some ⟨wr.heap.size + 1, 0, none⟩) 0 0) (some (wr.heap.size + 1)) [] from by
          have h := emp (wr.alloc (.cells #[.int .i64 x.f0, .int .i64 x.f1, .slice Ab x.f2.length cb] 37))
          simpa using h)
        have HAs0 := Aside0.mk (show Src Try.prog 1 22 (.slice Ab x.f2.length cb) x.f2.length (nums .u8 x.f2) (wa.alloc (.cells #[] 5)) from by
          obtain ⟨gb, hg, _⟩ := HAB.out.at (below_alloc TA.out.be (.cells #[] 5)) w.heap.size (Nat.le_refl _)
          exact hg.src)
        have HAs := Aside0.mk (show Src Try.prog 1 22 (.slice Ab x.f2.length cb) x.f2.length (nums .u8 x.f2) ((wr.alloc (.cells #[.int .i64 x.f0, .int .i64 x.f1, .slice Ab x.f2.length cb] 37)).alloc (.cells #[] 5)) from by
          have h := HAs0.out; rw [hwa] at h; exact h)
        clear HAs0 ca2 ca2' hba hia hsza hwa
        go_wp2_with (at_builtin; refine wpList_append_rw _ rfl (.tmp 31) (.tmp 33) 22 22 rfl 5 i0 (.int .u8 0) Try.underlying22 hi hz0 hz1 hz2 rfl _ (some (wr.heap.size + 1)) [] rfl HWs.out _ x.f2.length (nums .u8 x.f2) rfl HAs.out (by have := HX5.out; simpa using (show x.f2.length ≤ 140737488355328 by omega)) ?_)
        intro v5 w5 g5 r1 r2 r3
        have B5 := Aside0.mk (show Below wr.heap.size wr w5 from (below_alloc (below_alloc (Below.refl _ wr) (.cells #[.int .i64 x.f0, .int .i64 x.f1, .slice Ab x.f2.length cb] 37)) (.cells #[] 5)).grown r2 (by first | omega | (simp; omega)) (fun k hk => by cases hk; omega))
        obtain ⟨b5, hb5, hlo5⟩ : ∃ b5, g5 = some b5 ∧ wr.heap.size < b5 := by
          rcases r3 with rfl | rfl
          · exact ⟨_, rfl, by omega⟩
          · exact ⟨_, rfl, by first | omega | (simp; omega)⟩
        have hia5 : w5.heap[wr.heap.size]? = some (.cells #[.int .i64 x.f0, .int .i64 x.f1, .slice Ab x.f2.length cb] 37 (0, 0)) := by
          have h := IA.out
          rw [HWA.out] at h
          exact (r2.block wr.heap.size (by first | omega | (simp; omega)) (by simp)).trans ((Below.heap_alloc _ _ _ (blk_lt h)).trans h)
        subst hb5
        try simp only [List.nil_append] at r1
        obtain ⟨a5, c5, rfl, hl5, hm5, ha5⟩ := r1.len
        obtain ⟨n5, hn5⟩ : ∃ n5, (nums .u8 x.f2).length = n5 := ⟨_, rfl⟩
        have HN5 := Aside0.mk (show n5 = x.f2.length by rw [← hn5, nums_len])
        rw [hn5] at r1 ⊢
        have T5 := Aside0.mk (T2.out.below B5.out (Nat.le_refl _))
        have M5 := Aside0.mk (show Mine w w5 p q g h a5 n5 c5 b5 x.f2 from ⟨r1, by have := T2.out.be.size; omega, by have := T2.out.t.st.lt; omega, by have := T2.out.u.st.lt; omega, fun e => by have := T2.out.t.glt _ e; omega, fun e => by have := T2.out.u.glt _ e; omega⟩)
        have I5 := Aside0.mk hia5
        have NI := Aside0.mk (show wr.heap.size ≠ p ∧ wr.heap.size ≠ q ∧ g ≠ some wr.heap.size ∧ h ≠ some wr.heap.size from ⟨by have := T2.out.t.st.lt; omega, by have := T2.out.u.st.lt; omega, fun e => by have := T2.out.t.glt _ e; omega, fun e => by have := T2.out.u.glt _ e; omega⟩)
        obtain ⟨ia, hia'⟩ : ∃ ia, wr.heap.size = ia := ⟨_, rfl⟩
        rw [hia'] at I5 NI
        have hca0 : w5.cell? ⟨ia, 0, none⟩ = some (.int .i64 x.f0) := (blk_cell I5.out 0).trans rfl
        have hca1 : w5.cell? ⟨ia, 1, none⟩ = some (.int .i64 x.f1) := (blk_cell I5.out 1).trans rfl
        have hca2 : w5.cell? ⟨ia, 2, none⟩ = some (.slice Ab x.f2.length cb) := (blk_cell I5.out 2).trans rfl
        rw [hia']
        clear r1 r2 r3 hl5 hm5 ha5 hn5 hia5 hlo5 HWs HAs TA IA SZA HWA B5 T2 hia' e0 e1 e2
        go_upto_block 2 with (fail)
        go_cut [7, 8] (fun v7 v8 wc => ∃ (er : Int) (g h : Option Nat) (zs : List Int) (s f : Int) (d : Bool), v7 = .int .i64 er ∧ v8 = .int .i64 er ∧ Aside0 (Two w wc p q (500 * (k + 1)) g h zs s f d) ∧ Aside0 (∃ zi, Mine w wc p q g h a5 n5 c5 b5 zi))
        case first =>
          by_cases v0 : x.f0 = 0
          · have hv0 : (x.f0 == 0) = true := by rw [beq_iff_eq]; exact v0
            clear v0
            have hdb : Below w5.heap.size w5 w5.drew := ⟨rfl, rfl, rfl, Nat.le_refl _, fun _ _ => rfl⟩
            have TD := Aside0.mk (T5.out.below hdb (Nat.le_refl _))
            have MD := Aside0.mk (M5.out.below hdb)
            have ID := Aside0.mk (show w5.drew.heap[ia]? = some (.cells #[.int .i64 x.f0, .int .i64 x.f1, .slice Ab x.f2.length cb] 37 (0, 0)) from I5.out)
            have hca2d : w5.drew.cell? ⟨ia, 2, none⟩ = some (.slice Ab x.f2.length cb) := hca2
            have HIN := Aside0.mk (show ∃ gb, Ar w5.drew (.slice a5 n5 c5) gb x.f2 ∧ gb ≠ p from ⟨b5, MD.out.rw.ar, MD.out.bp⟩)
            have HSZ := Aside0.mk (show zs.length + x.f2.length ≤ 140737488355328 by have := TD.out.z1; have := HX5.out; omega)
            clear hdb
            go_wp2_with fail
            go_region_held3 (fun w' => w'.cell? ⟨ia, 2, none⟩ = some (.slice Ab x.f2.length cb)) (first | assumption | exact hca2d | exact hca26 | exact hca27) (first
              | (go_at_call 9; refine (L_write (w0 := w) TD.out.t TD.out.be HIN.out TD.out.f1 HSZ.out).mono ?_; rintro e w6 ⟨rfl, g6, hd⟩; have D1 := Aside0.mk hd; clear hd; have I6 := Aside0.mk ((D1.out.tc.block ia (blk_lt ID.out) (fun e => by rcases e with e | e; (first | exact NI.out.1 e); exact NI.out.2.2.1 e.symm)).trans ID.out); have hca26 : w6.cell? ⟨ia, 2, none⟩ = some (.slice Ab x.f2.length cb) := (blk_cell I6.out 2).trans rfl; have U6 := Aside0.mk (TD.out.u.other TD.out.ap D1.out.tc D1.out.gg); have HIN6 := Aside0.mk (HAB.out.at D1.out.be q TD.out.u.hp))
              | (go_at_call 16; refine (R_write (w0 := w) U6.out.1 D1.out.be HIN6.out TD.out.f1 HSZ.out).mono ?_; rintro e w7 ⟨rfl, h7, hd⟩; have D2 := Aside0.mk hd; clear hd; have hca27 : w7.cell? ⟨ia, 2, none⟩ = some (.slice Ab x.f2.length cb) := (blk_cell ((D2.out.tc.block ia (blk_lt I6.out) (fun e => by rcases e with e | e; (first | exact NI.out.2.1 e); exact NI.out.2.2.2 e.symm)).trans I6.out) 2).trans rfl))
            all_goals
              have TF := Aside0.mk (TD.out.both D1.out D2.out TD.out.s0 (by have := (wr_len zs x.f2 f d).1; have := TD.out.s1; omega) (fz_le _ _ _ TD.out.f1 (by omega)) (show _ ≤ 500 * (k + 1) by have := (wr_len zs x.f2 f d).2; have := TD.out.z1; have := HX5.out; omega))
              have MF := Aside0.mk (MD.out.both D1.out D2.out)
              go_wp2
              go_meet
              case rel => exact ⟨_, _, _, _, _, _, _, rfl, rfl, ⟨TF.out⟩, ⟨_, MF.out⟩⟩
          have hv0 : (x.f0 == 0) = false := by rw [beq_eq_false_iff_ne]; exact v0
          by_cases v1 : x.f0 = 1
          · have hv1 : (x.f0 == 1) = true := by rw [beq_iff_eq]; exact v1
            clear v0 v1
            go_wp2_with fail
            refine (L_sync (w0 := w) T5.out.t T5.out.be T5.out.f1).mono ?_
            rintro e w6 ⟨rfl, hd⟩
            have D1 := Aside0.mk hd
            clear hd
            have U6 := Aside0.mk (T5.out.u.other T5.out.ap D1.out.tc D1.out.gg)
            go_wp2_with fail
            refine (R_sync (w0 := w) U6.out.1 D1.out.be T5.out.f1).mono ?_
            rintro e w7 ⟨rfl, hd⟩
            have D2 := Aside0.mk hd
            clear hd
            have TF := Aside0.mk (T5.out.both D1.out D2.out (sy_range _ _ _ _ _ T5.out.s0 T5.out.s1).1 (sy_range _ _ _ _ _ T5.out.s0 T5.out.s1).2 (fz_le _ _ _ T5.out.f1 (by omega)) (show _ ≤ 500 * (k + 1) by have := T5.out.z1; omega))
            have MF := Aside0.mk (M5.out.both D1.out D2.out)
            go_wp2
            go_meet
            case rel => exact ⟨_, _, _, _, _, _, _, rfl, rfl, ⟨TF.out⟩, ⟨_, MF.out⟩⟩
          have hv1 : (x.f0 == 1) = false := by rw [beq_eq_false_iff_ne]; exact v1
          by_cases v2 : x.f0 = 2
          · have hv2 : (x.f0 == 2) = true := by rw [beq_iff_eq]; exact v2
            clear v0 v1 v2
            have hdb : Below w5.heap.size w5 w5.drew := ⟨rfl, rfl, rfl, Nat.le_refl _, fun _ _ => rfl⟩
            have TD := Aside0.mk (T5.out.below hdb (Nat.le_refl _))
            have MD := Aside0.mk (M5.out.below hdb)
            have ID := Aside0.mk (show w5.drew.heap[ia]? = some (.cells #[.int .i64 x.f0, .int .i64 x.f1, .slice Ab x.f2.length cb] 37 (0, 0)) from I5.out)
            have hca2d : w5.drew.cell? ⟨ia, 2, none⟩ = some (.slice Ab x.f2.length cb) := hca2
            have HIN := Aside0.mk (show ∃ gb, Ar w5.drew (.slice a5 n5 c5) gb x.f2 ∧ gb ≠ p from ⟨b5, MD.out.rw.ar, MD.out.bp⟩)
            have HSZ := Aside0.mk (show zs.length + x.f2.length ≤ 140737488355328 by have := TD.out.z1; have := HX5.out; omega)
            clear hdb
            go_wp2_with fail
            go_region_held3 (fun w' => w'.cell? ⟨ia, 2, none⟩ = some (.slice Ab x.f2.length cb)) (first | assumption | exact hca2d | exact hca26 | exact hca27) (first
              | (go_at_call 18; refine (L_swap (w0 := w) TD.out.t TD.out.be HIN.out TD.out.f1 (by have := HSZ.out; omega)).mono ?_; rintro e w6 ⟨rfl, g6, hd⟩; have D1 := Aside0.mk hd; clear hd; have I6 := Aside0.mk ((D1.out.tc.block ia (blk_lt ID.out) (fun e => by rcases e with e | e; (first | exact NI.out.1 e); exact NI.out.2.2.1 e.symm)).trans ID.out); have hca26 : w6.cell? ⟨ia, 2, none⟩ = some (.slice Ab x.f2.length cb) := (blk_cell I6.out 2).trans rfl; have U6 := Aside0.mk (TD.out.u.other TD.out.ap D1.out.tc D1.out.gg); have HIN6 := Aside0.mk (HAB.out.at D1.out.be q TD.out.u.hp))
              | (go_at_call 19; refine (R_swap (w0 := w) U6.out.1 D1.out.be HIN6.out TD.out.f1 (by have := HSZ.out; omega)).mono ?_; rintro e w7 ⟨rfl, h7, hd⟩; have D2 := Aside0.mk hd; clear hd; have hca27 : w7.cell? ⟨ia, 2, none⟩ = some (.slice Ab x.f2.length cb) := (blk_cell ((D2.out.tc.block ia (blk_lt I6.out) (fun e => by rcases e with e | e; (first | exact NI.out.2.1 e); exact NI.out.2.2.2 e.symm)).trans I6.out) 2).trans rfl))
            all_goals
              have TF := Aside0.mk (TD.out.both D1.out D2.out (sw_range _ _ _ _ _ _ TD.out.s0 TD.out.s1).1 (sw_range _ _ _ _ _ _ TD.out.s0 TD.out.s1).2.1 (fz_le _ _ _ TD.out.f1 (by omega)) (show _ ≤ 500 * (k + 1) by have := (sw_range f d (x.f2.length + 1) s zs x.f2 TD.out.s0 TD.out.s1).2.2; have := TD.out.z1; have := HX5.out; omega))
              have MF := Aside0.mk (MD.out.both D1.out D2.out)
              go_wp2
              go_meet
              case rel => exact ⟨_, _, _, _, _, _, _, rfl, rfl, ⟨TF.out⟩, ⟨_, MF.out⟩⟩
          have hv2 : (x.f0 == 2) = false := by rw [beq_eq_false_iff_ne]; exact v2
          by_cases v3 : x.f0 = 3
          · have hv3 : (x.f0 == 3) = true := by rw [beq_iff_eq]; exact v3
            clear v0 v1 v2 v3
            go_wp2_with fail
            refine (L_fuse (w0 := w) T5.out.t T5.out.be x.f1).mono ?_
            rintro e w6 ⟨rfl, hd⟩
            have D1 := Aside0.mk hd
            clear hd
            have U6 := Aside0.mk (T5.out.u.other T5.out.ap D1.out.tc D1.out.gg)
            have I6 := Aside0.mk ((D1.out.tc.block ia (blk_lt I5.out) (fun e => by rcases e with e | e; (first | exact NI.out.1 e); exact NI.out.2.2.1 e.symm)).trans I5.out)
            have hca16 : w6.cell? ⟨ia, 1, none⟩ = some (.int .i64 x.f1) := (blk_cell I6.out 1).trans rfl
            have hqi : ¬ ia = q := NI.out.2.1
            have hiq : ¬ q = ia := fun e => NI.out.2.1 e.symm
            obtain ⟨au, cu, hbu, _, _, _⟩ := U6.out.1.st.zs
            have hq2 : w6.cell? ⟨q, 2, none⟩ = some (.int .i64 f) := (blk_cell hbu 2).trans rfl
            have hqf := blk_frozen hbu 2
            clear hbu
            have HF := Aside0.mk (HN.out x HX.out)
            by_cases vn : x.f1 < 0
            · have hvn : decide (x.f1 < 0) = true := decide_eq_true vn
              have D2 := Aside0.mk (ufuse2 U6.out.1 D1.out.be x.f1 0)
              have D1' := Aside0.mk (show Done 44 w w5 w6 p g zs s 0 d g from by have h := D1.out; rw [show max x.f1 0 = 0 by omega] at h; exact h)
              clear vn
              have TF := Aside0.mk (T5.out.both D1'.out D2.out T5.out.s0 T5.out.s1 (by omega) (show _ ≤ 500 * (k + 1) by have := T5.out.z1; omega))
              have MF := Aside0.mk (M5.out.both D1'.out D2.out)
              go_wp2
              go_meet
              case rel => exact ⟨_, _, _, _, _, _, _, rfl, rfl, ⟨TF.out⟩, ⟨_, MF.out⟩⟩
            · have hvn : decide (x.f1 < 0) = false := decide_eq_false vn
              have D2 := Aside0.mk (ufuse U6.out.1 D1.out.be x.f1)
              have D1' := Aside0.mk (show Done 44 w w5 w6 p g zs s x.f1 d g from by have h := D1.out; rw [show max x.f1 0 = x.f1 by omega] at h; exact h)
              clear vn
              have TF := Aside0.mk (T5.out.both D1'.out D2.out T5.out.s0 T5.out.s1 HF.out (show _ ≤ 500 * (k + 1) by have := T5.out.z1; omega))
              have MF := Aside0.mk (M5.out.both D1'.out D2.out)
              go_wp2
              go_meet
              case rel => exact ⟨_, _, _, _, _, _, _, rfl, rfl, ⟨TF.out⟩, ⟨_, MF.out⟩⟩
          have hv3 : (x.f0 == 3) = false := by rw [beq_eq_false_iff_ne]; exact v3
          by_cases v4 : x.f0 = 4
          · have hv4 : (x.f0 == 4) = true := by rw [beq_iff_eq]; exact v4
            clear v0 v1 v2 v3 v4
            have HF := Aside0.mk (HN.out x HX.out)
            have HZ5 := Aside0.mk (show zs.length ≤ 140737488355328 by have := T5.out.z1; omega)
            go_wp2_with fail
            refine (L_crash (w0 := w) T5.out.t T5.out.be x.f1 T5.out.s0 T5.out.s1 HZ5.out HF.out).mono ?_
            rintro e w6 ⟨rfl, hd⟩
            have D1 := Aside0.mk hd
            clear hd
            have U6 := Aside0.mk (T5.out.u.other T5.out.ap D1.out.tc D1.out.gg)
            have I6 := Aside0.mk ((D1.out.tc.block ia (blk_lt I5.out) (fun e => by rcases e with e | e; (first | exact NI.out.1 e); exact NI.out.2.2.1 e.symm)).trans I5.out)
            have hca16 : w6.cell? ⟨ia, 1, none⟩ = some (.int .i64 x.f1) := (blk_cell I6.out 1).trans rfl
            go_wp2_with fail
            refine (R_crash (w0 := w) U6.out.1 D1.out.be x.f1 T5.out.s0 T5.out.s1 HZ5.out HF.out).mono ?_
            rintro e w7 ⟨rfl, h7, hd⟩
            have D2 := Aside0.mk hd
            clear hd
            have TF := Aside0.mk (T5.out.both D1.out D2.out (by have := T5.out.s0; have := T5.out.s1; omega) (by rw [List.length_take]; have := T5.out.s0; have := T5.out.s1; omega) (by omega) (show _ ≤ 500 * (k + 1) by rw [List.length_take]; have := T5.out.z1; omega))
            have MF := Aside0.mk (M5.out.both D1.out D2.out)
            go_wp2
            go_meet
            case rel => exact ⟨_, _, _, _, _, _, _, rfl, rfl, ⟨TF.out⟩, ⟨_, MF.out⟩⟩
          have hv4 : (x.f0 == 4) = false := by rw [beq_eq_false_iff_ne]; exact v4
          clear v0 v1 v2 v3 v4
          have TF := Aside0.mk (T5.out.below (Below.refl _ w5) (show 500 * k ≤ 500 * (k + 1) by omega))
          go_wp2
          go_meet
          case rel => exact ⟨_, _, _, _, _, _, _, rfl, rfl, ⟨TF.out⟩, ⟨_, M5.out⟩⟩
        case rest =>
          obtain ⟨er, g, h, zs, s, f, d, rfl, rfl, T6, M6⟩ := hcut
          clear M5 T5 I5 NI hca0 hca1 hca2
          obtain ⟨wo, rfl⟩ : ∃ wo : World, wo = wr := ⟨_, rfl⟩
          go_wp2
          go_loopw [10] (fun i wr => ∃ j : Nat, j ≤ n5 ∧ i = .int .i64 j ∧ Aside0 (Two w wr p q (500 * (k + 1)) g h zs s f d) ∧ Aside0 (∃ zi, Mine w wr p q g h a5 n5 c5 b5 zi)) (fun i _ => n5 - (intOf i).toNat)
          case atStart => exact ⟨0, Nat.zero_le _, rfl, T6, M6⟩
          case round =>
            obtain ⟨j, hj, rfl, TJ, MJ⟩ := hrel
            obtain ⟨zi, hm⟩ := MJ.out
            have hj5 : (n5 : Int) ≤ 500 := by have := HN5.out; have := HX5.out; omega
            clear T6 M6 MJ
            by_cases hjl : j < n5
            · have hjd : decide ((j : Int) < n5) = true := decide_eq_true (by omega)
              obtain ⟨rfl, hcj, hfj⟩ := hm.rw.cellAt j hjl
              have hwj : IntKind.i64.wrap ((j : Int) + 1) = (j : Int) + 1 := IntWalk.i64_in _ (by omega)
              have HM := Aside0.mk hm
              clear hm
              go_wp2
              go_roundw
              case rel => exact ⟨j + 1, by omega, by go_num, ⟨TJ.out.set HM.out j _⟩, ⟨_, HM.out.set j hjl _⟩⟩
              case measure => simp [intOf]; omega
            · have hjd : decide ((j : Int) < n5) = false := decide_eq_false (by omega)
              clear hm
              have hdb : Below wr.heap.size wr wr.drew := ⟨rfl, rfl, rfl, Nat.le_refl _, fun _ _ => rfl⟩
              have TD := Aside0.mk (TJ.out.t.below hdb)
              have UD := Aside0.mk (TJ.out.u.below hdb)
              have BD := Aside0.mk (below_on TJ.out.be hdb)
              have HZL := Aside0.mk (show zs.length ≤ 140737488355328 by have := TJ.out.z1; omega)
              obtain ⟨au, cu, hbu, hru, hlu, hnu⟩ := UD.out.st.zs
              have BU := Aside0.mk hbu
              have RU := Aside0.mk hru
              have hq0 : wr.drew.cell? ⟨q, 0, none⟩ = some (.slice au zs.length cu) := (blk_cell hbu 0).trans rfl
              have hq1 : wr.drew.cell? ⟨q, 1, none⟩ = some (.int .i64 s) := (blk_cell hbu 1).trans rfl
              have hcv : (convert 22 9 (.slice au zs.length cu)).run Try.prog wr.drew = .ok (.string (strOfNums zs)) wr.drew := hru.ar.str cu
              clear hbu hru hlu hnu hdb
              go_wp2_with fail
              go_region_held (fun w' => w'.cell? ⟨q, 0, none⟩ = some (.slice au zs.length cu) ∧ w'.cell? ⟨q, 1, none⟩ = some (.int .i64 s) ∧ (convert 22 9 (.slice au zs.length cu)).run Try.prog w' = .ok (.string (strOfNums zs)) w') (first | assumption | exact ⟨hq0, hq1, hcv⟩ | exact ⟨hq07, hq17, hcv7⟩) (first
                | (go_at_call 13; refine (L_bytes (w0 := w) TD.out BD.out HZL.out).mono ?_; rintro e w7 ⟨ao, cap, bb, rfl, h1, h2, h3, h4, h5⟩; have T7 := Aside0.mk h3; have B7 := Aside0.mk h4; clear h1 h3 h5; have hbu7 := blk_below BU.out B7.out; have hq07 : w7.cell? ⟨q, 0, none⟩ = some (.slice au zs.length cu) := (blk_cell hbu7 0).trans rfl; have hq17 : w7.cell? ⟨q, 1, none⟩ = some (.int .i64 s) := (blk_cell hbu7 1).trans rfl; have hcv7 : (convert 22 9 (.slice au zs.length cu)).run Try.prog w7 = .ok (.string (strOfNums zs)) w7 := (Rw.tc (S := fun _ => False) RU.out (Tc.ofBelow B7.out) (fun _ _ h => h)).ar.str cu; clear hbu7 h4)
                | (go_at_call 14; refine (sure_calls _ _ _ _ _ _ _ T7.out.st).mono ?_; rintro e w8 ⟨rfl, rfl⟩))
              all_goals
                have TF := Aside0.mk (TJ.out.below ⟨B7.out.os, B7.out.tape, B7.out.output, B7.out.size, B7.out.block⟩ (Nat.le_refl _))
                go_wp2
                go_roundw
                case rel => exact ⟨k + 1, by omega, by go_num, ⟨_, _, _, _, _, _, TF.out⟩⟩
                case measure => simp [intOf]; omega
    · have hlt' : decide ((k : Int) < l0.length) = false := decide_eq_false (by omega)
      go_wp2_with fail
      refine (answers_calls _).mono ?_
      rintro e w9 ⟨rfl, hb9⟩
      have HB9 := Aside0.mk (below_on T2.out.be hb9)
      clear hb9
      go_wp2
      go_ret
      exact ⟨rfl, HB9.out⟩

open Classical in
noncomputable def exequaturlaw10_TapePlays.f (l0 : List S37) : Option Bool := if ∀ x ∈ l0, x.f1 ≤ 9223372036854775807 then some true else none
theorem exequaturlaw10_TapePlays.calls (A0 : Option Addr) (c0 : Nat) (l0 : List S37) (r : Bool) (w : World) (hr0 : Kd.C k37 w A0 l0.length l0) (hc0 : l0.length ≤ c0) (h : exequaturlaw10_TapePlays.f l0 = some r) :
    Calls Try.prog 4 #[.slice A0 l0.length c0] w fun e w' => e = .returned (.bool r) ∧ Below w.heap.size w w' := by
  unfold exequaturlaw10_TapePlays.f at h
  split at h
  case isFalse => cases h
  rename_i hs
  obtain rfl := Option.some.inj h
  exact plays_walk A0 c0 l0 w hr0 hc0 hs
end Go.Proofs.Ytnfnalalpligiaa.X
