/- A slice of single cells that lies in a field: told by its cells from its block's first one on; append onto it; which blocks a call turns. -/
import Derived.Deep.Upon
import Derived.WalkKit
import Derived.Deep.RegionLaw
namespace Go.Proofs.Ytnfnalalpligiaa.X
open Go.RowKit
set_option linter.unusedVariables false
set_option linter.unusedSimpArgs false

/-- v is a slice of the cells cs, in block g from its first cell on (none: without capacity, in no block) -/
structure Rw (w : World) (v : Value) (g : Option Nat) (cs : List Value) : Prop where
  shape : ∃ ao cap, v = .slice ao cs.length cap ∧ cap ≤ maxLen ∧ (0 < cap → g ≠ none) ∧ Came w 1 ao (g.getD 0) 0 cs.length cap cs
  lt : ∀ b, g = some b → b < w.heap.size
  fr : ∀ b, g = some b → ∀ j, j < cs.length → w.frozen? ⟨b, j, none⟩ = false

/-- what turned: S's blocks alone -/
structure Tc (S : Nat → Prop) (w w' : World) : Prop where
  os : w'.os = w.os
  tape : w'.tape = w.tape
  output : w'.output = w.output
  size : w.heap.size ≤ w'.heap.size
  block : ∀ k, k < w.heap.size → ¬ S k → w'.heap[k]? = w.heap[k]?

theorem Tc.refl (S : Nat → Prop) (w : World) : Tc S w w := ⟨rfl, rfl, rfl, Nat.le_refl _, fun _ _ _ => rfl⟩
theorem Tc.then {S S' T : Nat → Prop} {a b c : World} (h : Tc S a b) (k : Tc S' b c) (h1 : ∀ i, i < a.heap.size → S i → T i) (h2 : ∀ i, i < a.heap.size → S' i → T i) : Tc T a c :=
  ⟨k.os.trans h.os, k.tape.trans h.tape, k.output.trans h.output, Nat.le_trans h.size k.size, fun i hi hn => (k.block i (Nat.lt_of_lt_of_le hi h.size) (fun e => hn (h2 i hi e))).trans (h.block i hi (fun e => hn (h1 i hi e)))⟩
theorem Tc.below {S : Nat → Prop} {a b : World} {B : Nat} (h : Tc S a b) (hB : B ≤ a.heap.size) (hS : ∀ i, i < B → ¬ S i) : Below B a b :=
  ⟨h.os, h.tape, h.output, h.size, fun k hk => h.block k (by omega) (hS k hk)⟩
theorem Tc.ofBelow {S : Nat → Prop} {a b : World} (h : Below a.heap.size a b) : Tc S a b := ⟨h.os, h.tape, h.output, h.size, fun k hk _ => h.block k hk⟩
theorem Tc.ofBelow' {S : Nat → Prop} {a b : World} {B : Nat} (h : Below B a b) (hS : ∀ i, i < a.heap.size → B ≤ i → S i) : Tc S a b := by
  refine ⟨h.os, h.tape, h.output, h.size, fun k hk hn => h.block k ?_⟩
  rcases Nat.lt_or_ge k B with hb | hb
  · exact hb
  · exact absurd (hS k hk hb) hn
theorem Tc.set {S : Nat → Prop} {a b : World} (h : Tc S a b) (p : Addr) (u : Value) (hp : p.block < a.heap.size → S p.block) : Tc S a (b.setCell p u) :=
  h.then (T := S) ⟨rfl, rfl, rfl, by simp [World.setCell], fun k hk hn => Below.heap_setCell _ _ _ _ hn⟩ (fun _ _ e => e) (S' := fun k => k = p.block) (fun i hi e => by subst e; exact hp hi)
theorem Tc.alloc {S : Nat → Prop} {a b : World} (h : Tc S a b) (o : Obj) : Tc S a (b.alloc o) :=
  h.then (T := S) (S' := S) ⟨rfl, rfl, rfl, by simp, fun k hk hn => Below.heap_alloc _ _ _ hk⟩ (fun _ _ e => e) (fun _ _ e => e)
theorem Tc.grown {S : Nat → Prop} {a b c : World} {g : Option Nat} (h : Tc S a b) (k : b.grownBy c g) (hg : ∀ i, g = some i → i < a.heap.size → S i) : Tc S a c :=
  h.then (T := S) (S' := fun i => some i = g) ⟨k.os, k.tape, k.output, k.size, fun i hi hn => k.block i hi hn⟩ (fun _ _ e => e) (fun i hi e => hg i e.symm hi)
theorem Tc.cell {S : Nat → Prop} {a b : World} (h : Tc S a b) {p : Addr} (hp : p.block < a.heap.size) (hn : ¬ S p.block) : b.cell? p = a.cell? p := World.cell?_of_block (w := a) (h.block _ hp hn)
theorem Tc.frozen {S : Nat → Prop} {a b : World} (h : Tc S a b) {p : Addr} (hp : p.block < a.heap.size) (hn : ¬ S p.block) : b.frozen? p = a.frozen? p := World.frozen?_of_block (w := a) (h.block _ hp hn)

theorem Rw.nil (w : World) : Rw w (.slice none 0 0) none [] := ⟨⟨.none, 0, rfl, by simp [maxLen], fun h => by omega, by
  refine ⟨Nat.le_refl _, fun h => by omega, fun h => by omega, rfl, fun j u h => by simp at h, fun j h => by simp at h⟩⟩, fun b e => (by cases e), fun b e => (by cases e)⟩

theorem Rw.keep {w w' : World} {v : Value} {g : Option Nat} {cs : List Value} (h : Rw w v g cs) (hs : w.heap.size ≤ w'.heap.size) (hb : ∀ b, g = some b → b < w.heap.size → w'.heap[b]? = w.heap[b]?) : Rw w' v g cs := by
  obtain ⟨ao, cap, rfl, hm, hg, hc⟩ := h.shape
  have hblk : 0 < cap → w'.heap[g.getD 0]? = w.heap[g.getD 0]? := fun h0 => by
    cases g with
    | none => exact absurd rfl (hg h0)
    | some b => exact hb b rfl (hc.lt h0)
  refine ⟨⟨ao, cap, rfl, hm, hg, hc.le, hc.addr, fun h0 => Nat.lt_of_lt_of_le (hc.lt h0) hs, hc.oldsLen, fun j u hj => ?_, fun j hj => ?_⟩, fun b e => Nat.lt_of_lt_of_le (h.lt b e) hs, fun b e j hj => (World.frozen?_of_block (a := ⟨b, j, .none⟩) (hb b e (h.lt b e))).trans (h.fr b e j hj)⟩
  · have hj' := (List.getElem?_eq_some_iff.1 hj).1
    have h0 : 0 < cap := by have := hc.le; omega
    rw [World.cell?_of_block (a := ⟨g.getD 0, 0 + j, .none⟩) (hblk h0)]
    exact hc.olds j u hj
  · have h0 : 0 < cap := by omega
    rw [World.cell?_of_block (a := ⟨g.getD 0, 0 + cs.length * 1 + j, .none⟩) (hblk h0), World.frozen?_of_block (a := ⟨g.getD 0, 0 + cs.length * 1 + j, .none⟩) (hblk h0)]
    exact hc.spare j hj
theorem Rw.tc {S : Nat → Prop} {w w' : World} {v : Value} {g : Option Nat} {cs : List Value} (h : Rw w v g cs) (k : Tc S w w') (hn : ∀ b, g = some b → ¬ S b) : Rw w' v g cs :=
  h.keep k.size fun b e hg => k.block b hg (hn b e)
theorem Rw.len {w : World} {v : Value} {g : Option Nat} {cs : List Value} (h : Rw w v g cs) : ∃ ao cap, v = .slice ao cs.length cap ∧ cs.length ≤ cap ∧ cap ≤ maxLen ∧ (0 < cap → ao = some ⟨g.getD 0, 0, .none⟩) := by
  obtain ⟨ao, cap, e, hm, hg, hc⟩ := h.shape; exact ⟨ao, cap, e, hc.le, hm, hc.addr⟩
/-- v[:k:k] -/
theorem Rw.cut {w : World} {ao : Option Addr} {n cap : Nat} {g : Option Nat} {cs : List Value} (h : Rw w (.slice ao n cap) g cs) (k : Nat) (hk : k ≤ cs.length) : Rw w (.slice ao k k) g (cs.take k) := by
  obtain ⟨ao', cap', e, hm, hg, hc⟩ := h.shape
  simp only [Value.slice.injEq] at e
  obtain ⟨rfl, rfl, rfl⟩ := e
  have hl : (cs.take k).length = k := by rw [List.length_take]; omega
  have hle := hc.le
  refine ⟨⟨ao, k, by rw [hl], by omega, fun h0 => hg (by omega), ?_⟩, h.lt, fun b e j hj => h.fr b e j (by omega)⟩
  rw [hl]
  refine ⟨Nat.le_refl _, fun h0 => hc.addr (by omega), fun h0 => hc.lt (by omega), by rw [hl, Nat.mul_one], fun j u hj => ?_, fun j hj => by omega⟩
  refine hc.olds j u ?_
  rw [List.getElem?_take] at hj
  split at hj
  · exact hj
  · cases hj

section
variable {P : Program}
/-- n cells more, out of whatever source: into the spare, or into a new block -/
theorem run_append_rw (w : World) (t tx ty e : TypeId) (i : TypeInfo) (z : Value) (ht : P.underlying t = some (.slice e)) (hi : P.info? e = some i) (hz : i.zero = some z) (hsize : i.size = 1) (hby : i.bytes = 1) (hzs : z.cells.size = 1)
    (v : Value) (g : Option Nat) (cs : List Value) (h : Rw w v g cs) (x : Value) (n : Nat) (news : List Value) (hs : Src P 1 tx x n news w) (hb : cs.length + n ≤ 140737488355328) :
    ∃ v' w' g', (Builtin.append_ #[t, tx] ty #[v, x]).run P w = .ok v' w' ∧ Rw w' v' g' (cs ++ news) ∧ w.grownBy w' g ∧ (g' = g ∨ g' = some w.heap.size) := by
  obtain ⟨ao, cap, rfl, hm, hg0, hc⟩ := h.shape
  have hnl : news.length = n := by simpa using hs.newsLen
  have hs' : Src P i.size tx x n news w := by rw [hsize]; exact hs
  by_cases hr : cs.length + n ≤ cap
  · rcases Nat.eq_zero_or_pos cap with h0 | h0
    · subst h0
      obtain rfl : n = 0 := by omega
      obtain rfl : news = [] := List.eq_nil_of_length_eq_zero hnl
      have hrun := run_append_nothing (P := P) w t tx ty e i ht hi ao cs.length 0 hc.le x hs'
      exact ⟨_, w, g, hrun, by simpa using h, ⟨rfl, rfl, rfl, Nat.le_refl _, fun _ _ _ => rfl⟩, .inl rfl⟩
    · have hao := hc.addr h0
      subst hao
      cases g with
      | none => exact absurd rfl (hg0 h0)
      | some g =>
      simp only [Option.getD_some] at hc h ⊢
      have hsp : ∀ j, j < news.length → (w.cell? ⟨g, 0 + cs.length * i.size + j, .none⟩).isSome = true ∧ w.frozen? ⟨g, 0 + cs.length * i.size + j, .none⟩ = false := fun j hj => by
        rw [hsize]; exact hc.spare j (by omega)
      have hrun := run_append_room_src (P := P) w t tx ty e i ht hi g 0 cs.length cap x n news hs' hr (fun j hj => (hsp j hj).1) (fun j hj => (hsp j hj).2)
      refine ⟨_, _, some g, hrun, ⟨⟨_, cap, by rw [List.length_append, hnl], hm, fun _ => by simp, ?_⟩, fun b e => Nat.lt_of_lt_of_le (h.lt b e) (World.keptBut_setCells (may := fun _ => True) g news (0 + cs.length * i.size) w (fun _ _ => trivial)).size, fun b e j hj => by
        cases e
        rw [World.frozen?_setCells]
        by_cases hj2 : j < cs.length
        · exact h.fr g rfl j hj2
        · have := (hc.spare (j - cs.length) (by rw [List.length_append] at hj; omega)).2
          rwa [show 0 + cs.length * 1 + (j - cs.length) = j by omega] at this⟩, ⟨World.os_setCells .., ?_, World.output_setCells .., ?_, fun k hk hne => World.heap_setCells_other _ _ _ _ hk (by simpa using hne)⟩, .inl rfl⟩
      · have hk := World.keptBut_setCells (may := fun _ => True) g news (0 + cs.length * i.size) w (fun _ _ => trivial)
        show Came _ 1 _ g 0 _ cap _
        refine ⟨by rw [List.length_append]; omega, fun _ => rfl, fun _ => Nat.lt_of_lt_of_le (hc.lt h0) hk.size, by rw [Nat.mul_one], fun j u hj => ?_, fun j hj => ?_⟩
        · by_cases hj2 : j < cs.length
          · rw [List.getElem?_append_left hj2] at hj
            rw [World.cell?_setCells_out g _ _ _ _ (fun _ _ => Or.inl (by show 0 + j < 0 + cs.length * i.size; rw [hsize]; omega))]
            exact hc.olds j u hj
          · rw [List.getElem?_append_right (by omega)] at hj
            have hl := (List.getElem?_eq_some_iff.1 hj)
            have := World.cell?_setCells_in g news (0 + cs.length * i.size) w (fun j hj => (hsp j hj).1) (j - cs.length) hl.1
            rw [hsize] at this ⊢
            rw [show 0 + cs.length * 1 + (j - cs.length) = 0 + j by omega] at this
            rw [this, hl.2]
        · rw [List.length_append] at hj ⊢
          have := hc.spare (news.length + j) (by omega)
          rw [World.frozen?_setCells, World.cell?_setCells_out g _ _ _ _ (fun _ _ => Or.inr (by show 0 + cs.length * i.size + news.length ≤ 0 + (cs.length + news.length) * 1 + j; rw [hsize]; omega))]
          rw [show 0 + (cs.length + news.length) * 1 + j = 0 + cs.length * 1 + (news.length + j) by omega]
          exact this
      · clear hrun
        have : ∀ (vs : List Value) (o : Nat) (w : World), (w.setCells g o vs).tape = w.tape := by
          intro vs
          induction vs with
          | nil => intro o w; rfl
          | cons a r ih => intro o w; exact (ih _ _).trans rfl
        exact this _ _ _
      · exact (World.keptBut_setCells (may := fun _ => True) g news (0 + cs.length * i.size) w (fun _ _ => trivial)).size
  · have hold : (Builtin.firstCells i.size cs.length (.slice ao cs.length cap)).run P w.drew = .ok cs.toArray w.drew := by
      cases ao with
      | none =>
        have h0 : cap = 0 := by
          rcases Nat.eq_zero_or_pos cap with h0 | h0
          · exact h0
          · exact absurd (hc.addr h0) (by simp)
        obtain rfl : cs = [] := List.eq_nil_of_length_eq_zero (by have := hc.le; omega)
        exact run_firstCells_none ..
      | some a =>
        rcases Nat.eq_zero_or_pos cap with h0 | h0
        · obtain rfl : cs = [] := List.eq_nil_of_length_eq_zero (by have := hc.le; omega)
          exact run_firstCells_some _ _ _ _ _ _ _ (by simp) (fun j u hj => by simp at hj)
        · have := hc.addr h0
          obtain rfl := Option.some.inj this
          refine run_firstCells_some _ _ _ _ _ _ _ (by rw [hsize, Nat.mul_one]) (fun j u hj => ?_)
          rw [Addr.add_lit]
          exact hc.olds j u hj
    have hrun := run_append_grow_src (P := P) w t tx ty e i z ht hi hz ao cs.length cap cs hold x n news hs' (by omega) (by omega) (growslice_fits (by omega) (by rw [hby]; omega))
    have hge := grownCap_ge w (cs.length + n) cap e
    have hcm := grownCap_le_maxLen w (cs.length + n) cap e (by unfold maxLen; omega)
    refine ⟨_, _, some w.heap.size, hrun, ⟨⟨_, _, by rw [List.length_append, hnl], hcm, fun _ => by simp, ?_⟩, fun b e => (by cases e; simp), fun b e j hj => by cases e; exact World.frozen?_alloc_new w.drew _ _ _⟩, ⟨rfl, rfl, rfl, by simp, fun k hk _ => Below.heap_alloc w.drew _ k hk⟩, .inr rfl⟩
    have hcell : ∀ j, (w.drew.alloc (.cells ((cs ++ news).toArray ++ Builtin.zeroCells z.cells (grownCap w (cs.length + n) cap e - (cs.length + n))) e)).cell? ⟨w.heap.size, 0 + j, .none⟩ = ((cs ++ news).toArray ++ Builtin.zeroCells z.cells (grownCap w (cs.length + n) cap e - (cs.length + n)))[j]? := fun j => by
      rw [Nat.zero_add]; exact World.cell?_alloc_new w.drew _ _ j
    show Came _ 1 _ w.heap.size 0 _ _ _
    refine ⟨by rw [List.length_append, hnl]; omega, fun _ => rfl, fun _ => by simp, by rw [Nat.mul_one], fun j u hj => ?_, fun j hj => ⟨?_, ?_⟩⟩
    · have hl := (List.getElem?_eq_some_iff.1 hj).1
      rw [hcell, Array.getElem?_append_left (by simpa using hl)]
      simpa using hj
    · rw [show 0 + (cs ++ news).length * 1 + j = 0 + ((cs ++ news).length + j) by omega, hcell]
      rw [Array.getElem?_append_right (by simp)]
      have hsz : (Builtin.zeroCells z.cells (grownCap w (cs.length + n) cap e - (cs.length + n))).size = grownCap w (cs.length + n) cap e - (cs.length + n) := by rw [size_zeroCells, hzs, Nat.mul_one]
      rw [Array.getElem?_eq_getElem (by rw [hsz]; simp; rw [List.length_append, hnl] at hj; omega)]
      rfl
    · exact World.frozen?_alloc_new w.drew _ _ _

theorem wpList_append_rw (w : World) {ops : Array Oper} {rest : List Oper} {o : Oper} {a : Act} {Q : Exit → Act → World → Prop}
    (hg : o.guard = none) (s xo : Operand) (t tx : TypeId) (hop : o.op = Op.call { callee := Callee.builtin Builtin.append, args := #[s, xo], argTypes := #[t, tx] })
    (e : TypeId) (i : TypeInfo) (z : Value) (ht : P.underlying t = some (.slice e)) (hi : P.info? e = some i) (hz : i.zero = some z) (hsize : i.size = 1) (hby : i.bytes = 1) (hzs : z.cells.size = 1)
    (v : Value) (g : Option Nat) (cs : List Value) (hv : a.eval s = v) (h : Rw w v g cs) (x : Value) (n : Nat) (news : List Value) (hx : a.eval xo = x) (hs : Src P 1 tx x n news w) (hb : cs.length + n ≤ 140737488355328)
    (hK : ∀ v' w' g', Rw w' v' g' (cs ++ news) → w.grownBy w' g → (g' = g ∨ g' = some w.heap.size) → wpList P ops Q rest (a.put o.dst v') w') :
    wpList P ops Q (o :: rest) a w := by
  refine wpList_plain hg fun K hK' => ?_
  obtain ⟨v', w', g', hrun, r1, r2, r3⟩ := run_append_rw (P := P) w t tx o.type e i z ht hi hz hsize hby hzs v g cs h x n news hs hb
  unfold Oper.wp
  simp [execOp, hop, resolve, invoke, builtin, hv, hx, hrun, Result.andThen]
  exact hK' _ _ (hK v' w' g' r1 r2 r3)
theorem step_append_rw {ops : Array Oper} {o : Oper} {a : Act} {w : World} {K : Act → World → Prop} {Q : Exit → Act → World → Prop} {E : Prop}
    (hg : o.guard = none) (s xo : Operand) (t tx : TypeId) (hop : o.op = Op.call { callee := Callee.builtin Builtin.append, args := #[s, xo], argTypes := #[t, tx] })
    (e : TypeId) (i : TypeInfo) (z : Value) (ht : P.underlying t = some (.slice e)) (hi : P.info? e = some i) (hz : i.zero = some z) (hsize : i.size = 1) (hby : i.bytes = 1) (hzs : z.cells.size = 1)
    (v : Value) (g : Option Nat) (cs : List Value) (hv : a.eval s = v) (h : Rw w v g cs) (x : Value) (n : Nat) (news : List Value) (hx : a.eval xo = x) (hs : Src P 1 tx x n news w) (hb : cs.length + n ≤ 140737488355328)
    (hK : ∀ v' w' g', Rw w' v' g' (cs ++ news) → w.grownBy w' g → (g' = g ∨ g' = some w.heap.size) → K (a.put o.dst v') w') :
    if Region.wanted o (yielded ops a.tmps) = true then Oper.wp P o a w K Q else E := by
  have hw : Region.wanted o (yielded ops a.tmps) = true := by simp [Region.wanted, hg]
  rw [if_pos hw]
  obtain ⟨v', w', g', hrun, r1, r2, r3⟩ := run_append_rw (P := P) w t tx o.type e i z ht hi hz hsize hby hzs v g cs h x n news hs hb
  unfold Oper.wp
  simp [execOp, hop, resolve, invoke, builtin, hv, hx, hrun, Result.andThen]
  exact hK v' w' g' r1 r2 r3
end
end Go.Proofs.Ytnfnalalpligiaa.X
