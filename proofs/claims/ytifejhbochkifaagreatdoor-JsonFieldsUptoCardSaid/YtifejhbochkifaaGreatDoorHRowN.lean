/- An argument of a type nested in itself (api.Value), opened: by induction on the bulk of what it reads as. -/
import Derived.Test.YtifejhbochkifaaGreatDoorHRow
namespace Go.Proofs.YtifejhbochkifaaGreatDoor.X
open Go.ChangeShapes Go.WideShapes Go.ChangeAt Go.RowKit Go.Proofs.YtifejhbochkifaaGreatDoorW.PrintWords
set_option linter.unusedVariables false
set_option maxRecDepth 100000
theorem bulk_mem {H : Type} {l : List (DataW H)} {y : DataW H} (h : y ∈ l) : Rows.uptoBulk y ≤ Rows.uptoBulkAll l := by
 induction l with
 | nil => cases h
 | cons x l ih =>
  simp only [Rows.uptoBulkAll]
  rcases List.mem_cons.1 h with rfl | h
  ·omega
  ·have := ih h; omega
section
variable {H : Type} {enc : TypeId × Value → H} {W : World} {N : Nat}
def OpAt {α : Type} (H : Type) (enc : TypeId × Value → H) (W : World) (N : Nat) (t : TypeId) (d : Kd α) (R : α → Nat → Prop) : Prop :=
  ∀ (fuel : Nat) (cs : List Value) (x : DataW H × List MemPlace), DataW.trod enc Tryz.prog W 0 (fun _ => true) true fuel t cs = some x → Rows.uptoBulk x.1 < N → ∃ a, d.K W a cs ∧ R a (Rows.uptoBulk x.1)
theorem opa_of {α : Type} {t : TypeId} {d : Kd α} {B : α → Nat} {G : α → Prop} (h : Op t d B G) : OpAt H enc W N t d (fun a b => B a ≤ b) := fun fuel cs x hx _ => let ⟨a, hK, hB, _⟩ := h H enc W fuel cs x hx; ⟨a, hK, hB⟩
def OpFsAt {α : Type} (H : Type) (enc : TypeId × Value → H) (W : World) (N : Nat) (fs : List Field) (o : Nat) (d : Kd α) (R : α → Nat → Prop) : Prop :=
  ∀ (n : Nat) (cs : List Value) (xs : List (DataW H × List MemPlace)), cs.length = o + d.sz → xs.length = fs.length →
    (∀ (i : Nat) (f : Field), fs[i]? = some f → DataW.trod enc Tryz.prog W 0 (fun _ => true) true n f.type ((cs.drop f.offset).take (Tryz.prog.cellsOf f.type)) = xs[i]?) →
    (∀ y ∈ xs, Rows.uptoBulk y.1 < N) → ∃ a, d.K W a (cs.drop o) ∧ R a (Rows.uptoBulkAll (xs.map (·.1)))
theorem opfa_one {α : Type} {f : Field} {o : Nat} {d : Kd α} {R : α → Nat → Prop} (hf : OpAt H enc W N f.type d R) (ho : f.offset = o) (hc : Tryz.prog.cellsOf f.type = d.sz) : OpFsAt H enc W N [f] o d R := by
 intro n cs xs hl hx h hb
 match xs, hx with
 | [x], _ =>
  have h0 := h 0 f rfl
  rw [ho, hc, List.take_of_length_le (by rw [List.length_drop]; omega)] at h0
  obtain ⟨a, hK, hR⟩ := hf n _ x h0 (hb x (List.mem_singleton.2 rfl))
  exact ⟨a, hK, by simpa [Rows.uptoBulkAll] using hR⟩
def RPair {α β : Type} (R : α → Nat → Prop) (R2 : β → Nat → Prop) (p : α × β) (b : Nat) : Prop := ∃ b1 b2, R p.1 b1 ∧ R2 p.2 b2 ∧ b1 + b2 ≤ b
theorem opfa_cons {α β : Type} {f : Field} {r : List Field} {o : Nat} {d : Kd α} {d2 : Kd β} {R : α → Nat → Prop} {R2 : β → Nat → Prop} (hf : OpAt H enc W N f.type d R) (ho : f.offset = o) (hc : Tryz.prog.cellsOf f.type = d.sz)
  (hr : OpFsAt H enc W N r (o + d.sz) d2 R2) : OpFsAt H enc W N (f :: r) o (Kd.pair d d2) (RPair R R2) := by
 intro n cs xs hl hx h hb
 match xs, hx with
 | x :: xs, hx =>
  have hsz : (Kd.pair d d2).sz = d.sz + d2.sz := rfl
  rw [hsz] at hl
  have h0 := h 0 f rfl
  rw [ho, hc] at h0
  obtain ⟨a, hK, hR⟩ := hf n _ x h0 (hb x (List.mem_cons_self ..))
  obtain ⟨b, hK2, hR2⟩ := hr n cs xs (by omega) (by simpa using hx) (fun i g hg => by simpa using h (i + 1) g (by simpa using hg)) (fun y hy => hb y (List.mem_cons_of_mem _ hy))
  refine ⟨(a, b), ⟨_, _, ?_, hK, hK2⟩, ⟨_, _, hR, hR2, by simp only [List.map_cons, Rows.uptoBulkAll]; omega⟩⟩
  rw [← List.drop_drop]; exact (List.take_append_drop _ _).symm
def bulkN : Nat → S25 → Nat
  | 0, _ => 0
  | d + 1, v => v.f2.size + (v.f3.map (bulkN d)).sum + (v.f4.map (fun k => k.size + 1)).sum + 4
theorem opa_slice (z : S25) {t e : TypeId} {d : Kd S25} (ht : Tryz.prog.underlying t = some (.slice e)) (he : OpAt H enc W N e d (fun v b => ∀ m, bulkN m v ≤ b)) (hc : Tryz.prog.cellsOf e = d.sz) : OpAt H enc W (N + 1) t (Kd.slice e d) (fun l b => ∀ m, (l.map (bulkN m)).sum ≤ b) := by
 intro fuel cs x h hbk
 rcases Deep.open_slice ht h with ⟨rfl, rfl⟩ | ⟨a, len, cap, m, n, D, Pl, rfl, hb, hl, hm, hmm, rfl, hx⟩
 ·exact ⟨[], ⟨none, 0, rfl, Nat.le_refl _, rfl, by simp, fun h => absurd h (by simp)⟩, fun m => by simp⟩
 ·have hml : len ≤ m := by rw [hmm]; split <;> omega
  have key : ∀ i, i < len → ∃ p : S25, (∃ c, c.length = d.sz ∧ d.K W p c ∧ ∀ j u, c[j]? = some u → W.cell? (a.add (i * d.sz + j)) = some u) ∧ ∀ m, bulkN m p ≤ Rows.uptoBulk (D i) := by
   intro i hi
   obtain ⟨cs', h1, h2⟩ := hx i (by omega)
   have hbi : Rows.uptoBulk (D i) < N := by
    have := bulk_mem (l := (List.range len).map D) (y := D i) (List.mem_map_of_mem (List.mem_range.2 hi))
    simp only [Rows.uptoBulk] at hbk
    omega
   obtain ⟨p, hK, hR⟩ := he n cs' _ h2 hbi
   obtain ⟨_, hlen, hcell⟩ := World.cells?_some h1
   refine ⟨p, ⟨cs', d.K_len hK, hK, fun j u hj => ?_⟩, hR⟩
   have hj' : j < cs'.length := (List.getElem?_eq_some_iff.1 hj).1
   have := hcell j (by omega)
   rw [hj] at this
   rw [← this, hc, Addr.add_add]
  obtain ⟨f, hf⟩ : ∃ f : Nat → S25, ∀ i, i < len → (∃ c, c.length = d.sz ∧ d.K W (f i) c ∧ ∀ j u, c[j]? = some u → W.cell? (a.add (i * d.sz + j)) = some u) ∧ ∀ m, bulkN m (f i) ≤ Rows.uptoBulk (D i) := by
   have : ∀ i, ∃ p : S25, i < len → (∃ c, c.length = d.sz ∧ d.K W p c ∧ ∀ j u, c[j]? = some u → W.cell? (a.add (i * d.sz + j)) = some u) ∧ ∀ m, bulkN m p ≤ Rows.uptoBulk (D i) := by
    intro i
    by_cases hi : i < len
    ·obtain ⟨p, hp⟩ := key i hi
     exact ⟨p, fun _ => hp⟩
    ·exact ⟨z, fun h => absurd h hi⟩
   exact ⟨fun i => Classical.choose (this i), fun i => Classical.choose_spec (this i)⟩
  refine ⟨(List.range len).map f, ⟨some a, cap, by simp, by simpa using hl, ?_⟩, fun q => ?_⟩
  rotate_left
  ·have h1 := bulks_range D (fun i => bulkN q (f i)) len (fun i hi => (hf i hi).2 q)
   simp only [Rows.uptoBulk]
   rw [List.map_map]
   show ((List.range len).map (fun i => bulkN q (f i))).sum ≤ _
   omega
  refine ⟨rfl, ?_, fun hn => ⟨a, rfl, fun j p hj => ?_⟩⟩
  ·have : maxLen ≤ 9223372036854775807 := by decide
   simp; omega
  ·simp only [List.getElem?_map, Option.map_eq_some_iff] at hj
   obtain ⟨i, hi, rfl⟩ := hj
   have hi2 : j < len ∧ i = j := by
    have := List.getElem?_eq_some_iff.1 hi
    obtain ⟨h1, h2⟩ := this
    simp at h1 h2
    exact ⟨h1, h2.symm⟩
   obtain ⟨hj, rfl⟩ := hi2
   exact (hf i hj).1
theorem opa_struct {α : Type} {t : TypeId} {fs : Array Field} {d : Kd α} {R : α → Nat → Prop} (ht : Tryz.prog.underlying t = some (.struct fs)) (hc : Tryz.prog.cellsOf t = d.sz) (hf : OpFsAt H enc W N fs.toList 0 d R)
  (fuel : Nat) (cs : List Value) (x : DataW H × List MemPlace) (h : DataW.trod enc Tryz.prog W 0 (fun _ => true) true fuel t cs = some x) (hbk : Rows.uptoBulk x.1 < N + 1) : ∃ a b, d.K W a cs ∧ R a b ∧ b + 1 = Rows.uptoBulk x.1 := by
 obtain ⟨xs, n, rfl, rfl, hl, hx, hi⟩ := DataW.trod_struct ht h
 simp only [Rows.uptoBulk] at hbk
 obtain ⟨a, hK, hR⟩ := hf n cs xs (by omega) (by simpa using hx) (fun i f hf => hi i f (by simpa using hf)) (fun y hy => by
  have := bulk_mem (l := xs.map (·.1)) (y := y.1) (List.mem_map_of_mem hy)
  omega)
 rw [List.drop_zero] at hK
 exact ⟨a, _, hK, hR, by simp only [Rows.uptoBulk]⟩
end
theorem opa_value (H : Type) (enc : TypeId × Value → H) (W : World) : ∀ N, OpAt H enc W N 25 k25 (fun v b => ∀ m, bulkN m v ≤ b) := by
 intro N
 induction N using Nat.strongRecOn with
 | _ N ih =>
  intro fuel cs x h hbk
  cases N with
  | zero => omega
  | succ N =>
   have hsl : OpAt H enc W N 22 (Kd.slice 25 k25) (fun l b => ∀ m, (l.map (bulkN m)).sum ≤ b) := by
    cases N with
    | zero => exact fun fuel cs x _ hb => absurd hb (Nat.not_lt_zero _)
    | succ M => exact opa_slice z25 Tryz.underlying22 (ih M (by omega)) (by kernel_rfl)
   have hst := opa_of (H := H) (enc := enc) (W := W) (N := N) (op_slice ByteArray.empty Tryz.underlying23 (op_string Tryz.underlying9) (by kernel_rfl))
   obtain ⟨p, b, hK, hR, hbe⟩ := opa_struct (N := N) (d := Kd.pair (Kd.int .i64) (Kd.pair (Kd.int .i64) (Kd.pair Kd.string (Kd.pair (Kd.slice 25 k25) (Kd.slice 9 Kd.string))))) Tryz.underlying25 (by kernel_rfl)
    (opfa_cons (opa_of (op_int Tryz.underlying3)) rfl (by kernel_rfl) (opfa_cons (opa_of (op_int Tryz.underlying2)) rfl (by kernel_rfl) (opfa_cons (opa_of (op_string Tryz.underlying9)) rfl (by kernel_rfl) (opfa_cons hsl rfl (by kernel_rfl) (opfa_one hst rfl (by kernel_rfl)))))) fuel cs x h hbk
   obtain ⟨p0, p1, p2, p3, p4⟩ := p
   obtain ⟨b0, _, hR0, ⟨b1, _, hR1, ⟨b2, _, hR2, ⟨b3, b4, hR3, hR4, e3⟩, e2⟩, e1⟩, e0⟩ := hR
   simp only [] at hR0 hR1 hR2 hR3 hR4
   obtain ⟨_, _, rfl, hk0, ⟨_, _, rfl, hk1, ⟨_, _, rfl, hk2, ⟨_, _, rfl, ⟨A3, c3, hk3, l3, g3⟩, ⟨A4, c4, hk4, l4, g4⟩⟩⟩⟩⟩ := hK
   cases hk0; cases hk1; cases hk2; subst hk3; subst hk4
   exact ⟨⟨p0, p1, p2, p3, p4⟩, k25_mk W ⟨p0, p1, p2, p3, p4⟩ l3 g3 l4 g4, fun m => by
    cases m with
    | zero => exact Nat.zero_le _
    | succ m =>
     have h3 := hR3 m
     simp only [bulkN]
     omega⟩
theorem op_value : Op 25 k25 (fun v => bulkN 9 v) (fun _ => True) := fun H enc W fuel cs x h => by
 obtain ⟨a, hK, hR⟩ := opa_value H enc W (Rows.uptoBulk x.1 + 1) fuel cs x h (Nat.lt_succ_self _)
 exact ⟨a, hK, hR 9, trivial⟩
end Go.Proofs.YtifejhbochkifaaGreatDoor.X
