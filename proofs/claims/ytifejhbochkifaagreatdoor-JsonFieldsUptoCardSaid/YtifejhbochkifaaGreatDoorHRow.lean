import Derived.Test.YtifejhbochkifaaGreatDoorCards
import Derived.Test.YtifejhbochkifaaGreatDoorTie
import Derived.Test.YtifejhbochkifaaGreatDoorX0
import Derived.WalkKit
import Derived.ProofKit
import Derived.OpenShut
import Derived.ShutString
import Derived.ChangeOld
import Derived.Below
import Derived.Carry
import Derived.SizedLaws
import Derived.Deep.Slices
import Derived.Deep.DeepHandedRow
import Derived.Lib.LaidTab
/- Ours: arguments opened by their types' shapes, with the bulk of what they read as; worlds that hold the laid tables. -/
namespace Go.Proofs.YtifejhbochkifaaGreatDoor.X
open Go.ChangeShapes Go.WideShapes Go.ChangeAt Go.RowKit Go.Proofs.YtifejhbochkifaaGreatDoorW.PrintWords
set_option linter.unusedVariables false

def Op {α : Type} (t : TypeId) (d : Kd α) (B : α → Nat) (G : α → Prop) : Prop :=
  ∀ (H : Type) (enc : TypeId × Value → H) (W : World) (fuel : Nat) (cs : List Value) (x : DataW H × List MemPlace),
    DataW.trod enc Tryz.prog W 0 (fun _ => true) true fuel t cs = some x → ∃ a, d.K W a cs ∧ B a ≤ Rows.uptoBulk x.1 ∧ G a

theorem op_string {t : TypeId} (ht : Tryz.prog.underlying t = some .string) : Op t Kd.string (fun s => s.size + 1) (fun _ => True) := by
 intro H enc W fuel cs x h
 cases fuel with
 | zero => simp [DataW.trod] at h
 | succ n =>
  unfold DataW.trod at h
  rw [ht] at h
  split at h <;> simp_all
  rename_i s
  exact ⟨s, rfl, by rw [← h.2]; simp [Rows.uptoBulk]⟩
theorem op_int {t : TypeId} {k : IntKind} (ht : Tryz.prog.underlying t = some (.int k)) : Op t (Kd.int k) (fun _ => 1) (fun n => (Lit.int k n).wf = true) := by
 intro H enc W fuel cs x h
 cases fuel with
 | zero => simp [DataW.trod] at h
 | succ n =>
  unfold DataW.trod at h
  rw [ht] at h
  split at h <;> simp_all
  rename_i k' m hk
  exact ⟨m, rfl, by rw [← h.2]; simp [Rows.uptoBulk], h.1.2⟩
theorem op_bool {t : TypeId} (ht : Tryz.prog.underlying t = some .bool) : Op t Kd.bool (fun _ => 1) (fun _ => True) := by
 intro H enc W fuel cs x h
 cases fuel with
 | zero => simp [DataW.trod] at h
 | succ n =>
  unfold DataW.trod at h
  rw [ht] at h
  split at h <;> simp_all
  rename_i b
  refine ⟨?_, by rw [← h]; simp [Rows.uptoBulk]⟩
  cases b
  ·exact Or.inl rfl
  ·exact Or.inr rfl

theorem bulks_range {H : Type} (D : Nat → DataW H) (B : Nat → Nat) : ∀ n, (∀ i, i < n → B i ≤ Rows.uptoBulk (D i)) → ((List.range n).map B).sum ≤ Rows.uptoBulkAll ((List.range n).map D) := by
 have app : ∀ l r : List (DataW H), Rows.uptoBulkAll (l ++ r) = Rows.uptoBulkAll l + Rows.uptoBulkAll r := by
  intro l r
  induction l with
  | nil => simp [Rows.uptoBulkAll]
  | cons x l ih => simp only [List.cons_append, Rows.uptoBulkAll, ih]; omega
 intro n h
 induction n with
 | zero => simp
 | succ n ih =>
  rw [List.range_succ, List.map_append, List.map_append, List.sum_append, app]
  have := ih (fun i hi => h i (by omega))
  have := h n (by omega)
  simp [Rows.uptoBulkAll]
  omega

theorem op_slice {α : Type} (z : α) {t e : TypeId} {d : Kd α} {B : α → Nat} {G : α → Prop} (ht : Tryz.prog.underlying t = some (.slice e)) (he : Op e d B G) (hc : Tryz.prog.cellsOf e = d.sz) :
  Op t (Kd.slice e d) (fun l => (l.map B).sum + 1) (fun l => ∀ x ∈ l, G x) := by
 intro H enc W fuel cs x h
 rcases Deep.open_slice ht h with ⟨rfl, rfl⟩ | ⟨a, len, cap, m, n, D, Pl, rfl, hb, hl, hm, hmm, rfl, hx⟩
 ·refine ⟨[], ⟨none, 0, rfl, Nat.le_refl _, rfl, by simp, fun h => absurd h (by simp)⟩, ?_, by simp⟩
  simp [Rows.uptoBulk]
 ·have hml : len ≤ m := by rw [hmm]; split <;> omega
  have key : ∀ i, i < len → ∃ p : α, (∃ c, c.length = d.sz ∧ d.K W p c ∧ ∀ j u, c[j]? = some u → W.cell? (a.add (i * d.sz + j)) = some u) ∧ B p ≤ Rows.uptoBulk (D i) ∧ G p := by
   intro i hi
   obtain ⟨cs', h1, h2⟩ := hx i (by omega)
   obtain ⟨p, hK, hB, hG⟩ := he H enc W n cs' _ h2
   obtain ⟨_, hlen, hcell⟩ := World.cells?_some h1
   refine ⟨p, ⟨cs', d.K_len hK, hK, fun j u hj => ?_⟩, hB, hG⟩
   have hj' : j < cs'.length := (List.getElem?_eq_some_iff.1 hj).1
   have := hcell j (by omega)
   rw [hj] at this
   rw [← this, hc, Addr.add_add]
  obtain ⟨f, hf⟩ : ∃ f : Nat → α, ∀ i, i < len → (∃ c, c.length = d.sz ∧ d.K W (f i) c ∧ ∀ j u, c[j]? = some u → W.cell? (a.add (i * d.sz + j)) = some u) ∧ B (f i) ≤ Rows.uptoBulk (D i) ∧ G (f i) := by
   by_cases h0 : 0 < len
   ·obtain ⟨p0, _⟩ := key 0 h0
    have : ∀ i, ∃ p : α, i < len → (∃ c, c.length = d.sz ∧ d.K W p c ∧ ∀ j u, c[j]? = some u → W.cell? (a.add (i * d.sz + j)) = some u) ∧ B p ≤ Rows.uptoBulk (D i) ∧ G p := by
     intro i
     by_cases hi : i < len
     ·obtain ⟨p, hp⟩ := key i hi
      exact ⟨p, fun _ => hp⟩
     ·exact ⟨p0, fun h => absurd h hi⟩
    exact ⟨fun i => Classical.choose (this i), fun i => Classical.choose_spec (this i)⟩
   ·refine ⟨fun _ => z, fun i hi => absurd hi (by omega)⟩
  refine ⟨(List.range len).map f, ⟨some a, cap, by simp, by simpa using hl, ?_⟩, ?_, ?_⟩
  ·refine ⟨rfl, ?_, fun hn => ⟨a, rfl, fun j p hj => ?_⟩⟩
   ·have : maxLen ≤ 9223372036854775807 := by decide
    simp; omega
   ·simp only [List.getElem?_map, Option.map_eq_some_iff] at hj
    obtain ⟨i, hi, rfl⟩ := hj
    have hi2 : j < len ∧ i = j := by
     have := List.getElem?_eq_some_iff.1 hi
     obtain ⟨h1, h2⟩ := this
     simp at h1 h2
     exact ⟨h1, h2.symm⟩
    obtain ⟨hj, rfl⟩ := hi2
    exact (hf i hj).1
  ·have := bulks_range D (fun i => B (f i)) len (fun i hi => (hf i hi).2.1)
   simp only [Rows.uptoBulk]
   rw [List.map_map]
   show ((List.range len).map (fun i => B (f i))).sum + 1 ≤ _
   omega
  ·intro x hx'
   obtain ⟨i, hi, rfl⟩ := List.mem_map.1 hx'
   exact (hf i (by simpa using hi)).2.2

def OpFs {α : Type} (fs : List Field) (o : Nat) (d : Kd α) (B : α → Nat) (G : α → Prop) : Prop :=
  ∀ (H : Type) (enc : TypeId × Value → H) (W : World) (n : Nat) (cs : List Value) (xs : List (DataW H × List MemPlace)), cs.length = o + d.sz → xs.length = fs.length →
    (∀ (i : Nat) (f : Field), fs[i]? = some f → DataW.trod enc Tryz.prog W 0 (fun _ => true) true n f.type ((cs.drop f.offset).take (Tryz.prog.cellsOf f.type)) = xs[i]?) →
    ∃ a, d.K W a (cs.drop o) ∧ B a ≤ Rows.uptoBulkAll (xs.map (·.1)) ∧ G a
theorem opf_one {α : Type} {f : Field} {o : Nat} {d : Kd α} {B : α → Nat} {G : α → Prop} (hf : Op f.type d B G) (ho : f.offset = o) (hc : Tryz.prog.cellsOf f.type = d.sz) : OpFs [f] o d B G := by
 intro H enc W n cs xs hl hx h
 match xs, hx with
 | [x], _ =>
  have h0 := h 0 f rfl
  rw [ho, hc, List.take_of_length_le (by rw [List.length_drop]; omega)] at h0
  obtain ⟨a, hK, hB, hG⟩ := hf H enc W n _ x h0
  exact ⟨a, hK, by simpa [Rows.uptoBulkAll] using hB, hG⟩
theorem opf_cons {α β : Type} {f : Field} {r : List Field} {o : Nat} {d : Kd α} {d2 : Kd β} {B : α → Nat} {G : α → Prop} {B2 : β → Nat} {G2 : β → Prop} (hf : Op f.type d B G) (ho : f.offset = o) (hc : Tryz.prog.cellsOf f.type = d.sz)
  (hr : OpFs r (o + d.sz) d2 B2 G2) : OpFs (f :: r) o (Kd.pair d d2) (fun p => B p.1 + B2 p.2) (fun p => G p.1 ∧ G2 p.2) := by
 intro H enc W n cs xs hl hx h
 match xs, hx with
 | x :: xs, hx =>
  have hsz : (Kd.pair d d2).sz = d.sz + d2.sz := rfl
  rw [hsz] at hl
  have h0 := h 0 f rfl
  rw [ho, hc] at h0
  obtain ⟨a, hK, hB, hG⟩ := hf H enc W n _ x h0
  obtain ⟨b, hK2, hB2, hG2⟩ := hr H enc W n cs xs (by omega) (by simpa using hx) (fun i g hg => by simpa using h (i + 1) g (by simpa using hg))
  refine ⟨(a, b), ⟨_, _, ?_, hK, hK2⟩, ?_, hG, hG2⟩
  ·rw [← List.drop_drop]; exact (List.take_append_drop _ _).symm
  ·simp only [List.map_cons, Rows.uptoBulkAll]; omega
theorem op_struct {α β : Type} {t : TypeId} {fs : Array Field} {d : Kd α} {B : α → Nat} {G : α → Prop} (ht : Tryz.prog.underlying t = some (.struct fs)) (hc : Tryz.prog.cellsOf t = d.sz) (hf : OpFs fs.toList 0 d B G)
  (f : β → α) (g : α → β) (hfg : ∀ a, f (g a) = a) : Op t (Kd.iso d f) (fun b => B (f b) + 1) (fun b => G (f b)) := by
 intro H enc W fuel cs x h
 obtain ⟨xs, n, rfl, rfl, hl, hx, hi⟩ := DataW.trod_struct ht h
 obtain ⟨a, hK, hB, hG⟩ := hf H enc W n cs xs (by omega) (by simpa using hx) (fun i f hf => hi i f (by simpa using hf))
 rw [List.drop_zero] at hK
 refine ⟨g a, ?_, ?_, ?_⟩
 ·show d.K W (f (g a)) cs
  rw [hfg]; exact hK
 ·show B (f (g a)) + 1 ≤ _
  rw [hfg]; simp only [Rows.uptoBulk]; omega
 ·show G (f (g a))
  rw [hfg]; exact hG

theorem bound {H : Type} {l : List (DataW H)} (hk : Rows.uptoSmall H l = true) : Rows.uptoBulkAll l ≤ 1048576 := of_decide_eq_true hk
theorem laidOut : laidOutB Tryz.prog = true := by kernel_rfl
theorem own : ownKnob Tryz.prog.godebug = none := by kernel_rfl

mutual
def cellsOfData {H : Type} : DataW H → List Value
  | .lit (.int k n) => [.int k n]
  | .lit (.bool b) => [.bool b]
  | .lit (.string l) => [.string ⟨l.toArray⟩]
  | .agg l => cellsOfDatas l
  | _ => []
def cellsOfDatas {H : Type} : List (DataW H) → List Value
  | [] => []
  | d :: r => cellsOfData d ++ cellsOfDatas r
end
def put {H : Type} (g : Nat) (d : DataW H) (w : World) : World :=
  { w with heap := w.heap.modify g fun
      | .cells _ t frozen => .cells (cellsOfData d).toArray t frozen
      | o => o }
def putv (g : Nat) (cs : Array Value) (w : World) : World :=
  { w with heap := w.heap.modify g fun
      | .cells _ t frozen => .cells cs t frozen
      | o => o }
end Go.Proofs.YtifejhbochkifaaGreatDoor.X
