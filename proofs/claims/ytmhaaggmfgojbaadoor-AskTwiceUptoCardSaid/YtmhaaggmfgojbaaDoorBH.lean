import Derived.Test.YtmhaaggmfgojbaaDoorCards
import Derived.Test.YtmhaaggmfgojbaaDoorTie
import Derived.Test.YtmhaaggmfgojbaaDoorX0
import Derived.WalkKit
import Derived.ProofKit
import Derived.OpenShut
import Derived.ShutString
import Derived.ChangeOld
import Derived.Below
import Derived.Carry
import Derived.SizedLaws
import Derived.Deep.Slices
import Derived.Deep.DeepHandedRow
import Derived.Lib.LaidTab
import Derived.Test.YtmhaaggmfgojbaaDoorBC
import Derived.Test.YtmhaaggmfgojbaaDoorBD
import Derived.Test.YtmhaaggmfgojbaaDoorBG
/-! HRow -/
namespace Go.Proofs.YtmhaaggmfgojbaaDoor.X
open Go.ChangeShapes Go.WideShapes Go.ChangeAt Go.RowKit Go.Proofs.YtmhaaggmfgojbaaDoorW.PrintWords
set_option linter.unusedVariables false

def Op {α : Type} (t : TypeId) (d : Kd α) (B : α → Nat) (G : α → Prop) : Prop :=
  ∀ (H : Type) (enc : TypeId × Value → H) (W : World) (fuel : Nat) (cs : List Value) (x : DataW H × List MemPlace),
    DataW.trod enc Tryd.prog W 0 (fun _ => true) true fuel t cs = some x → ∃ a, d.K W a cs ∧ B a ≤ Rows.uptoBulk x.1 ∧ G a

theorem op_string {t : TypeId} (ht : Tryd.prog.underlying t = some .string) : Op t Kd.string (fun s => s.size + 1) (fun _ => True) := by
 intro H enc W fuel cs x h
 cases fuel with
 | zero => simp [DataW.trod] at h
 | succ n =>
  unfold DataW.trod at h
  rw [ht] at h
  split at h <;> simp_all
  rename_i s
  exact ⟨s, rfl, by rw [← h.2]; simp [Rows.uptoBulk]⟩
theorem op_int {t : TypeId} {k : IntKind} (ht : Tryd.prog.underlying t = some (.int k)) : Op t (Kd.int k) (fun _ => 1) (fun n => (Lit.int k n).wf = true) := by
 intro H enc W fuel cs x h
 cases fuel with
 | zero => simp [DataW.trod] at h
 | succ n =>
  unfold DataW.trod at h
  rw [ht] at h
  split at h <;> simp_all
  rename_i k' m hk
  exact ⟨m, rfl, by rw [← h.2]; simp [Rows.uptoBulk], h.1.2⟩
theorem op_bool {t : TypeId} (ht : Tryd.prog.underlying t = some .bool) : Op t Kd.bool (fun _ => 1) (fun _ => True) := by
 intro H enc W fuel cs x h
 cases fuel with
 | zero => simp [DataW.trod] at h
 | succ n =>
  unfold DataW.trod at h
  rw [ht] at h
  split at h <;> simp_all
  rename_i b
  refine ⟨?_, by rw [← h]; simp [Rows.uptoBulk]⟩
  cases b
  ·exact Or.inl rfl
  ·exact Or.inr rfl

theorem bulks_range {H : Type} (D : Nat → DataW H) (B : Nat → Nat) : ∀ n, (∀ i, i < n → B i ≤ Rows.uptoBulk (D i)) → ((List.range n).map B).sum ≤ Rows.uptoBulkAll ((List.range n).map D) := by
 have app : ∀ l r : List (DataW H), Rows.uptoBulkAll (l ++ r) = Rows.uptoBulkAll l + Rows.uptoBulkAll r := by
  intro l r
  induction l with
  | nil => simp [Rows.uptoBulkAll]
  | cons x l ih => simp only [List.cons_append, Rows.uptoBulkAll, ih]; omega
 intro n h
 induction n with
 | zero => simp
 | succ n ih =>
  rw [List.range_succ, List.map_append, List.map_append, List.sum_append, app]
  have := ih (fun i hi => h i (by omega))
  have := h n (by omega)
  simp [Rows.uptoBulkAll]
  omega

theorem op_slice {α : Type} (z : α) {t e : TypeId} {d : Kd α} {B : α → Nat} {G : α → Prop} (ht : Tryd.prog.underlying t = some (.slice e)) (he : Op e d B G) (hc : Tryd.prog.cellsOf e = d.sz) :
  Op t (Kd.slice e d) (fun l => (l.map B).sum + 1) (fun l => ∀ x ∈ l, G x) := by
 intro H enc W fuel cs x h
 rcases Deep.open_slice ht h with ⟨rfl, rfl⟩ | ⟨a, len, cap, m, n, D, Pl, rfl, hb, hl, hm, hmm, rfl, hx⟩
 ·refine ⟨[], ⟨none, 0, rfl, Nat.le_refl _, rfl, by simp, fun h => absurd h (by simp)⟩, ?_, by simp⟩
  simp [Rows.uptoBulk]
 ·have hml : len ≤ m := by rw [hmm]; split <;> omega
  have key : ∀ i, i < len → ∃ p : α, (∃ c, c.length = d.sz ∧ d.K W p c ∧ ∀ j u, c[j]? = some u → W.cell? (a.add (i * d.sz + j)) = some u) ∧ B p ≤ Rows.uptoBulk (D i) ∧ G p := by
   intro i hi
   obtain ⟨cs', h1, h2⟩ := hx i (by omega)
   obtain ⟨p, hK, hB, hG⟩ := he H enc W n cs' _ h2
   obtain ⟨_, hlen, hcell⟩ := World.cells?_some h1
   refine ⟨p, ⟨cs', d.K_len hK, hK, fun j u hj => ?_⟩, hB, hG⟩
   have hj' : j < cs'.length := (List.getElem?_eq_some_iff.1 hj).1
   have := hcell j (by omega)
   rw [hj] at this
   rw [← this, hc, Addr.add_add]
  obtain ⟨f, hf⟩ : ∃ f : Nat → α, ∀ i, i < len → (∃ c, c.length = d.sz ∧ d.K W (f i) c ∧ ∀ j u, c[j]? = some u → W.cell? (a.add (i * d.sz + j)) = some u) ∧ B (f i) ≤ Rows.uptoBulk (D i) ∧ G (f i) := by
   by_cases h0 : 0 < len
   ·obtain ⟨p0, _⟩ := key 0 h0
    have : ∀ i, ∃ p : α, i < len → (∃ c, c.length = d.sz ∧ d.K W p c ∧ ∀ j u, c[j]? = some u → W.cell? (a.add (i * d.sz + j)) = some u) ∧ B p ≤ Rows.uptoBulk (D i) ∧ G p := by
     intro i
     by_cases hi : i < len
     ·obtain ⟨p, hp⟩ := key i hi
      exact ⟨p, fun _ => hp⟩
     ·exact ⟨p0, fun h => absurd h hi⟩
    exact ⟨fun i => Classical.choose (this i), fun i => Classical.choose_spec (this i)⟩
   ·refine ⟨fun _ => z, fun i hi => absurd hi (by omega)⟩
  refine ⟨(List.range len).map f, ⟨some a, cap, by simp, by simpa using hl, ?_⟩, ?_, ?_⟩
  ·refine ⟨rfl, ?_, fun hn => ⟨a, rfl, fun j p hj => ?_⟩⟩
   ·have : maxLen ≤ 9223372036854775807 := by decide
    simp; omega
   ·simp only [List.getElem?_map, Option.map_eq_some_iff] at hj
    obtain ⟨i, hi, rfl⟩ := hj
    have hi2 : j < len ∧ i = j := by
     have := List.getElem?_eq_some_iff.1 hi
     obtain ⟨h1, h2⟩ := this
     simp at h1 h2
     exact ⟨h1, h2.symm⟩
    obtain ⟨hj, rfl⟩ := hi2
    exact (hf i hj).1
  ·have := bulks_range D (fun i => B (f i)) len (fun i hi => (hf i hi).2.1)
   simp only [Rows.uptoBulk]
   rw [List.map_map]
   show ((List.range len).map (fun i => B (f i))).sum + 1 ≤ _
   omega
  ·intro x hx'
   obtain ⟨i, hi, rfl⟩ := List.mem_map.1 hx'
   exact (hf i (by simpa using hi)).2.2

def OpFs {α : Type} (fs : List Field) (o : Nat) (d : Kd α) (B : α → Nat) (G : α → Prop) : Prop :=
  ∀ (H : Type) (enc : TypeId × Value → H) (W : World) (n : Nat) (cs : List Value) (xs : List (DataW H × List MemPlace)), cs.length = o + d.sz → xs.length = fs.length →
    (∀ (i : Nat) (f : Field), fs[i]? = some f → DataW.trod enc Tryd.prog W 0 (fun _ => true) true n f.type ((cs.drop f.offset).take (Tryd.prog.cellsOf f.type)) = xs[i]?) →
    ∃ a, d.K W a (cs.drop o) ∧ B a ≤ Rows.uptoBulkAll (xs.map (·.1)) ∧ G a
theorem opf_one {α : Type} {f : Field} {o : Nat} {d : Kd α} {B : α → Nat} {G : α → Prop} (hf : Op f.type d B G) (ho : f.offset = o) (hc : Tryd.prog.cellsOf f.type = d.sz) : OpFs [f] o d B G := by
 intro H enc W n cs xs hl hx h
 match xs, hx with
 | [x], _ =>
  have h0 := h 0 f rfl
  rw [ho, hc, List.take_of_length_le (by rw [List.length_drop]; omega)] at h0
  obtain ⟨a, hK, hB, hG⟩ := hf H enc W n _ x h0
  exact ⟨a, hK, by simpa [Rows.uptoBulkAll] using hB, hG⟩
theorem opf_cons {α β : Type} {f : Field} {r : List Field} {o : Nat} {d : Kd α} {d2 : Kd β} {B : α → Nat} {G : α → Prop} {B2 : β → Nat} {G2 : β → Prop} (hf : Op f.type d B G) (ho : f.offset = o) (hc : Tryd.prog.cellsOf f.type = d.sz)
  (hr : OpFs r (o + d.sz) d2 B2 G2) : OpFs (f :: r) o (Kd.pair d d2) (fun p => B p.1 + B2 p.2) (fun p => G p.1 ∧ G2 p.2) := by
 intro H enc W n cs xs hl hx h
 match xs, hx with
 | x :: xs, hx =>
  have hsz : (Kd.pair d d2).sz = d.sz + d2.sz := rfl
  rw [hsz] at hl
  have h0 := h 0 f rfl
  rw [ho, hc] at h0
  obtain ⟨a, hK, hB, hG⟩ := hf H enc W n _ x h0
  obtain ⟨b, hK2, hB2, hG2⟩ := hr H enc W n cs xs (by omega) (by simpa using hx) (fun i g hg => by simpa using h (i + 1) g (by simpa using hg))
  refine ⟨(a, b), ⟨_, _, ?_, hK, hK2⟩, ?_, hG, hG2⟩
  ·rw [← List.drop_drop]; exact (List.take_append_drop _ _).symm
  ·simp only [List.map_cons, Rows.uptoBulkAll]; omega
theorem op_struct {α β : Type} {t : TypeId} {fs : Array Field} {d : Kd α} {B : α → Nat} {G : α → Prop} (ht : Tryd.prog.underlying t = some (.struct fs)) (hc : Tryd.prog.cellsOf t = d.sz) (hf : OpFs fs.toList 0 d B G)
  (f : β → α) (g : α → β) (hfg : ∀ a, f (g a) = a) : Op t (Kd.iso d f) (fun b => B (f b) + 1) (fun b => G (f b)) := by
 intro H enc W fuel cs x h
 obtain ⟨xs, n, rfl, rfl, hl, hx, hi⟩ := DataW.trod_struct ht h
 obtain ⟨a, hK, hB, hG⟩ := hf H enc W n cs xs (by omega) (by simpa using hx) (fun i f hf => hi i f (by simpa using hf))
 rw [List.drop_zero] at hK
 refine ⟨g a, ?_, ?_, ?_⟩
 ·show d.K W (f (g a)) cs
  rw [hfg]; exact hK
 ·show B (f (g a)) + 1 ≤ _
  rw [hfg]; simp only [Rows.uptoBulk]; omega
 ·show G (f (g a))
  rw [hfg]; exact hG

theorem bound {H : Type} {l : List (DataW H)} (hk : Rows.uptoSmall H l = true) : Rows.uptoBulkAll l ≤ 1048576 := of_decide_eq_true hk
theorem laidOut : laidOutB Tryd.prog = true := by kernel_rfl
theorem own : ownKnob Tryd.prog.godebug = none := by kernel_rfl

mutual
def cellsOfData {H : Type} : DataW H → List Value
  | .lit (.int k n) => [.int k n]
  | .lit (.bool b) => [.bool b]
  | .lit (.string l) => [.string ⟨l.toArray⟩]
  | .agg l => cellsOfDatas l
  | _ => []
def cellsOfDatas {H : Type} : List (DataW H) → List Value
  | [] => []
  | d :: r => cellsOfData d ++ cellsOfDatas r
end
def put {H : Type} (g : Nat) (d : DataW H) (w : World) : World :=
  { w with heap := w.heap.modify g fun
      | .cells _ t frozen => .cells (cellsOfData d).toArray t frozen
      | o => o }
def putv (g : Nat) (cs : Array Value) (w : World) : World :=
  { w with heap := w.heap.modify g fun
      | .cells _ t frozen => .cells cs t frozen
      | o => o }
end Go.Proofs.YtmhaaggmfgojbaaDoor.X

/-! HOps -/
-- Lean text made by rows.py (ours). Lean checks it.
namespace Go.Proofs.YtmhaaggmfgojbaaDoor.X
open Go.RowKit Go.Proofs.YtmhaaggmfgojbaaDoorW.PrintWords
set_option linter.unusedVariables false
set_option maxRecDepth 100000
def B23 (x : S23) : Nat := ((x.f0).size + 1) + ((x.f1).size + 1) + 1
def G23 (x : S23) : Prop := (True) ∧ (True)
theorem op23 : Op 23 k23 B23 G23 := op_struct Tryd.underlying23 (by kernel_rfl) (opf_cons (op_string Tryd.underlying9) rfl (by kernel_rfl) (opf_one (op_string Tryd.underlying9) rfl (by kernel_rfl))) (fun x : S23 => (x.f0, x.f1)) (fun p => ⟨p.1, p.2⟩) (fun _ => rfl)
def B41 (l : List ByteArray) : Nat := (l.map fun x => (x).size + 1).sum + 1
def G41 (l : List ByteArray) : Prop := ∀ x ∈ l, True
theorem op41 : Op 41 (Kd.slice 9 Kd.string) B41 G41 := op_slice (⟨#[]⟩ : ByteArray) Tryd.underlying41 (op_string Tryd.underlying9) (by kernel_rfl)
def B43 (x : S43) : Nat := ((x.f0).size + 1) + (((x.f1).size + 1) + (B41 (x.f2))) + 1
def G43 (x : S43) : Prop := (True) ∧ ((True) ∧ (G41 (x.f2)))
theorem op43 : Op 43 k43 B43 G43 := op_struct Tryd.underlying43 (by kernel_rfl) (opf_cons (op_string Tryd.underlying9) rfl (by kernel_rfl) (opf_cons (op_string Tryd.underlying9) rfl (by kernel_rfl) (opf_one op41 rfl (by kernel_rfl)))) (fun x : S43 => (x.f0, x.f1, x.f2)) (fun p => ⟨p.1, p.2.1, p.2.2⟩) (fun _ => rfl)
def B24 (l : List S43) : Nat := (l.map fun x => B43 (x)).sum + 1
def G24 (l : List S43) : Prop := ∀ x ∈ l, G43 (x)
theorem op24 : Op 24 (Kd.slice 43 k43) B24 G24 := op_slice z43 Tryd.underlying24 op43 (by kernel_rfl)
def B129 (x : S129) : Nat := ((x.f0).size + 1) + (((x.f1).size + 1) + (((x.f2).size + 1) + (((x.f3).size + 1) + (((x.f4).size + 1) + ((1) + ((x.f6).size + 1)))))) + 1
def G129 (x : S129) : Prop := (True) ∧ ((True) ∧ ((True) ∧ ((True) ∧ ((True) ∧ ((True) ∧ (True))))))
theorem op129 : Op 129 k129 B129 G129 := op_struct Tryd.underlying129 (by kernel_rfl) (opf_cons (op_string Tryd.underlying9) rfl (by kernel_rfl) (opf_cons (op_string Tryd.underlying9) rfl (by kernel_rfl) (opf_cons (op_string Tryd.underlying9) rfl (by kernel_rfl) (opf_cons (op_string Tryd.underlying9) rfl (by kernel_rfl) (opf_cons (op_string Tryd.underlying9) rfl (by kernel_rfl) (opf_cons (op_bool Tryd.underlying4) rfl (by kernel_rfl) (opf_one (op_string Tryd.underlying9) rfl (by kernel_rfl)))))))) (fun x : S129 => (x.f0, x.f1, x.f2, x.f3, x.f4, x.f5, x.f6)) (fun p => ⟨p.1, p.2.1, p.2.2.1, p.2.2.2.1, p.2.2.2.2.1, p.2.2.2.2.2.1, p.2.2.2.2.2.2⟩) (fun _ => rfl)
def B25 (l : List S129) : Nat := (l.map fun x => B129 (x)).sum + 1
def G25 (l : List S129) : Prop := ∀ x ∈ l, G129 (x)
theorem op25 : Op 25 (Kd.slice 129 k129) B25 G25 := op_slice z129 Tryd.underlying25 op129 (by kernel_rfl)
def B27 (x : S27) : Nat := ((x.f0).size + 1) + ((B23 (x.f1)) + ((B24 (x.f2)) + (B25 (x.f3)))) + 1
def G27 (x : S27) : Prop := (True) ∧ ((G23 (x.f1)) ∧ ((G24 (x.f2)) ∧ (G25 (x.f3))))
theorem op27 : Op 27 k27 B27 G27 := op_struct Tryd.underlying27 (by kernel_rfl) (opf_cons (op_string Tryd.underlying9) rfl (by kernel_rfl) (opf_cons op23 rfl (by kernel_rfl) (opf_cons op24 rfl (by kernel_rfl) (opf_one op25 rfl (by kernel_rfl))))) (fun x : S27 => (x.f0, x.f1, x.f2, x.f3)) (fun p => ⟨p.1, p.2.1, p.2.2.1, p.2.2.2⟩) (fun _ => rfl)
def B39 (x : S39) : Nat := ((x.f0).size + 1) + ((x.f1).size + 1) + 1
def G39 (x : S39) : Prop := (True) ∧ (True)
theorem op39 : Op 39 k39 B39 G39 := op_struct Tryd.underlying39 (by kernel_rfl) (opf_cons (op_string Tryd.underlying9) rfl (by kernel_rfl) (opf_one (op_string Tryd.underlying9) rfl (by kernel_rfl))) (fun x : S39 => (x.f0, x.f1)) (fun p => ⟨p.1, p.2⟩) (fun _ => rfl)
def B37 (l : List S39) : Nat := (l.map fun x => B39 (x)).sum + 1
def G37 (l : List S39) : Prop := ∀ x ∈ l, G39 (x)
theorem op37 : Op 37 (Kd.slice 39 k39) B37 G37 := op_slice z39 Tryd.underlying37 op39 (by kernel_rfl)
end Go.Proofs.YtmhaaggmfgojbaaDoor.X

/-! HBulkP -/
namespace Go.Proofs.YtmhaaggmfgojbaaDoor.X
open Go.RowKit Go.Proofs.YtmhaaggmfgojbaaDoorW.PrintWords Go.Proofs.YtmhaaggmfgojbaaDoor.Spec
set_option linter.unusedVariables false
theorem B_le {l : List Pr} {p : Pr} (h : p ∈ l) : B39 p ≤ (l.map fun x => B39 x).sum := by
 induction l with
 | nil => cases h
 | cons q r ih =>
  simp only [List.map_cons, List.sum_cons]
  rcases List.mem_cons.1 h with rfl | h
  ·omega
  ·have := ih h; omega
theorem len_le (l : List Pr) : l.length ≤ (l.map fun x => B39 x).sum := by
  induction l with
  | nil => simp
  | cons q r ih => simp only [List.map_cons, List.sum_cons, List.length_cons]; have : 1 ≤ B39 q := by unfold B39; omega
                   omega
theorem small_of {l : List Pr} (hb : B37 l ≤ 1048576) : (∀ p ∈ l, psz p ≤ 1048576) ∧ l.length ≤ 1048576 := by
 unfold B37 at hb
 constructor
 ·intro p hp
  have := B_le hp
  have hB : B39 p = psz p + 3 := by unfold B39 psz; omega
  omega
 ·have := len_le l; omega
end Go.Proofs.YtmhaaggmfgojbaaDoor.X

/-! HAskT -/
namespace Go.Proofs.YtmhaaggmfgojbaaDoor.X
open Go.RowKit Go.Proofs.YtmhaaggmfgojbaaDoorW.PrintWords Go.Proofs.YtmhaaggmfgojbaaDoor.Spec
set_option linter.unusedVariables false
set_option linter.unusedSimpArgs false

set_option maxRecDepth 100000 in
theorem answers_ok : exequaturlaw17_answers.f = some true := by decide +kernel

/-! sizes of what is parsed -/
theorem unq_len : ∀ (n : Nat) (l o : List UInt8), l.length ≤ n → unquoteL l = some o → o.length ≤ l.length := by
 intro n
 induction n with
 | zero =>
  intro l o hl h
  have : l = [] := List.length_eq_zero_iff.1 (by omega)
  subst this
  obtain rfl := Option.some.inj h
  simp
 | succ n ih =>
  intro l o hl h
  match l, hl, h with
  | [], _, h => obtain rfl := Option.some.inj h; simp
  | c :: r, hl, h =>
   by_cases hc : c = 37
   ·subst hc
    match r, hl, h with
    | [], _, h => rw [unq_short [] (by simp)] at h; cases h
    | [a], _, h => rw [unq_short [a] (by simp)] at h; cases h
    | a :: b :: r', hl, h =>
     by_cases h1 : digv a < 0
     ·rw [unq_bad a b r' (.inl h1)] at h; cases h
     ·by_cases h2 : digv b < 0
      ·rw [unq_bad a b r' (.inr h2)] at h; cases h
      ·rw [unq_ok a b r' (by omega) (by omega)] at h
       obtain ⟨o', ho, rfl⟩ := Option.map_eq_some_iff.1 h
       have := ih r' o' (by simp only [List.length_cons] at hl; omega) ho
       simp only [List.length_cons]; omega
   ·rw [unq_plain c r hc] at h
    obtain ⟨o', ho, rfl⟩ := Option.map_eq_some_iff.1 h
    have := ih r o' (by simp only [List.length_cons] at hl; omega) ho
    simp only [List.length_cons]; omega
theorem pair1_size (s : ByteArray) (p : Pr) (h : pair1 s = some p) : p.f0.size ≤ s.size ∧ p.f1.size ≤ s.size := by
 unfold pair1 at h
 split at h
 ·rename_i a b ha hb
  obtain rfl := Option.some.inj h
  have h1 := unq_len _ _ _ (Nat.le_refl _) ha
  have h2 := unq_len _ _ _ (Nat.le_refl _) hb
  have h3 := pre_length_le 61 (bl s)
  have h4 := post_length_le 61 (bl s)
  rw [bl_length] at h3 h4
  simp only [size_ba]
  omega
 ·cases h
theorem form_sizes (M : Nat) : ∀ (parts : List ByteArray) (acc l : List Pr), (∀ p ∈ parts, p.size ≤ M) → (∀ p ∈ acc, p.f0.size ≤ M ∧ p.f1.size ≤ M) → parts.foldl formStep (some acc) = some l → ∀ p ∈ l, p.f0.size ≤ M ∧ p.f1.size ≤ M := by
 intro parts
 induction parts with
 | nil => intro acc l _ ha h; obtain rfl := Option.some.inj h; exact ha
 | cons s r ih =>
  intro acc l hp ha h
  rw [List.foldl_cons] at h
  have hs := hp s (List.mem_cons_self ..)
  unfold formStep at h
  split at h
  ·exact ih acc l (fun p hq => hp p (List.mem_cons_of_mem _ hq)) ha h
  ·rw [Option.bind_some] at h
   cases h1 : pair1 s with
   | none => rw [h1] at h; simp only [Option.map_none] at h; have hn := form_none r; unfold formStep at hn; rw [hn] at h; cases h
   | some q =>
    rw [h1] at h
    refine ih (acc ++ [q]) l (fun p hq => hp p (List.mem_cons_of_mem _ hq)) (fun p hq => ?_) h
    rcases List.mem_append.1 hq with hq | hq
    ·exact ha p hq
    ·obtain rfl := List.mem_singleton.1 hq
     have := pair1_size s p h1
     omega
theorem parse_sizes (s : ByteArray) (l : List Pr) (e : Int) (h : pairs_Parse.f s = some (l, e)) : ∀ p ∈ l, p.f0.size ≤ s.size ∧ p.f1.size ≤ s.size := by
 rw [parse_f] at h
 have h := Option.some.inj h
 split at h
 ·obtain ⟨rfl, rfl⟩ := Prod.mk.inj h
  intro p hp; cases hp
 ·unfold formFin at h
  split at h
  ·obtain ⟨rfl, rfl⟩ := Prod.mk.inj h
   intro p hp; cases hp
  ·rename_i m hm
   split at h
   ·obtain ⟨rfl, rfl⟩ := Prod.mk.inj h
    intro p hp; cases hp
   ·obtain ⟨rfl, rfl⟩ := Prod.mk.inj h
    exact form_sizes s.size (spParts 38 s) [] m (spParts_sizes 38 s) (fun p hp => by cases hp) hm
theorem get_size (l : List Pr) (M : Nat) (h : ∀ p ∈ l, p.f0.size ≤ M ∧ p.f1.size ≤ M) (key : ByteArray) : (askGet l key).size ≤ M := by
 unfold askGet
 have hr := idxOf_range (fun x : S39 => x.f0.toList == key.toList) l
 split
 ·exact Nat.zero_le _
 ·rename_i hn
  obtain ⟨i, hi⟩ : ∃ i : Nat, idxOf (fun x : S39 => x.f0.toList == key.toList) l = (i : Int) := ⟨(idxOf (fun x : S39 => x.f0.toList == key.toList) l).toNat, by omega⟩
  rw [hi, rd_pr l i (by omega)]
  exact (h _ (List.getElem_mem _)).2

/-! what Check answers -/
inductive AskIs (l3 : List S43) (l : List Pr) (ok : Bool) : Ask6 → Prop
  | no (why : ByteArray) (h : bl why ≠ []) : AskIs l3 l ok (askNo why)
  | yes (i : Nat) (hi : i < l3.length) (hf : findC l3 (askGet l ⟨#[99, 108, 105, 101, 110, 116, 95, 105, 100]⟩) = i) (ho : ok = true) (r : Ask6) (h1 : r.1 = l3[i].f0) (h2 : r.2.1 = askGet l ⟨#[114, 101, 100, 105, 114, 101, 99, 116, 95, 117, 114, 105]⟩) (h3 : hasT r.2.1 l3[i].f2 = true) (h4 : bl r.2.2.2.2.2.2.1 = [] ∨ r.2.2.2.2.2.2.2 = true) : AskIs l3 l ok r
theorem ask_is (a0 a1 a2 : ByteArray) (l3 : List S43) (l4 : List S129) (q : ByteArray) (hq : q.size ≤ 1048576) (hr : ∀ x ∈ l3, x.f2.length ≤ 1048576) (l : List Pr) (e : Int) (hp : pairs_Parse.f q = some (l, e)) :
  ∃ r, ask_Check.f a0 a1 a2 l3 l4 q = some r ∧ AskIs l3 l (decide (e = 0) && !((distinct (keysOf l)).length != l.length)) r := by
 have hs := parse_sizes q l e hp
 have hl := parse_small q _ hp
 simp only at hl
 have hreq : bl (⟨#[105, 110, 118, 97, 108, 105, 100, 95, 114, 101, 113, 117, 101, 115, 116]⟩ : ByteArray) ≠ [] := by decide
 unfold ask_Check.f
 rw [hp, Option.bind_some]
 dsimp only
 by_cases he : e = 0
 ·rw [if_pos he]
  have htw : pairs_Twice.f l = some ((distinct (keysOf l)).length != l.length) := by
   unfold pairs_Twice.f
   rw [if_pos ⟨fun x hx => by have := (hs x hx).1; unfold maxLen; omega, by unfold maxLen; omega⟩]
   rfl
  rw [htw, Option.bind_some]
  by_cases ht : ((distinct (keysOf l)).length != l.length) = true
  ·rw [if_pos ht]
   exact ⟨_, rfl, .no _ hreq⟩
  ·rw [if_neg ht]
   have hok : (decide (e = 0) && !((distinct (keysOf l)).length != l.length)) = true := by rw [decide_eq_true he, Bool.eq_false_iff.2 ht]; rfl
   unfold client_Client.f
   have hrange := idxOf_range (fun x : S43 => x.f0.toList == (askGet l ⟨#[99, 108, 105, 101, 110, 116, 95, 105, 100]⟩).toList) l3
   by_cases hn : findC l3 (askGet l ⟨#[99, 108, 105, 101, 110, 116, 95, 105, 100]⟩) < 0
   ·rw [if_pos hn, Option.bind_some]
    dsimp only
    rw [if_neg (by simp)]
    exact ⟨_, rfl, .no _ (by decide)⟩
   ·obtain ⟨i, hi⟩ : ∃ i : Nat, findC l3 (askGet l ⟨#[99, 108, 105, 101, 110, 116, 95, 105, 100]⟩) = (i : Int) := ⟨(findC l3 (askGet l ⟨#[99, 108, 105, 101, 110, 116, 95, 105, 100]⟩)).toNat, by omega⟩
    have hil : i < l3.length := by
     have := hrange.2
     rw [show idxOf (fun x : S43 => x.f0.toList == (askGet l ⟨#[99, 108, 105, 101, 110, 116, 95, 105, 100]⟩).toList) l3 = (i : Int) from hi] at this
     omega
    have hfl := hr _ (List.getElem_mem hil)
    rw [if_neg hn, hi, rd_cl l3 i hil, if_pos (by omega), Option.bind_some]
    dsimp only
    rw [if_pos rfl, if_pos (by omega)]
    unfold askOf
    by_cases hh : hasT (askGet l ⟨#[114, 101, 100, 105, 114, 101, 99, 116, 95, 117, 114, 105]⟩) l3[i].f2 = false
    ·rw [if_pos hh]
     exact ⟨_, rfl, .no _ hreq⟩
    ·have hT : hasT (askGet l ⟨#[114, 101, 100, 105, 114, 101, 99, 116, 95, 117, 114, 105]⟩) l3[i].f2 = true := by simpa using hh
     have hg : ∀ key, (askGet l key).size ≤ 1073741824 := fun key => Nat.le_trans (get_size l q.size hs key) (by omega)
     rw [if_neg hh, if_pos ⟨hg _, hg _, hg _, hg _⟩]
     split
     ·exact ⟨_, rfl, .yes i hil hi hok _ rfl rfl hT (.inl rfl)⟩
     ·exact ⟨_, rfl, .yes i hil hi hok _ rfl rfl hT (.inr rfl)⟩
 ·rw [if_neg he]
  exact ⟨_, rfl, .no _ hreq⟩
theorem config_small {x : S27} (hb : B27 x ≤ 1048576) : ∀ y ∈ x.f2, y.f2.length ≤ 1048576 := by
 intro y hy
 have h1 : B24 x.f2 ≤ 1048576 := by unfold B27 at hb; omega
 unfold B24 at h1
 have h2 : ∀ (l : List S43), y ∈ l → B43 y ≤ (l.map fun z => B43 z).sum := by
  intro l
  induction l with
  | nil => intro h; cases h
  | cons q r ih =>
   intro h
   simp only [List.map_cons, List.sum_cons]
   rcases List.mem_cons.1 h with rfl | h
   ·omega
   ·have := ih h; omega
 have h3 := h2 _ hy
 have h4 : y.f2.length ≤ B41 y.f2 := by
  unfold B41
  have : ∀ l : List ByteArray, l.length ≤ (l.map fun z => z.size + 1).sum := by
   intro l
   induction l with
   | nil => simp
   | cons q r ih => simp only [List.map_cons, List.sum_cons, List.length_cons]; omega
  have := this y.f2
  omega
 have h5 : B41 y.f2 ≤ B43 y := by unfold B43; omega
 omega
end Go.Proofs.YtmhaaggmfgojbaaDoor.X
