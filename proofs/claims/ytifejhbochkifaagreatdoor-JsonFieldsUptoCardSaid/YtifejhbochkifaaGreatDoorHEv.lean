/- Ours: what a function with rounds answers from some number of rounds on. -/
import Derived.Test.YtifejhbochkifaaGreatDoorBA
import Derived.Lib.LazyBuf
namespace Go.Proofs.YtifejhbochkifaaGreatDoor.X
open Go.RowKit Go.Proofs.YtifejhbochkifaaGreatDoorW.PrintWords Go.Proofs.YtifejhbochkifaaGreatDoor.Spec
set_option linter.unusedVariables false

def Ev {α : Type} (g : Nat → Option α) (x : α) : Prop := ∃ K, ∀ k, K ≤ k → g k = some x
theorem Ev.const {α : Type} {g : Option α} {x : α} (h : g = some x) : Ev (fun _ => g) x := ⟨0, fun _ _ => h⟩
theorem Ev.bind {α β : Type} {g : Nat → Option α} {h : Nat → α → Option β} {a : α} {x : β} (ha : Ev g a) (hx : Ev (fun k => h k a) x) : Ev (fun k => (g k).bind (h k)) x := by
 obtain ⟨K1, h1⟩ := ha
 obtain ⟨K2, h2⟩ := hx
 exact ⟨K1 + K2, fun k hk => by show (g k).bind (h k) = some x; rw [h1 k (by omega)]; exact h2 k (by omega)⟩
theorem Ev.step {α : Type} {g g' : Nat → Option α} {x : α} (h : ∀ k, g (k + 1) = g' k) (hx : Ev g' x) : Ev g x := by
 obtain ⟨K, hK⟩ := hx
 exact ⟨K + 1, fun k hk => by obtain ⟨j, rfl⟩ : ∃ j, k = j + 1 := ⟨k - 1, by omega⟩; rw [h]; exact hK j (by omega)⟩
theorem Ev.if_pos {α : Type} {c : Prop} [Decidable c] {g h : Nat → Option α} {x : α} (hc : c) (hx : Ev g x) : Ev (fun k => if c then g k else h k) x := by
 have e : (fun k => if c then g k else h k) = g := funext fun k => _root_.if_pos hc
 rw [e]; exact hx
theorem Ev.if_neg {α : Type} {c : Prop} [Decidable c] {g h : Nat → Option α} {x : α} (hc : ¬ c) (hx : Ev h x) : Ev (fun k => if c then g k else h k) x := by
 have e : (fun k => if c then g k else h k) = h := funext fun k => _root_.if_neg hc
 rw [e]; exact hx
theorem Ev.some {α : Type} (x : α) : Ev (fun _ => Option.some x) x := ⟨0, fun _ _ => rfl⟩
theorem Ev.get {α : Type} {g : Nat → Option α} {x : α} (h : Ev g x) : ∃ k, g k = Option.some x := let ⟨K, hK⟩ := h; ⟨K, hK K (Nat.le_refl _)⟩
theorem Ev.uni {α : Type} {g : Nat → Option α} {x y : α} (h : Ev g x) (e : x = y) : Ev g y := e ▸ h
theorem Ev.of_mono {α : Type} {g : Nat → Option α} {x : α} (hm : ∀ k, LeO (g k) (g (k + 1))) {K : Nat} (h : g K = Option.some x) : Ev g x :=
 ⟨K, fun k hk => by
  obtain ⟨d, rfl⟩ : ∃ d, k = K + d := ⟨k - K, by omega⟩
  clear hk
  induction d with
  | zero => exact h
  | succ d ih => exact hm _ _ ih⟩

theorem w64 {n : Int} (h0 : -9223372036854775808 ≤ n) (h1 : n ≤ 9223372036854775807) : wrap64 n = n := by unfold wrap64; omega

/-- bytes as numbers -/
def nb (l : List UInt8) : List Int := l.map fun b => (b.toNat : Int)
@[simp] theorem nb_length (l : List UInt8) : (nb l).length = l.length := by simp [nb]
theorem nb_append (a b : List UInt8) : nb (a ++ b) = nb a ++ nb b := by simp [nb]
theorem str_nb (l : List UInt8) : strOfNums (nb l) = ba l := Lib.Lz.strOfNums_map l
theorem str_nil : strOfNums [] = ba [] := rfl

/-! the first place of a byte -/
theorem pre_get {c : UInt8} {l : List UInt8} {i : Nat} (h : i < (pre c l).length) : ∃ h' : i < l.length, l[i] ≠ c := by
 have hl := pre_length_le c l
 refine ⟨by omega, ?_⟩
 have hp : pre c l <+: l := List.takeWhile_prefix _
 obtain ⟨r, hr⟩ := hp
 have e : l[i]'(by omega) = (pre c l)[i] := by
  have : l[i]? = (pre c l)[i]? := by
   conv => lhs; rw [← hr]
   rw [List.getElem?_append_left h]
  rw [List.getElem?_eq_getElem (by omega), List.getElem?_eq_getElem h] at this
  exact Option.some.inj this
 rw [e]
 intro hc
 have := not_mem_pre c l
 have hm : (pre c l)[i] ∈ pre c l := List.getElem_mem h
 rw [hc] at hm
 exact this hm
theorem pre_at {c : UInt8} {l : List UInt8} (h : (pre c l).length < l.length) : l[(pre c l).length] = c := by
 have hm : c ∈ l := by
  by_cases hm : c ∈ l
  ·exact hm
  ·rw [pre_of_not_mem hm] at h; omega
 have hp := pre_post hm
 have : l[(pre c l).length]? = some c := by
  have hq : l[(pre c l).length]? = (pre c l ++ c :: post c l)[(pre c l).length]? := congrArg (fun z : List UInt8 => z[(pre c l).length]?) hp
  rw [hq, List.getElem?_append_right (Nat.le_refl _)]; simp
 rw [List.getElem?_eq_getElem h] at this
 exact Option.some.inj this
theorem pre_lt_iff {c : UInt8} {l : List UInt8} : (pre c l).length < l.length ↔ c ∈ l := by
 constructor
 ·intro h
  exact (pre_at h) ▸ List.getElem_mem h
 ·intro h
  have := congrArg List.length (pre_post h)
  simp at this; omega
theorem toNat_inj {a b : UInt8} : ((a.toNat : Int) = (b.toNat : Int)) ↔ a = b := by
 constructor
 ·intro h
  exact UInt8.toNat_inj.1 (by omega)
 ·rintro rfl; rfl
theorem toNat_lt (a : UInt8) : a.toNat < 256 := a.toNat_lt
end Go.Proofs.YtifejhbochkifaaGreatDoor.X
