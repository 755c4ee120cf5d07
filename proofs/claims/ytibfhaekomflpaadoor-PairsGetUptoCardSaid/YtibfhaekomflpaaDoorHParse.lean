/- pairs.Parse: a range over SplitSeq. -/
import Derived.RangeFuncNested
import Derived.RangeFuncBound
import Derived.RangeFuncCalls
import Derived.RangeFuncLeaves
import Derived.RangeFuncFrom
import Derived.RangeFuncBox
import Derived.WalkKit
import Derived.OwnWalkIn
import Derived.TacticsInMore
import Derived.LoopNIn
import Derived.LoopIn
import Derived.Test.YtibfhaekomflpaaDoorHSplitSeq
import Derived.Test.YtibfhaekomflpaaDoorX5
namespace Go.Proofs.YtibfhaekomflpaaDoor.X
open Go.RowKit Go.Shelf Go.Proofs.YtibfhaekomflpaaDoorW.PrintWords Go.Proofs.YtibfhaekomflpaaDoorW.PrintLast Go.Proofs.YtibfhaekomflpaaDoorW.PrintMore Go.Proofs.YtibfhaekomflpaaDoor.Spec
set_option linter.unusedVariables false
set_option linter.unusedSimpArgs false
attribute [local go_sem] Oper.semAt_some

def pair1 (s : ByteArray) : Option S30 := match unquoteL (pre 61 (bl s)), unquoteL (post 61 (bl s)) with | some a, some b => some ⟨ba a, ba b⟩ | _, _ => none
def formStep (acc : Option (List S30)) (s : ByteArray) : Option (List S30) := if s.size = 0 then acc else acc.bind (fun a => (pair1 s).map (fun p => a ++ [p]))
def formOf (l : List ByteArray) : Option (List S30) := l.foldl formStep (some [])
theorem formOf_snoc (l : List ByteArray) (s : ByteArray) : formOf (l ++ [s]) = formStep (formOf l) s := by simp [formOf, List.foldl_append]
theorem form_none (l : List ByteArray) : l.foldl formStep none = none := by
  induction l with
  | nil => rfl
  | cons s r ih => rw [List.foldl_cons]; unfold formStep at *; split <;> simpa using ih
theorem formOf_none {a b : List ByteArray} (h : formOf a = none) (hp : a <+: b) : formOf b = none := by
  obtain ⟨r, rfl⟩ := hp
  unfold formOf at *
  rw [List.foldl_append, h]
  exact form_none r
theorem post_length_le (c : UInt8) (l : List UInt8) : (post c l).length ≤ l.length := by
  induction l with
  | nil => simp [post]
  | cons x r ih => unfold post at *; simp only [List.dropWhile_cons]; split <;> simp <;> simp at ih <;> omega
theorem pair_f (s : ByteArray) (h : s.size ≤ 140737488355328) : pairs_pair.f s = some (match pair1 s with | some p => (p.f0, p.f1, 0) | none => (⟨#[]⟩, ⟨#[]⟩, 2)) := by
  unfold pairs_pair.f pair1 strings_Cut.f
  have e61 : bl (⟨#[61]⟩ : ByteArray) = [61] := rfl
  rw [e61]
  simp only [h, if_true, Option.bind_some]
  have h1 : (ba (pre 61 (bl s))).size ≤ 140737488355328 := by rw [size_ba]; have := pre_length_le 61 (bl s); rw [bl_length] at this; omega
  have h2 : (ba (post 61 (bl s))).size ≤ 140737488355328 := by rw [size_ba]; have := post_length_le 61 (bl s); rw [bl_length] at this; omega
  unfold text_Unquote.f
  rw [if_pos h1, if_pos h2, bl_ba, bl_ba]
  cases unquoteL (pre 61 (bl s)) with
  | none => simp
  | some a =>
    cases unquoteL (post 61 (bl s)) with
    | none => simp
    | some b => simp

def pairs_Parse.f (a0 : ByteArray) : Option (List S30 × Int) :=
  some (if 4096 < a0.size then ([], 3) else match formOf (spParts 38 a0) with | none => ([], 2) | some l => if 64 < l.length then ([], 3) else (l, 0))

set_option maxHeartbeats 1000000 in
set_option maxRecDepth 100000 in
theorem strings_SplitSeq_one (s : ByteArray) (c : UInt8) (w : World) :
    Calls Tryd.prog 18 #[.string s, .string ⟨#[c]⟩] w fun e w' => e = .returned (.func (.func 38) #[] #[.pointer (some ⟨w.heap.size + 1, 0, none⟩), .pointer (some ⟨w.heap.size, 0, none⟩), .pointer (some ⟨w.heap.size + 2, 0, none⟩)]) ∧ w' = ((w.alloc (.cells #[.string s] 9)).alloc (.cells #[.string ⟨#[c]⟩] 9)).alloc (.cells #[.int .i64 0] 3) := by
  go_enter Tryd.func18, Tryd.ntmps18
  go_wp2
  go_ret
  exact ⟨rfl, rfl⟩

set_option maxHeartbeats 2000000 in
set_option maxRecDepth 100000 in
theorem parse_long (a0 : ByteArray) (w : World) (h : 4096 < a0.size) :
    Calls Tryd.prog 8 #[.string a0] w fun e w' => e = .returned (.tuple #[.slice none 0 0, .int .i64 3]) ∧ Below w.heap.size w w' := by
  have h' : ((4096 : Int) < (a0.size : Int)) := by omega
  go_enter Tryd.func8, Tryd.ntmps8
  go_wp2
  exact bodyPost_ret (v := .tuple #[.slice none 0 0, .int .i64 3]) (by simp [results, Tryd.results8, go_sem]) rfl ⟨rfl, below_alloc (below_alloc (Below.refl _ w) _) _⟩

def flatP (l : List S30) : List Value := l.flatMap (fun p => [.string p.f0, .string p.f1])
theorem flatP_snoc (l : List S30) (p : S30) : flatP (l ++ [p]) = flatP l ++ [.string p.f0, .string p.f1] := by simp [flatP]
theorem flatP_reps (w : World) (base : Nat) (ok : Nat → Prop) (l : List S30) : Reps (fun p cs => k30.M w base ok p cs) 2 l (flatP l) := by
  have : ∀ (a b : List S30), Reps (fun p cs => k30.M w base ok p cs) 2 a (flatP a) → Reps (fun p cs => k30.M w base ok p cs) 2 (a ++ b) (flatP (a ++ b)) := by
    intro a b
    induction b generalizing a with
    | nil => intro h; simpa using h
    | cons p r ih =>
      intro h
      have := ih (a ++ [p]) (by rw [flatP_snoc]; exact h.snoc (k30_mkM w base ok p) rfl)
      simpa using this
  exact this [] l (Reps.none _ _)
theorem own_pairs {W : World} {base b0 : Nat} {v : Value} {l : List S30} (h : W.ownsRow base 30 2 v l.length (flatP l)) (hb : b0 ≤ base) : Kd.R k30 30 W b0 (fun _ => True) v l :=
  ⟨fun _ _ => trivial, flatP l, own_weaken h hb, flatP_reps _ _ _ l⟩
theorem grown_store (W : World) (b : Nat) (v : Value) : W.grownBy (W.setCell ⟨b, 0, none⟩ v) (some b) :=
  ⟨rfl, rfl, rfl, by simp [World.setCell], fun k _ hk => set_other (fun e => hk (by rw [e]))⟩
theorem heap_alloc_at (w : World) (o : Obj) (k : Nat) : (w.alloc o).heap[k]? = if k = w.heap.size then some o else w.heap[k]? := by
  show (w.heap.push o)[k]? = _
  rw [Array.getElem?_push]
/-- between two parts: the results' cells, what was gathered -/
def PsI (w : World) (pr : List ByteArray) (W : World) : Prop :=
  ∃ (acc : List S30) (v : Value), formOf pr = some acc ∧ acc.length ≤ pr.length ∧ W.heap[w.heap.size]? = some (.cells #[.slice none 0 0] 22 (0, 0)) ∧ W.heap[w.heap.size + 1]? = some (.cells #[.int .i64 0] 23 (0, 0)) ∧ W.heap[w.heap.size + 2]? = some (.cells #[v] 22 (0, 0)) ∧
    W.ownsRow (w.heap.size + 6) 30 2 v acc.length (flatP acc) ∧ w.heap.size + 6 ≤ W.heap.size ∧ Below w.heap.size w W
/-- a part that is no pair -/
def PsX (w : World) (c : Code) (pr : List ByteArray) (W : World) : Prop :=
  c = .ret ∧ formOf pr = none ∧ W.heap[w.heap.size]? = some (.cells #[.slice none 0 0] 22 (0, 0)) ∧ W.heap[w.heap.size + 1]? = some (.cells #[.int .i64 2] 23 (0, 0)) ∧ Below w.heap.size w W
theorem grown_cells {A B : World} {row : Option Nat} {k n : Nat} {v : Value} {t : TypeId} (hg : A.grownBy B row) (hr : ∀ r, row = some r → n ≤ r) (hk : k < n) (hkA : A.heap[k]? = some (.cells #[v] t (0, 0))) : B.heap[k]? = some (.cells #[v] t (0, 0)) :=
  (hg.block k (Array.getElem?_eq_some_iff.1 hkA).1 (fun e => by have := hr k e.symm; omega)).trans hkA
theorem PsI.own (w : World) (W0 : Nat) (h6 : w.heap.size + 6 ≤ W0) : OwnFrom W0 (PsI w) := by
  rintro s A B row ⟨acc, v, h1, h2, c0, c1, c2, hR, hS6, hB⟩ hg hr
  have hr' : ∀ r, row = some r → w.heap.size + 6 ≤ r := fun r e => by have := (hr r e).1; omega
  refine ⟨acc, v, h1, h2, grown_cells hg hr' (by omega) c0, grown_cells hg hr' (by omega) c1, grown_cells hg hr' (by omega) c2, ?_, Nat.le_trans hS6 hg.size, hB.grown hg hB.size (fun k e => by have := hr' k e; omega)⟩
  refine hR.kept hg ?_
  cases hv : v.ownBlock with
  | none => exact .inl rfl
  | some k =>
    refine .inr (fun e => ?_)
    obtain ⟨cells, hc⟩ := own_typed hR k hv
    obtain ⟨_, o, ho, hno⟩ := hr k e.symm
    rw [hc] at ho
    obtain rfl := Option.some.inj ho
    simp [Obj.isCells] at hno
theorem PsX.own (w : World) (W0 : Nat) (h6 : w.heap.size + 6 ≤ W0) (c : Code) : OwnFrom W0 (PsX w c) := by
  rintro s A B row ⟨h1, h2, c0, c1, hB⟩ hg hr
  have hr' : ∀ r, row = some r → w.heap.size + 6 ≤ r := fun r e => by have := (hr r e).1; omega
  exact ⟨h1, h2, grown_cells hg hr' (by omega) c0, grown_cells hg hr' (by omega) c1, hB.grown hg hB.size (fun k e => by have := hr' k e; omega)⟩
theorem PsI.ab (w : World) (s : List ByteArray) (A B : World) (h : PsI w s A) (hab : SpAb (w.heap.size + 3) A B) : PsI w s B := by
  obtain ⟨acc, v, h1, h2, c0, c1, c2, hR, hS6, hB⟩ := h
  obtain ⟨row, hg, hrow⟩ := hab
  have hr' : ∀ r, row = some r → w.heap.size + 3 ≤ r := fun r e => by
    rcases hrow with h | h
    · rw [h] at e; cases e
    · rw [h] at e; cases e; exact Nat.le_refl _
  refine ⟨acc, v, h1, h2, grown_cells hg hr' (by omega) c0, grown_cells hg hr' (by omega) c1, grown_cells hg hr' (by omega) c2, ?_, Nat.le_trans hS6 hg.size, hB.grown hg hB.size (fun k e => by have := hr' k e; omega)⟩
  refine hR.kept hg ?_
  cases hv : v.ownBlock with
  | none => exact .inl rfl
  | some k =>
    refine .inr (fun e => ?_)
    have hk := own_base hR k hv
    rcases hrow with h | h
    · rw [h] at e; cases e
    · rw [h] at e; cases e; omega

/-- the function's end behind the loop -/
theorem ps_end (w W : World) (D : Nat) (tmps : Array Value) (v : Value) (e : Int) {r1 : List S30} {r2 : Int}
    (t2 : tmps.getD 2 undef = .pointer (some ⟨w.heap.size, 0, none⟩)) (t3 : tmps.getD 3 undef = .pointer (some ⟨w.heap.size + 1, 0, none⟩)) (hD : w.heap.size + 6 ≤ D)
    (c0 : W.heap[w.heap.size]? = some (.cells #[v] 22 (0, 0))) (c1 : W.heap[w.heap.size + 1]? = some (.cells #[.int .i64 e] 23 (0, 0))) (hK : W.heap[D]? = some (.deferred (some [])))
    (he : e = r2) (hR : ∀ W', W.grownBy W' (some D) → Kd.R k30 30 W' w.heap.size (fun _ => True) v r1) (hB : Below w.heap.size w W) :
    bodyPostM Fence.wide 6 Tryd.prog Tryd.f8 (fun e w' => ∃ v0_ : Value, e = .returned (.tuple #[v0_, .int .i64 r2]) ∧ Kd.R k30 30 w' w.heap.size (fun _ => True) v0_ r1 ∧ Below w.heap.size w w')
      .ret { tmps := tmps, defers := [{ target := .collected D, args := #[] }] } W := by
  subst he
  refine ⟨by simp, .inl ⟨_, _, rfl, run_takeDeferred hK, ?_⟩⟩
  have q0 : (W.putObj D (.deferred none)).cell? ⟨w.heap.size, 0, none⟩ = some v := cell_of_block ((World.putObj_heap_other (by omega)).trans c0)
  have q1 : (W.putObj D (.deferred none)).cell? ⟨w.heap.size + 1, 0, none⟩ = some (.int .i64 e) := cell_of_block ((World.putObj_heap_other (by omega)).trans c1)
  refine ⟨.tuple #[v, .int .i64 e], ?_, v, rfl, hR _ (grownBy_putObj' W D _), hB.trans (belowK_b (w := w) (Nat.le_refl _) W D _ _ (by omega) hK rfl rfl)⟩
  have t2' : tmps[2]?.getD undef = .pointer (some ⟨w.heap.size, 0, none⟩) := by simpa using t2
  have t3' : tmps[3]?.getD undef = .pointer (some ⟨w.heap.size + 1, 0, none⟩) := by simpa using t3
  simp [results, Tryd.f8, go_sem, t2', t3', q0, q1]

set_option maxHeartbeats 4000000 in
set_option maxRecDepth 100000 in
theorem pairs_Parse.calls (a0 : ByteArray) (r1 : List (S30)) (r2 : Int) (w : World) (h : pairs_Parse.f a0 = some (r1, r2)) :
    Calls Tryd.prog 8 #[.string a0] w fun e w' => ∃ v0_ : Value, e = .returned (.tuple #[v0_, .int .i64 r2]) ∧ Kd.R k30 30 w' w.heap.size (fun _ => True) v0_ r1 ∧ Below w.heap.size w w' := by
  unfold pairs_Parse.f at h
  have H0 := Option.some.inj h
  clear h
  by_cases hlong : 4096 < a0.size
  · rw [if_pos hlong] at H0
    simp only [Prod.mk.injEq] at H0
    obtain ⟨rfl, rfl⟩ := H0
    exact (parse_long a0 w hlong).mono fun e w' ⟨he, hb⟩ => ⟨_, he, Kd.R_nil _ _ _ _ _, hb⟩
  rw [if_neg hlong] at H0
  have H := Aside0.mk H0
  clear H0
  refine (callsIn_wide (n := 6)).1 ?_
  refine callsIn_of_wp_marks Tryd.func8 rfl trivial ?_ rfl
  simp only [Tryd.ntmps8, List.size_toArray, List.length_cons, List.length_nil, Nat.reduceAdd, Nat.reduceSub, Array.replicate_succ, Array.replicate_zero, List.push_toArray, List.append_toArray, List.nil_append, List.cons_append]
  have h' : ¬ ((4096 : Int) < (a0.size : Int)) := by omega
  gi_wp2_with (refine ⟨trivial, ?_⟩; gi_at_call 18; refine (callsIn_wide.2 (strings_SplitSeq_one _ _ _)).mono ?_; rintro e w' ⟨rfl, rfl⟩)
  have hs0 : a0.size ≤ 140737488355328 := by omega
  obtain ⟨W0, hW0⟩ : ∃ W0, ((((((w.alloc (Obj.cells #[Value.slice none 0 0] 22)).alloc (Obj.cells #[Value.int IntKind.i64 0] 23)).alloc (Obj.cells #[Value.slice none 0 0] 22)).alloc (Obj.cells #[Value.string a0] 9)).alloc (Obj.cells #[Value.string ⟨#[38]⟩] 9)).alloc (Obj.cells #[Value.int IntKind.i64 0] 3)) = W0 := ⟨_, rfl⟩
  rw [hW0]
  have hsz : W0.heap.size = w.heap.size + 6 := by rw [← hW0]; simp
  have hB0 : Below w.heap.size w W0 := by rw [← hW0]; exact below_alloc (below_alloc (below_alloc (below_alloc (below_alloc (below_alloc (Below.refl _ w) _) _) _) _) _) _
  have g0 : W0.heap[w.heap.size]? = some (.cells #[.slice none 0 0] 22 (0, 0)) := by rw [← hW0]; simp only [heap_alloc_at, World.size_alloc]; repeat (first | rw [if_neg (by omega)] | rw [if_pos (by omega)] | rw [if_pos trivial])
  have g1 : W0.heap[w.heap.size + 1]? = some (.cells #[.int .i64 0] 23 (0, 0)) := by rw [← hW0]; simp only [heap_alloc_at, World.size_alloc]; repeat (first | rw [if_neg (by omega)] | rw [if_pos (by omega)] | rw [if_pos trivial])
  have g2 : W0.heap[w.heap.size + 2]? = some (.cells #[.slice none 0 0] 22 (0, 0)) := by rw [← hW0]; simp only [heap_alloc_at, World.size_alloc]; repeat (first | rw [if_neg (by omega)] | rw [if_pos (by omega)] | rw [if_pos trivial])
  have g3 : SpOk (w.heap.size + 3) a0 38 W0 := by rw [← hW0]; refine ⟨?_, ?_, ?_⟩ <;> simp only [heap_alloc_at, World.size_alloc] <;> repeat (first | rw [if_neg (by omega)] | rw [if_pos (by omega)] | rw [if_pos trivial])
  clear hW0
  refine wpIn_rangeFunc_cell (α := ByteArray) (F := Fence.wide) rfl (by omega) (gf := 38) (lb := #[.pointer (some ⟨w.heap.size + 3 + 1, 0, none⟩), .pointer (some ⟨w.heap.size + 3, 0, none⟩), .pointer (some ⟨w.heap.size + 3 + 2, 0, none⟩)]) rfl trivial (enters_of Tryd.func38 (by kernel_rfl) rfl)
    (split_cell (6 - 1) (by omega) (w.heap.size + 3) a0 hs0 38)
    (fun W1 hb => ⟨(hb.block _ (by omega)).trans g3.1, (hb.block _ (by omega)).trans g3.2.1, (hb.block _ (by omega)).trans g3.2.2⟩)
    (fun A B hab l o hl ho => by
      obtain ⟨row, hg, hrow⟩ := hab
      refine (hg.block l (Array.getElem?_eq_some_iff.1 ho).1 (fun e => ?_)).trans ho
      rcases hrow with h | h
      · rw [h] at e; cases e
      · rw [h] at e; cases e; omega)
    (fun h k j hj => (k j hj).trans (h j hj))
    (fun W l o o' hl ho _ _ j hj => World.putObj_heap_other (by omega))
    (fun _ => rfl)
    (PsI w) (PsX w) (PsI.own w _ (by omega)) (fun c => PsX.own w _ (by omega) c) (fun s A B => PsI.ab w s A B)
    ⟨[], .slice none 0 0, rfl, Nat.le_refl _, g0, g1, g2, own_nil _ _ _ _, by omega, hB0⟩
    (fun x => { tmps := #[.string a0, undef, .pointer (some ⟨w.heap.size, 0, none⟩), .pointer (some ⟨w.heap.size + 1, 0, none⟩), .pointer (some ⟨w.heap.size + 1 + 1, 0, none⟩), .string x, undef, undef, .string a0, .int .i64 a0.size, .bool false, .string a0, .func (.func 38) #[] #[.pointer (some ⟨w.heap.size + 1 + 1 + 1 + 1, 0, none⟩), .pointer (some ⟨w.heap.size + 1 + 1 + 1, 0, none⟩), .pointer (some ⟨w.heap.size + 1 + 1 + 1 + 2, 0, none⟩)], .string x, undef, undef, undef, undef, undef, undef, undef, undef, undef, undef, undef, undef, undef, undef, undef, undef, undef, undef], defers := [] }) ?assign ?body ?done ?stop
  case assign =>
    intro l x W K hK
    gi_wp2
    exact hK
  case body =>
    rintro l pr x W ⟨acc, v, h1, h2, c0, c1, c2, hR, hS6, hB⟩ hV
    have HS6 := Aside0.mk hS6
    clear hS6
    have hx : x.size ≤ 140737488355328 := by
      have := spParts_sizes 38 a0 x (List.IsPrefix.subset hV (by simp))
      omega
    by_cases hz : x.size = 0
    · obtain rfl : x = ⟨#[]⟩ := by apply bl_inj; apply List.eq_nil_of_length_eq_zero; rw [bl_length]; exact hz
      have hI : PsI w (pr ++ [⟨#[]⟩]) W := ⟨acc, v, by rw [formOf_snoc, h1]; rfl, by simp; omega, c0, c1, c2, hR, HS6.out, hB⟩
      have HI := Aside0.mk hI
      clear h1 h2 c0 c1 c2 hR hB hI hV hx hz g0 g1 g2 g3 hB0 hsz
      gi_wp2
      exact ⟨KeepsOthers.refl _, fun j _ => rfl, HI.out⟩
    · have hnl : ¬ x.toList = [] := by
        intro e
        apply hz
        rw [← bl_length, ← toList_bl, e]; rfl
      have hne2 : x.toList.isEmpty = false := by simpa using hnl
      have hpf := pair_f x hx
      cases hp : pair1 x with
      | none =>
        rw [hp] at hpf
        have hX : formOf (pr ++ [x]) = none := by rw [formOf_snoc, h1]; unfold formStep; rw [if_neg hz, hp]; rfl
        have HX := Aside0.mk hX
        have HB := Aside0.mk hB
        have HPF := Aside0.mk hpf
        clear h1 h2 hR hB hV hx hz g0 g1 g2 g3 hB0 hsz hp hpf hX
        gi_wp2_with (fail)
        refine ⟨trivial, ?_⟩
        refine (CallsIn.inRound l (callsIn_wide.2 (pairs_pair.calls x _ _ _ _ HPF.out))).mono ?_
        rintro e w2 ⟨rfl, hb2⟩
        have hb3 := below_alloc hb2 (.cells #[.string ⟨#[]⟩, .string ⟨#[]⟩] 30)
        have d0 := (hb3.block _ (Array.getElem?_eq_some_iff.1 c0).1).trans c0
        have d1 := (hb3.block _ (Array.getElem?_eq_some_iff.1 c1).1).trans c1
        have k0 := cell_of_block d0
        have k1 := cell_of_block d1
        have f0 := free_of_block d0
        have f1 := free_of_block d1
        have D0 := Aside0.mk d0
        have D1 := Aside0.mk d1
        have HB3 := Aside0.mk hb3
        clear c0 c1 c2 d0 d1 hb2 hb3
        gi_wp2
        exact ⟨((KeepsOthers.of_grownBy (grown_of_below HB3.out none) (fun j o e => by cases e)).trans (KeepsOthers.setCell _ _ _)).trans (KeepsOthers.setCell _ _ _), rfl, HX.out, (set_other (by omega)).trans (set_block D0.out), set_block ((set_other (by omega)).trans D1.out), ((below_then HB.out HB.out.size HB3.out).setCell (p := ⟨w.heap.size, 0, none⟩) (Nat.le_refl _) _).setCell (p := ⟨w.heap.size + 1, 0, none⟩) (by simp) _⟩
      | some p =>
        rw [hp] at hpf
        have hS : formOf (pr ++ [x]) = some (acc ++ [p]) := by rw [formOf_snoc, h1]; unfold formStep; rw [if_neg hz, hp]; rfl
        have hlen : acc.length ≤ 4096 := by
          have := hV.length_le
          have h3 := spParts_length 38 a0
          simp only [List.length_append, List.length_cons, List.length_nil] at this
          omega
        have HS := Aside0.mk hS
        have HB := Aside0.mk hB
        have HR := Aside0.mk hR
        have HPF := Aside0.mk hpf
        clear h1 hB hR hV hx hz g0 g1 g2 g3 hB0 hsz hp hpf hS
        gi_wp2_with (fail)
        refine ⟨trivial, ?_⟩
        refine (CallsIn.inRound l (callsIn_wide.2 (pairs_pair.calls x _ _ _ _ HPF.out))).mono ?_
        rintro e w2 ⟨rfl, hb2⟩
        have hb3 := below_alloc hb2 (.cells #[.string p.f0, .string p.f1] 30)
        have d0 := (hb3.block _ (Array.getElem?_eq_some_iff.1 c0).1).trans c0
        have d1 := (hb3.block _ (Array.getElem?_eq_some_iff.1 c1).1).trans c1
        have d2 := (hb3.block _ (Array.getElem?_eq_some_iff.1 c2).1).trans c2
        have k2 := cell_of_block d2
        have D0 := Aside0.mk d0
        have D1 := Aside0.mk d1
        have D2 := Aside0.mk d2
        have HR3 := Aside0.mk (pw_own_below HR.out hb3)
        have HB3 := Aside0.mk hb3
        have HS3 := Aside0.mk (HB.out.size)
        obtain ⟨i0, hi, hzz⟩ := Option.map_eq_some_iff.1 info30
        simp only [Prod.mk.injEq] at hzz
        obtain ⟨hz0, hz1, hz2⟩ := hzz
        have HI0 := Aside0.mk hi
        have HZ0 := Aside0.mk hz0
        have HZ1 := Aside0.mk hz1
        have HZ2 := Aside0.mk hz2
        have hsz3 : w.heap.size + 6 ≤ W.heap.size := by
          have := HS6.out; omega
        clear c0 c1 c2 d0 d1 d2 hb2 hb3 hi hz0 hz1 hz2
        gi_wp2_with (gi_at_builtin; refine wpListIn_append_own _ rfl _ _ 22 rfl (w.heap.size + 6) 30 i0 _ 2 32 Tryd.underlying22 HI0.out HZ0.out HZ1.out HZ2.out rfl (by decide) v acc.length (flatP acc) rfl (HR3.out.alloc _) ⟨w2.heap.size + 1, 0, none⟩ 1 1 [.string p.f0, .string p.f1] rfl rfl ?c1 ?c2 ?c3 ?c4 ?c5 ?_)
        case c1 =>
          have hnb := World.news_of_block (cs := #[.string p.f0, .string p.f1]) (t := 30) (fr := (0, 0)) (heap_alloc_new (w2.alloc (.cells #[.string p.f0, .string p.f1] 30)) (.cells #[.string p.f0, .string p.f1] 30))
          rw [World.size_alloc] at hnb
          exact hnb
        case c2 => intro u hu; simp at hu; rcases hu with rfl | rfl <;> rfl
        case c3 => unfold maxLen; omega
        case c4 => omega
        case c5 => have := HB3.out.size; simp at this ⊢; omega
        intro v' w4 hown' hgrow _
        obtain ⟨g, cap, hv'⟩ : ∃ g cap, v' = .slice (some ⟨g, 0, none⟩) (acc.length + 1) cap := by
          rcases hown'.2 with ⟨_, h0⟩ | ⟨g, cap, cur, hv, _⟩
          · omega
          · exact ⟨g, cap, hv⟩
        have hgr : ∀ r, v.ownBlock = some r → w.heap.size + 6 ≤ r := fun r e => own_base HR.out r e
        have hga : (w2.alloc (.cells #[.string p.f0, .string p.f1] 30)).grownBy w4 v.ownBlock := World.grownBy.trans (World.grownBy_alloc _ _ _) hgrow
        have e0 := grown_cells (n := w.heap.size + 6) hga hgr (by omega) D0.out
        have e1 := grown_cells (n := w.heap.size + 6) hga hgr (by omega) D1.out
        have e2 := grown_cells (n := w.heap.size + 6) hga hgr (by omega) D2.out
        have hko : KeepsOthers W w4 := (KeepsOthers.of_grownBy (grown_of_below HB3.out none) (fun j o e => by cases e)).trans (KeepsOthers.of_grownBy hga (fun j o e ho => by
          obtain ⟨cells, hc⟩ := own_typed HR3.out j e
          rw [hc] at ho
          obtain rfl := Option.some.inj ho
          rfl))
        have hkp : ∀ j, j < 3 → w4.heap[w.heap.size + 3 + j]? = W.heap[w.heap.size + 3 + j]? := fun j hj => by
          have h1 := HB3.out.block (w.heap.size + 3 + j) (by omega)
          rw [← h1]
          refine hga.block _ (by have := HB3.out.size; omega) (fun e => ?_)
          have := hgr _ e.symm
          omega
        have hB4 : Below w.heap.size w w4 := (below_then HB.out HB.out.size HB3.out).grown hga (by have := HB3.out.size; omega) (fun k e => by have := hgr k e; omega)
        have hs4 : w.heap.size + 6 ≤ w4.heap.size := by have := HB3.out.size; have := hga.size; omega
        have E0 := Aside0.mk e0
        have E1 := Aside0.mk e1
        have E2 := Aside0.mk e2
        have KO := Aside0.mk hko
        have KP := Aside0.mk hkp
        have B4 := Aside0.mk hB4
        have O4 := Aside0.mk hown'
        have m2 := cell_of_block e2
        have f2 := free_of_block e2
        have HV := Aside0.mk hv'
        rw [hv']
        clear e0 e1 e2 hko hkp hB4 hown' hgrow hga hgr hv' k2
        gi_wp2
        have O5 := O4.out
        rw [HV.out] at O5
        refine ⟨KO.out.trans (KeepsOthers.setCell _ _ _), fun j hj => (set_other (by omega)).trans (KP.out j hj), acc ++ [p], _, HS.out, by simp; omega, (set_other (by omega)).trans E0.out, (set_other (by omega)).trans E1.out, set_block E2.out, ?_, by simpa [World.setCell] using hs4, B4.out.setCell (p := ⟨w.heap.size + 1 + 1, 0, none⟩) (by simp; omega) _⟩
        rw [flatP_snoc, List.length_append]
        refine O5.kept (grown_store w4 (w.heap.size + 1 + 1) _) (.inr (fun e => ?_))
        have := own_base O5 _ e
        omega
  case done =>
    rintro D xs W hD rfl ⟨acc, v, h1, h2, c0, c1, c2, hR, hS6, hB⟩ hK
    obtain ⟨A, cp, rfl⟩ := own_slice hR
    have H1 := Aside0.mk h1
    have HR := Aside0.mk hR
    have HB := Aside0.mk hB
    have HK := Aside0.mk hK
    have C0 := Aside0.mk c0
    have C1 := Aside0.mk c1
    have k0 := cell_of_block c0
    have k1 := cell_of_block c1
    have k2 := cell_of_block c2
    have f0 := free_of_block c0
    have f1 := free_of_block c1
    have HD := Aside0.mk (show w.heap.size + 6 ≤ D by omega)
    clear h1 h2 c0 c1 c2 hR hB hK hS6 hD g0 g1 g2 g3 hB0 hsz
    by_cases h64 : 64 < acc.length
    · have h64' : (64 : Int) < (acc.length : Int) := by omega
      gi_wp2
      refine ps_end w _ D _ (.slice none 0 0) 3 rfl rfl HD.out (set_other (by omega) |>.trans (set_block C0.out)) (set_block ((set_other (by omega)).trans C1.out)) ((KeepsOthers.setCell _ _ _).same D _ ((KeepsOthers.setCell _ _ _).same D _ HK.out rfl) rfl) ?_ ?_ ?_
      · have := H.out; rw [H1.out] at this; simp only [h64, if_true, Prod.mk.injEq] at this; exact this.2
      · intro W' hb
        have := H.out; rw [H1.out] at this; simp only [h64, if_true, Prod.mk.injEq] at this
        rw [← this.1]
        exact Kd.R_nil _ _ _ _ _
      · exact (HB.out.setCell (p := ⟨w.heap.size, 0, none⟩) (Nat.le_refl _) _).setCell (p := ⟨w.heap.size + 1, 0, none⟩) (by simp) _
    · have h64' : ¬ (64 : Int) < (acc.length : Int) := by omega
      gi_wp2
      refine ps_end w _ D _ (.slice A acc.length cp) 0 rfl rfl HD.out (set_other (by omega) |>.trans (set_block C0.out)) (set_block ((set_other (by omega)).trans C1.out)) ((KeepsOthers.setCell _ _ _).same D _ ((KeepsOthers.setCell _ _ _).same D _ HK.out rfl) rfl) ?_ ?_ ?_
      · have := H.out; rw [H1.out] at this; simp only [h64, if_false, Prod.mk.injEq] at this; exact this.2
      · intro W' hb
        have := H.out; rw [H1.out] at this; simp only [h64, if_false, Prod.mk.injEq] at this
        rw [← this.1]
        refine own_pairs (base := w.heap.size + 6) ?_ (by omega)
        refine World.ownsRow.kept ?_ hb ?_
        · refine World.ownsRow.kept (World.ownsRow.kept HR.out (grown_store _ _ _) (.inr (fun e => ?_))) (grown_store _ _ _) (.inr (fun e => ?_))
          · have := own_base HR.out _ e; omega
          · have := own_base HR.out _ e; omega
        · cases hv : (Value.slice A acc.length cp).ownBlock with
          | none => exact .inl rfl
          | some k =>
            refine .inr (fun e => ?_)
            obtain ⟨cells, hc⟩ := own_typed HR.out k hv
            cases e
            rw [HK.out] at hc
            cases hc
      · exact (HB.out.setCell (p := ⟨w.heap.size, 0, none⟩) (Nat.le_refl _) _).setCell (p := ⟨w.heap.size + 1, 0, none⟩) (by simp) _
  case stop =>
    rintro D c pr W hD hpre ⟨rfl, hf, c0, c1, hB⟩ hK
    have hN := formOf_none hf hpre
    have HD := Aside0.mk (show w.heap.size + 6 ≤ D by omega)
    gi_wp2
    refine ps_end w _ D _ (.slice none 0 0) 2 rfl rfl HD.out c0 c1 hK ?_ ?_ hB
    · have := H.out; rw [hN] at this; simp only [Prod.mk.injEq] at this; exact this.2
    · intro W' hb
      have := H.out; rw [hN] at this; simp only [Prod.mk.injEq] at this
      rw [← this.1]
      exact Kd.R_nil _ _ _ _ _
end Go.Proofs.YtibfhaekomflpaaDoor.X
