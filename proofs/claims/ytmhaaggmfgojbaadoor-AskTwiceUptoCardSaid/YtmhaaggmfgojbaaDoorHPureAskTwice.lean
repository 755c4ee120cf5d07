/- Ours: the plain law of AskTwice. -/
import Derived.Test.YtmhaaggmfgojbaaDoorBH
import Derived.Test.YtmhaaggmfgojbaaDoorBQ
import Derived.Test.YtmhaaggmfgojbaaDoorX18
namespace Go.Proofs.YtmhaaggmfgojbaaDoor.X
open Go.RowKit Go.Proofs.YtmhaaggmfgojbaaDoorW.PrintWords Go.Proofs.YtmhaaggmfgojbaaDoor.Spec
set_option linter.unusedVariables false
set_option linter.unusedSimpArgs false

theorem ask_bad (a0 a1 a2 : ByteArray) (l3 : List S43) (l4 : List S129) (q : ByteArray) (hq : q.size ≤ 1048576) (l : List Pr) (e : Int) (hp : pairs_Parse.f q = some (l, e))
  (h : e = 0 → (distinct (keysOf l)).length ≠ l.length) : ask_Check.f a0 a1 a2 l3 l4 q = some (askNo ⟨#[105, 110, 118, 97, 108, 105, 100, 95, 114, 101, 113, 117, 101, 115, 116]⟩) := by
 have hs := parse_sizes q l e hp
 have hl := parse_small q _ hp
 simp only at hl
 unfold ask_Check.f
 rw [hp, Option.bind_some]
 dsimp only
 by_cases he : e = 0
 ·rw [if_pos he]
  have htw : pairs_Twice.f l = some ((distinct (keysOf l)).length != l.length) := by
   unfold pairs_Twice.f
   rw [if_pos ⟨fun x hx => by have := (hs x hx).1; unfold maxLen; omega, by unfold maxLen; omega⟩]
   rfl
  rw [htw, Option.bind_some, if_pos (bne_iff_ne.2 (h he))]
 ·rw [if_neg he]
theorem mem_addNew {α : Type} [BEq α] [LawfulBEq α] {acc : List α} {x y : α} (h : y ∈ acc ∨ y = x) : y ∈ addNew acc x := by
 unfold addNew
 split
 ·rename_i hc
  rcases h with h | rfl
  ·exact h
  ·exact List.contains_iff_mem.1 hc
 ·rcases h with h | rfl
  ·exact List.mem_append_left _ h
  ·exact List.mem_append_right _ (List.mem_singleton.2 rfl)
theorem mem_foldAdd {α : Type} [BEq α] [LawfulBEq α] {y : α} : ∀ (l acc : List α), (y ∈ acc ∨ y ∈ l) → y ∈ l.foldl addNew acc := by
 intro l
 induction l with
 | nil => intro acc h; rcases h with h | h; exact h; cases h
 | cons x r ih =>
  intro acc h
  rw [List.foldl_cons]
  refine ih _ ?_
  rcases h with h | h
  ·exact .inl (mem_addNew (.inl h))
  ·rcases List.mem_cons.1 h with rfl | h
   ·exact .inl (mem_addNew (.inr rfl))
   ·exact .inr h
theorem distinct_le {α : Type} [BEq α] (l : List α) : (distinct l).length ≤ l.length := by
 have := distinct_app ([] : List α) l
 simpa [distinct] using this
theorem twice_snoc (l : List Pr) (p : Pr) (h : p ∈ l) : (distinct (keysOf (l ++ [p]))).length ≠ (l ++ [p]).length := by
 have hk : keysOf (l ++ [p]) = keysOf l ++ [bl p.f0] := by simp [keysOf]
 have hm : bl p.f0 ∈ distinct (keysOf l) := by
  unfold distinct
  exact mem_foldAdd _ _ (.inr (List.mem_map.2 ⟨p, h, rfl⟩))
 have hd : distinct (keysOf l ++ [bl p.f0]) = distinct (keysOf l) := by
  rw [distinct_snoc]
  unfold addNew
  rw [if_pos (List.contains_iff_mem.2 hm)]
 have hl := distinct_le (keysOf l)
 have hkl : (keysOf l).length = l.length := by simp [keysOf]
 rw [hk, hd, List.length_append, List.length_singleton]
 omega
theorem twice_end (x0 : S27) (l1 : List Pr) (hsm : ∀ p ∈ l1, psz p ≤ 300) (h1 : 0 < l1.length) (hl1 : l1.length ≤ 30) (i : Nat) (hi : i < l1.length) :
  ∃ r, Ev (fun k => exequaturref01_Build.f k (l1 ++ [l1[i]])) r ∧ ask_Check.f x0.f0 x0.f1.f0 x0.f1.f1 x0.f2 x0.f3 r = some (askNo ⟨#[105, 110, 118, 97, 108, 105, 100, 95, 114, 101, 113, 117, 101, 115, 116]⟩) := by
 have hm : ∀ p ∈ l1 ++ [l1[i]], psz p ≤ 300 := by
  intro p hp
  rcases List.mem_append.1 hp with hp | hp
  ·exact hsm p hp
  ·obtain rfl := List.mem_singleton.1 hp
   exact hsm _ (List.getElem_mem hi)
 have hlen : (l1 ++ [l1[i]]).length = l1.length + 1 := by simp
 refine ⟨ba (buildL (l1 ++ [l1[i]])), ref_Build _ (fun p hp => by have := hm p hp; omega) (by omega), ?_⟩
 have hsz : (ba (buildL (l1 ++ [l1[i]]))).size ≤ 1048576 := by
  rw [size_ba]
  have := buildL_length 300 (l1 ++ [l1[i]]) hm
  have : (l1 ++ [l1[i]]).length * (3 * 300 + 2) ≤ 31 * (3 * 300 + 2) := Nat.mul_le_mul_right _ (by omega)
  omega
 have hp := parse_build (l1 ++ [l1[i]])
 have htw := twice_snoc l1 l1[i] (List.getElem_mem hi)
 split at hp
 ·exact ask_bad _ _ _ _ _ _ hsz _ _ hp (fun h => by cases h)
 ·exact ask_bad _ _ _ _ _ _ hsz _ _ hp (fun _ => htw)
theorem twice_from (x0 : S27) (l1 : List Pr) (hsm : ∀ p ∈ l1, psz p ≤ 1048576) (h1 : 0 < l1.length) (hl1 : l1.length ≤ 30) (a2 : Int) (h0 : 0 ≤ a2) (h256 : a2 < 256) : ∀ n i, i + n = l1.length → (∀ j (hj : j < i) (hj2 : j < l1.length), psz l1[j] ≤ 300) → Ev (fun k => exequaturlaw17_AskTwice.l0 k l1 a2 (i : Int) x0.f0 x0.f1.f0 x0.f1.f1 x0.f2 x0.f3) true := by
 intro n
 induction n with
 | zero =>
  intro i hi hm
  have hw : wrap64 a2 = a2 := w64 (by omega) (by omega)
  have hmod : Int.tmod (wrap64 a2) (l1.length : Int) = ((a2.toNat % l1.length : Nat) : Int) := by
   rw [hw, Int.tmod_eq_emod_of_nonneg h0]
   obtain ⟨m, rfl⟩ := Int.eq_ofNat_of_zero_le h0
   simp
  have hlt : a2.toNat % l1.length < l1.length := Nat.mod_lt _ h1
  have hrd : (⟨(rd_T39 l1 ((a2.toNat % l1.length : Nat) : Int)).f0, (rd_T39 l1 ((a2.toNat % l1.length : Nat) : Int)).f1⟩ : Pr) = l1[a2.toNat % l1.length] := by rw [rd_pr _ _ hlt]
  obtain ⟨r, hb, hr⟩ := twice_end x0 l1 (fun p hp => by obtain ⟨j, hj, rfl⟩ := List.getElem_of_mem hp; exact hm j (by omega) hj) h1 hl1 _ hlt
  refine Ev.step (fun k => by rw [exequaturlaw17_AskTwice.l0]) ?_
  rw [hmod, hrd, answers_ok]
  have e0 : (ByteArray.mk #[]).toList = [] := by rw [toList_bl]; rfl
  refine Ev.if_neg (by omega) (Ev.bind (Ev.const rfl) (Ev.if_pos (by simp; omega) (Ev.bind (Ev.const rfl) (Ev.if_neg (by omega) (Ev.if_pos (by omega) (Ev.if_pos (by omega) (Ev.bind (Ev.const rfl) (Ev.if_pos (by simp; omega) ?_))))))))
  rw [List.nil_append]
  refine Ev.bind hb ?_
  rw [hr]
  refine Ev.bind (Ev.const rfl) (Ev.bind (Ev.const rfl) (Ev.if_pos rfl (Ev.if_pos (by simp [askNo, e0]) (Ev.if_pos (by rw [toList_bl]; rfl) (Ev.some _)))))
 | succ n ih =>
  intro i hi hm
  have hlt : i < l1.length := by omega
  have hs := hsm _ (List.getElem_mem hlt)
  refine Ev.step (fun k => by rw [exequaturlaw17_AskTwice.l0]) ?_
  refine Ev.if_pos (by omega) (Ev.if_pos (by omega) ?_)
  rw [rd_pr _ _ hlt]
  have hw : wrap64 ((l1[i].f0.size : Int) + (l1[i].f1.size : Int)) = ((psz l1[i] : Nat) : Int) := by unfold psz at *; unfold wrap64; omega
  rw [hw, answers_ok]
  by_cases hb : psz l1[i] ≤ 300
  ·refine Ev.if_neg (by omega) ?_
   rw [w64 (by omega) (by omega), show (i : Int) + 1 = ((i + 1 : Nat) : Int) from by omega]
   exact ih (i + 1) (by omega) (fun j hj hj2 => by
    by_cases e : j = i
    ·subst e; exact hb
    ·exact hm j (by omega) hj2)
  ·exact Ev.if_pos (by omega) (Ev.bind (Ev.const rfl) (Ev.some _))
theorem pure_AskTwice (x0 : S27) (l1 : List (S39)) (a2 : Int) (hb : (B27 (x0)) + (B37 (l1)) + (1) ≤ 1048576) (g0 : G27 (x0)) (g1 : G37 (l1)) (g2 : (Lit.int .u8 a2).wf = true) : ∃ k, exequaturlaw17_AskTwice.f k x0.f0 x0.f1.f0 x0.f1.f1 x0.f2 x0.f3 l1 a2 = some true := by
 have hsm := small_of (l := l1) (by omega)
 have b0 := bounds_u8 g2
 have ha0 : 0 ≤ a2 := by omega
 have ha1 : a2 < 256 := by omega
 refine Ev.get (g := fun k => exequaturlaw17_AskTwice.f k x0.f0 x0.f1.f0 x0.f1.f1 x0.f2 x0.f3 l1 a2) ?_
 have key : ∀ b, (b = false → 0 < l1.length ∧ l1.length ≤ 30) → Ev (fun k => exequaturlaw17_AskTwice.j0 k l1 a2 b x0.f0 x0.f1.f0 x0.f1.f1 x0.f2 x0.f3) true := by
  intro b hl
  refine Ev.step (fun k => by rw [exequaturlaw17_AskTwice.j0]) ?_
  rw [answers_ok]
  cases b with
  | true => exact Ev.if_pos rfl (Ev.bind (Ev.const rfl) (Ev.some _))
  | false =>
   have hl := hl rfl
   refine Ev.if_neg (by simp) ?_
   exact twice_from x0 l1 hsm.1 hl.1 hl.2 a2 ha0 ha1 l1.length 0 (by omega) (fun j hj => by omega)
 unfold exequaturlaw17_AskTwice.f
 by_cases h : (x0.f2.length : Int) > 20
 ·exact Ev.if_pos h (key true (fun h => by cases h))
 ·refine Ev.if_neg h ?_
  by_cases h2 : (l1.length : Int) = 0
  ·exact Ev.if_pos h2 (key true (fun h => by cases h))
  ·exact Ev.if_neg h2 (key _ (fun hd => by have := of_decide_eq_false hd; omega))
end Go.Proofs.YtmhaaggmfgojbaaDoor.X
