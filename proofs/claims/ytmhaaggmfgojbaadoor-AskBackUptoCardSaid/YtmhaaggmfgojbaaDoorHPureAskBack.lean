/- Ours: the plain law of AskBack. -/
import Derived.Test.YtmhaaggmfgojbaaDoorBH
import Derived.Test.YtmhaaggmfgojbaaDoorBG
import Derived.Test.YtmhaaggmfgojbaaDoorBQ
import Derived.Test.YtmhaaggmfgojbaaDoorX16
namespace Go.Proofs.YtmhaaggmfgojbaaDoor.X
open Go.RowKit Go.Proofs.YtmhaaggmfgojbaaDoorW.PrintWords Go.Proofs.YtmhaaggmfgojbaaDoor.Spec
set_option linter.unusedVariables false
set_option linter.unusedSimpArgs false

theorem idxOf_at {α : Type} (p : α → Bool) : ∀ (l : List α) (i : Nat) (hi : i < l.length), idxOf p l = (i : Int) → p (l[i]'hi) = true
 | x :: r, i, hi, h => by
  unfold idxOf at h
  split at h
  ·rename_i hp
   have : i = 0 := by omega
   subst this
   exact hp
  ·split at h
   ·omega
   ·cases i with
    | zero => have := (idxOf_range p r).1; omega
    | succ i =>
     have := idxOf_at p r i (by simpa using hi) (by omega)
     simpa using this
theorem back_j2 (l1 : List Pr) (hl1 : l1.length ≤ 1048576) (x0 : S27) (hl : x0.f2.length ≤ 20) (hc : ∀ y ∈ x0.f2, y.f2.length ≤ 1048576) (l : List Pr) (ok : Bool) (hok : ok = true → l = l1) (r : Ask6) (h : AskIs x0.f2 l ok r) :
  Ev (fun k => exequaturlaw17_AskBack.j2 k l1 (if r.2.2.2.2.2.2.1.toList = [] then false else !r.2.2.2.2.2.2.2) x0.f0 x0.f1.f0 x0.f1.f1 x0.f2 x0.f3 r.1 r.2.1 r.2.2.1 r.2.2.2.1 r.2.2.2.2.1 r.2.2.2.2.2.1) true := by
 refine Ev.step (fun k => by rw [exequaturlaw17_AskBack.j2]) ?_
 rw [toList_bl]
 cases h with
 | no why hw =>
  have e1 : (if bl (askNo why).2.2.2.2.2.2.1 = [] then false else !(askNo why).2.2.2.2.2.2.2) = true := by
   show (if bl why = [] then false else !false) = true
   rw [if_neg hw]; rfl
  rw [e1, answers_ok]
  refine Ev.if_pos rfl (Ev.bind (Ev.const rfl) (Ev.if_pos rfl ((Ev.some _).uni ?_)))
  have e0 : (ByteArray.mk #[]).toList = [] := by rw [toList_bl]; rfl
  simp [askNo, e0]
 | yes i hi hf ho _ h1 h2 h3 h4 =>
  have e1 : (if bl r.2.2.2.2.2.2.1 = [] then false else !r.2.2.2.2.2.2.2) = false := by
   split
   ·rfl
   ·rename_i hn
    rcases h4 with h4 | h4
    ·exact absurd h4 hn
    ·rw [h4]; rfl
  obtain rfl := hok ho
  have hid : x0.f2[i].f0.toList = (askGet l ⟨#[99, 108, 105, 101, 110, 116, 95, 105, 100]⟩).toList := by
   have := idxOf_at (fun x : S43 => x.f0.toList == (askGet l ⟨#[99, 108, 105, 101, 110, 116, 95, 105, 100]⟩).toList) x0.f2 i hi hf
   exact beq_iff_eq.1 this
  have hfind : findC x0.f2 r.1 = (i : Int) := by
   rw [← hf]
   unfold findC
   rw [h1, hid]
  have hrc : refClient x0.f2 r.1 = (x0.f2[i].f0, x0.f2[i].f1, x0.f2[i].f2, true) := by
   unfold refClient
   rw [hfind, if_neg (by omega), rd_cl _ _ hi]
  have hcl := ref_Client x0.f0 x0.f1.f0 x0.f1.f1 x0.f2 x0.f3 (by omega) r.1
  rw [hrc] at hcl
  have hfl := hc _ (List.getElem_mem hi)
  have hrd := ref_Redirect x0.f2[i].f0 x0.f2[i].f1 x0.f2[i].f2 (by omega) r.2.1
  rw [hasB_eq, h3] at hrd
  have hget := ref_Get l hl1 ⟨#[114, 101, 100, 105, 114, 101, 99, 116, 95, 117, 114, 105]⟩
  rw [e1, answers_ok]
  refine Ev.if_neg (by simp) (Ev.bind hcl (Ev.bind (Ev.const rfl) (Ev.if_pos rfl (Ev.if_pos rfl (Ev.bind hrd (Ev.if_pos rfl (Ev.bind hget ((Ev.some _).uni ?_))))))))
  rw [h2]
  exact beq_self_eq_true _
theorem back_from (x0 : S27) (hl : x0.f2.length ≤ 20) (hc : ∀ y ∈ x0.f2, y.f2.length ≤ 1048576) (l1 : List Pr) (hsm : ∀ p ∈ l1, psz p ≤ 1048576) (hl1 : l1.length ≤ 70) : ∀ n i, i + n = l1.length → (∀ j (hj : j < i) (hj2 : j < l1.length), psz l1[j] ≤ 400) → Ev (fun k => exequaturlaw17_AskBack.l0 k l1 (i : Int) x0.f0 x0.f1.f0 x0.f1.f1 x0.f2 x0.f3) true := by
 intro n
 induction n with
 | zero =>
  intro i hi hm
  refine Ev.step (fun k => by rw [exequaturlaw17_AskBack.l0]) ?_
  refine Ev.if_neg (by omega) (Ev.bind (ref_Build l1 hsm (by omega)) ?_)
  have hsz : (ba (buildL l1)).size ≤ 1048576 := by
   rw [size_ba]
   have := buildL_length 400 l1 (fun p hp => by obtain ⟨j, hj, rfl⟩ := List.getElem_of_mem hp; exact hm j (by omega) hj)
   have : l1.length * (3 * 400 + 2) ≤ 70 * (3 * 400 + 2) := Nat.mul_le_mul_right _ hl1
   omega
  have hp := parse_build l1
  obtain ⟨⟨l, e⟩, hle⟩ : ∃ p : List Pr × Int, p = (if 4096 < (buildL l1).length ∨ 64 < l1.length then ([], 3) else (l1, 0)) := ⟨_, rfl⟩
  rw [← hle] at hp
  obtain ⟨r, hr, his⟩ := ask_is x0.f0 x0.f1.f0 x0.f1.f1 x0.f2 x0.f3 _ hsz hc l e hp
  refine Ev.bind (Ev.const hr) ?_
  have hok : (decide (e = 0) && !((distinct (keysOf l)).length != l.length)) = true → l = l1 := by
   intro h
   rw [Bool.and_eq_true] at h
   have he := of_decide_eq_true h.1
   split at hle
   ·obtain ⟨_, rfl⟩ := Prod.mk.inj hle; cases he
   ·exact (Prod.mk.inj hle).1
  have := back_j2 l1 (by omega) x0 hl hc l _ hok r his
  split at this
  ·rename_i hz
   exact Ev.if_pos hz this
  ·rename_i hz
   exact Ev.if_neg hz this
 | succ n ih =>
  intro i hi hm
  have hlt : i < l1.length := by omega
  have hs := hsm _ (List.getElem_mem hlt)
  refine Ev.step (fun k => by rw [exequaturlaw17_AskBack.l0]) ?_
  refine Ev.if_pos (by omega) (Ev.if_pos (by omega) ?_)
  rw [rd_pr _ _ hlt]
  have hw : wrap64 ((l1[i].f0.size : Int) + (l1[i].f1.size : Int)) = ((psz l1[i] : Nat) : Int) := by unfold psz at *; unfold wrap64; omega
  rw [hw, answers_ok]
  by_cases hb : psz l1[i] ≤ 400
  ·refine Ev.if_neg (by omega) ?_
   rw [w64 (by omega) (by omega), show (i : Int) + 1 = ((i + 1 : Nat) : Int) from by omega]
   exact ih (i + 1) (by omega) (fun j hj hj2 => by
    by_cases e : j = i
    ·subst e; exact hb
    ·exact hm j (by omega) hj2)
  ·exact Ev.if_pos (by omega) (Ev.bind (Ev.const rfl) (Ev.some _))
theorem pure_AskBack (x0 : S27) (l1 : List (S39)) (hb : (B27 (x0)) + (B37 (l1)) ≤ 1048576) (g0 : G27 (x0)) (g1 : G37 (l1)) : ∃ k, exequaturlaw17_AskBack.f k x0.f0 x0.f1.f0 x0.f1.f1 x0.f2 x0.f3 l1 = some true := by
 have hc := config_small (x := x0) (by omega)
 have hsm := small_of (l := l1) (by omega)
 refine Ev.get (g := fun k => exequaturlaw17_AskBack.f k x0.f0 x0.f1.f0 x0.f1.f1 x0.f2 x0.f3 l1) ?_
 have key : ∀ b, (b = false → x0.f2.length ≤ 20 ∧ l1.length ≤ 70) → Ev (fun k => exequaturlaw17_AskBack.j0 k l1 b x0.f0 x0.f1.f0 x0.f1.f1 x0.f2 x0.f3) true := by
  intro b hl
  refine Ev.step (fun k => by rw [exequaturlaw17_AskBack.j0]) ?_
  rw [answers_ok]
  cases b with
  | true => exact Ev.if_pos rfl (Ev.bind (Ev.const rfl) (Ev.some _))
  | false =>
   have hl := hl rfl
   refine Ev.if_neg (by simp) ?_
   exact back_from x0 hl.1 hc l1 hsm.1 hl.2 l1.length 0 (by omega) (fun j hj => by omega)
 unfold exequaturlaw17_AskBack.f
 by_cases h : (x0.f2.length : Int) > 20
 ·exact Ev.if_pos h (key true (fun h => by cases h))
 ·exact Ev.if_neg h (key _ (fun hd => by have := of_decide_eq_false hd; omega))
end Go.Proofs.YtmhaaggmfgojbaaDoor.X
