/- Ours: the plain law of ClientFinds. -/
import Derived.Test.YtkcgalpagpgfhaaDoorHPure
import Derived.Test.YtkcgalpagpgfhaaDoorX9
import Derived.Test.YtkcgalpagpgfhaaDoorX11
namespace Go.Proofs.YtkcgalpagpgfhaaDoor.X
open Go.RowKit Go.Proofs.YtkcgalpagpgfhaaDoorW.PrintWords Go.Proofs.YtkcgalpagpgfhaaDoor.Spec
set_option linter.unusedVariables false
theorem small_conns (a b c : ByteArray) (l3 : List S25) (l4 : List S40) (h4 : l4.length ≤ 20) : ∀ n i, i + n = l4.length → ∃ r, Ev (fun k => exequaturlaw16_small.l1 k (i : Int) a b c l3 l4) r := by
  intro n
  induction n with
  | zero =>
    intro i hi
    exact ⟨true, Ev.step (fun k => by rw [exequaturlaw16_small.l1]) (Ev.if_neg (by omega) (Ev.some _))⟩
  | succ n ih =>
    intro i hi
    by_cases h : ((rd_T40 l4 (i : Int)).f6.size : Int) > 5000
    · exact ⟨false, Ev.step (fun k => by rw [exequaturlaw16_small.l1]) (Ev.if_pos (by omega) (Ev.if_pos (by omega) (Ev.if_pos h (Ev.some _))))⟩
    · obtain ⟨r, hr⟩ := ih (i + 1) (by omega)
      refine ⟨r, Ev.step (fun k => by rw [exequaturlaw16_small.l1]) (Ev.if_pos (by omega) (Ev.if_pos (by omega) (Ev.if_neg h ?_)))⟩
      rw [w64 (n := (i : Int) + 1) (by omega) (by omega), show (i : Int) + 1 = ((i + 1 : Nat) : Int) from by omega]
      exact hr
theorem small_clients (a b c : ByteArray) (l3 : List S25) (l4 : List S40) (h3 : l3.length ≤ 20) (h4 : l4.length ≤ 20) : ∀ n i, i + n = l3.length → ∃ r, Ev (fun k => exequaturlaw16_small.l0 k (i : Int) a b c l3 l4) r := by
  intro n
  induction n with
  | zero =>
    intro i hi
    obtain ⟨r, hr'⟩ := small_conns a b c l3 l4 h4 l4.length 0 (by omega)
    have hr : Ev (fun k => exequaturlaw16_small.l1 k 0 a b c l3 l4) r := hr'
    exact ⟨r, Ev.step (fun k => by rw [exequaturlaw16_small.l0]) (Ev.if_neg (by omega) hr)⟩
  | succ n ih =>
    intro i hi
    by_cases h : ((rd_T25 l3 (i : Int)).f2.length : Int) > 100
    · exact ⟨false, Ev.step (fun k => by rw [exequaturlaw16_small.l0]) (Ev.if_pos (by omega) (Ev.if_pos (by omega) (Ev.if_pos h (Ev.some _))))⟩
    · obtain ⟨r, hr⟩ := ih (i + 1) (by omega)
      refine ⟨r, Ev.step (fun k => by rw [exequaturlaw16_small.l0]) (Ev.if_pos (by omega) (Ev.if_pos (by omega) (Ev.if_neg h ?_)))⟩
      rw [w64 (n := (i : Int) + 1) (by omega) (by omega), show (i : Int) + 1 = ((i + 1 : Nat) : Int) from by omega]
      exact hr
theorem small_ev (a b c : ByteArray) (l3 : List S25) (l4 : List S40) : ∃ r, Ev (fun k => exequaturlaw16_small.f k a b c l3 l4) r := by
  have hno : Ev (fun k => exequaturlaw16_small.j0 k true a b c l3 l4) false := Ev.step (fun k => by rw [exequaturlaw16_small.j0]) (Ev.if_pos rfl (Ev.some _))
  unfold exequaturlaw16_small.f
  by_cases h3 : (l3.length : Int) > 20
  · exact ⟨false, Ev.if_pos h3 hno⟩
  · by_cases h4 : (l4.length : Int) > 20
    · exact ⟨false, Ev.if_neg h3 (Ev.if_pos h4 hno)⟩
    · by_cases h5 : (a.size : Int) > 5000
      · exact ⟨false, Ev.if_neg h3 (Ev.if_neg h4 (by rw [decide_eq_true h5]; exact hno))⟩
      · obtain ⟨r, hr'⟩ := small_clients a b c l3 l4 (by omega) (by omega) l3.length 0 (by omega)
        have hr : Ev (fun k => exequaturlaw16_small.l0 k 0 a b c l3 l4) r := hr'
        refine ⟨r, Ev.if_neg h3 (Ev.if_neg h4 ?_)⟩
        rw [decide_eq_false h5]
        exact Ev.step (fun k => by rw [exequaturlaw16_small.j0]) (Ev.if_neg (by simp) hr)
def authR (l : List S25) (id s : ByteArray) : Bool := (refClient l id).2.2.2 && !decide ((refClient l id).2.1.toList = []) && decide (bl (refClient l id).2.1 = bl s)
theorem auth_f (a b c : ByteArray) (l3 : List S25) (l4 : List S40) (id s : ByteArray) (hz : ∀ x ∈ l3, x.f2.length ≤ 1000000000) (hs : s.size ≤ 1000000000000) (hr : (refClient l3 id).2.1.size ≤ 1000000000000) : Ev (fun k => client_Auth.f k a b c l3 l4 id s) (authR l3 id s) := by
  unfold client_Auth.f authR
  refine Ev.bind (Ev.const (client_f a b c l3 l4 id hz)) ?_
  by_cases h1 : (refClient l3 id).2.2.2 = true
  · refine Ev.if_pos h1 ?_
    rw [h1]
    by_cases h2 : (refClient l3 id).2.1.toList = []
    · rw [decide_eq_true h2]
      exact Ev.if_pos h2 (Ev.some _)
    · rw [decide_eq_false h2]
      refine Ev.if_neg h2 (Ev.bind (equal_f _ s hr hs) ?_)
      exact (Ev.some _).uni (by simp)
  · refine Ev.if_neg h1 ?_
    rw [Bool.eq_false_iff.2 h1]
    exact Ev.some _
theorem rauth_f (a b c : ByteArray) (l3 : List S25) (l4 : List S40) (id s : ByteArray) (hl : l3.length ≤ 4611686018427387904) : Ev (fun k => exequaturref13_Auth.f k a b c l3 l4 id s) (authR l3 id s) := by
  unfold exequaturref13_Auth.f authR
  refine Ev.bind (ref_Client a b c l3 l4 hl id) ?_
  by_cases h1 : (refClient l3 id).2.2.2 = true
  · refine Ev.if_pos h1 ?_
    rw [h1]
    by_cases h2 : (refClient l3 id).2.1.toList = []
    · rw [decide_eq_true h2]
      exact Ev.if_pos h2 (Ev.some _)
    · rw [decide_eq_false h2]
      refine Ev.if_neg h2 ((Ev.some _).uni ?_)
      rw [toList_bl, toList_bl, Bool.eq_iff_iff, beq_iff_eq]
      simp
  · refine Ev.if_neg h1 ?_
    rw [Bool.eq_false_iff.2 h1]
    exact Ev.some _
theorem finds_from (a b c : ByteArray) (l3 : List S25) (l4 : List S40) (id s : ByteArray) (r : ByteArray × ByteArray × List ByteArray) (hz : ∀ x ∈ l3, x.f2.length ≤ 1000000000) (hs : s.size ≤ 1000000000000) (hr : (refClient l3 id).2.1.size ≤ 1000000000000) (hl : l3.length ≤ 4611686018427387904) (hrl : r.2.2.length ≤ 1000000000) : ∀ n i, i + n = r.2.2.length → Ev (fun k => exequaturlaw16_ClientFinds.l0 k id s (i : Int) a b c l3 l4 r.1 r.2.1 r.2.2 r.1 r.2.1 r.2.2) true := by
  intro n
  induction n with
  | zero =>
    intro i hi
    refine Ev.step (fun k => by rw [exequaturlaw16_ClientFinds.l0]) ?_
    refine Ev.if_neg (by omega) (Ev.bind (Ev.some true) (Ev.if_pos rfl ?_))
    refine Ev.bind (auth_f a b c l3 l4 id s hz hs hr) (Ev.bind (rauth_f a b c l3 l4 id s hl) (Ev.const ?_))
    rw [beq_self_eq_true]
  | succ n ih =>
    intro i hi
    refine Ev.step (fun k => by rw [exequaturlaw16_ClientFinds.l0]) (Ev.if_pos (by omega) (Ev.if_pos (by omega) (Ev.if_pos (by omega) (Ev.if_pos rfl ?_))))
    rw [w64 (n := (i : Int) + 1) (by omega) (by omega), show (i : Int) + 1 = ((i + 1 : Nat) : Int) from by omega]
    exact ih (i + 1) (by omega)
theorem sum_mem_le {α : Type} (B : α → Nat) {x : α} {l : List α} (h : x ∈ l) : B x ≤ (l.map fun x => B x).sum := by
  induction l with
  | nil => cases h
  | cons y r ih =>
    simp only [List.map_cons, List.sum_cons]
    rcases List.mem_cons.1 h with rfl | h
    · omega
    · have := ih h; omega
theorem sum_len_le {α : Type} (B : α → Nat) (hB : ∀ x, 1 ≤ B x) (l : List α) : l.length ≤ (l.map fun x => B x).sum := by
  induction l with
  | nil => simp
  | cons y r ih => have := hB y; simp only [List.map_cons, List.sum_cons, List.length_cons]; omega
theorem client_le (x : S25) : x.f2.length + x.f1.size + 1 ≤ B25 x := by
  have h : x.f2.length ≤ (x.f2.map fun y => y.size + 1).sum := sum_len_le (fun y : ByteArray => y.size + 1) (fun y => by omega) x.f2
  have e : B23 x.f2 = (x.f2.map fun y => y.size + 1).sum + 1 := rfl
  unfold B25
  omega
theorem refClient_le (l : List S25) (id : ByteArray) (M : Nat) (h : ∀ x ∈ l, x.f2.length + x.f1.size ≤ M) : (refClient l id).2.1.size ≤ M ∧ (refClient l id).2.2.1.length ≤ M := by
  unfold refClient
  split
  · exact ⟨Nat.zero_le _, Nat.zero_le _⟩
  · rename_i hn
    have hr := idxOf_range (fun x : S25 => x.f0.toList == id.toList) l
    have hlt : (findC l id).toNat < l.length := by have : findC l id < l.length := hr.2; omega
    have hx : rd_T25 l (findC l id) = l[(findC l id).toNat] := by
      unfold rd_T25
      rw [List.getD_eq_getElem?_getD, List.getElem?_eq_getElem hlt]; rfl
    rw [hx]
    have := h _ (List.getElem_mem hlt)
    exact ⟨by simp only; omega, by simp only; omega⟩
theorem pure_ClientFinds (x0 : S31) (a1 : ByteArray) (a2 : ByteArray) (hb : (B31 (x0)) + ((a1).size + 1) + ((a2).size + 1) ≤ 1048576) (g0 : G31 (x0)) : ∃ k, exequaturlaw16_ClientFinds.f k x0.f0 x0.f1.f0 x0.f1.f1 x0.f2 x0.f3 a1 a2 = some true := by
  have e2 : B26 x0.f2 = (x0.f2.map fun x => B25 x).sum + 1 := rfl
  have e3 : B29 x0.f3 = (x0.f3.map fun x => B40 x).sum + 1 := rfl
  have hB : (x0.f2.map fun x => B25 x).sum + (x0.f3.map fun x => B40 x).sum ≤ 1048576 := by
    unfold B31 at hb
    omega
  have hl3 : x0.f2.length ≤ 1048576 := by
    have := sum_len_le (fun x => B25 x) (fun x => by have := client_le x; omega) x0.f2
    omega
  have hl4 : x0.f3.length ≤ 1048576 := by
    have := sum_len_le (fun x => B40 x) (fun x => by unfold B40; omega) x0.f3
    omega
  have hm : ∀ x ∈ x0.f2, x.f2.length + x.f1.size ≤ 1048576 := fun x hx => by
    have h1 := sum_mem_le (fun x => B25 x) hx
    have h2 := client_le x
    omega
  have hz : ∀ x ∈ x0.f2, x.f2.length ≤ 1000000000 := fun x hx => by have := hm x hx; omega
  obtain ⟨hr1, hr2⟩ := refClient_le x0.f2 a1 1048576 hm
  refine Ev.get ?_
  unfold exequaturlaw16_ClientFinds.f
  obtain ⟨sm, hsm⟩ := small_ev x0.f0 x0.f1.f0 x0.f1.f1 x0.f2 x0.f3
  refine Ev.bind hsm ?_
  by_cases hs : sm = true
  · refine Ev.if_pos hs ?_
    refine Ev.bind (Ev.const (client_f _ _ _ _ _ a1 hz)) (Ev.bind (ref_Client _ _ _ _ _ (by omega) a1) (Ev.bind (Ev.const (conn_f _ _ _ _ _ a1)) (Ev.bind (ref_Conn _ _ _ _ _ (by omega) a1) ?_)))
    refine Ev.if_neg (by simp) (Ev.if_pos rfl (Ev.if_pos rfl (Ev.if_pos rfl (Ev.if_neg (by simp) ?_))))
    refine Ev.step (fun k => by rw [exequaturlaw16_ClientFinds.j0]) (Ev.if_neg (by simp) ?_)
    exact finds_from _ _ _ _ _ a1 a2 ((refClient x0.f2 a1).1, (refClient x0.f2 a1).2.1, (refClient x0.f2 a1).2.2.1) hz (by omega) (by omega) (by omega) (by simp only; omega) (refClient x0.f2 a1).2.2.1.length 0 (by simp)
  · exact Ev.if_neg hs (Ev.bind (Ev.some true) (Ev.some true))
end Go.Proofs.YtkcgalpagpgfhaaDoor.X
