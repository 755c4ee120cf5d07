/- Ours: the plain laws of chapter 16. -/
import Derived.Test.YtkcgalpagpgfhaaDoorHEv
import Derived.Test.YtkcgalpagpgfhaaDoorHOps
import Derived.Test.YtkcgalpagpgfhaaDoorHAns
import Derived.Test.YtkcgalpagpgfhaaDoorHConn
import Derived.Test.YtkcgalpagpgfhaaDoorX9
import Derived.Test.YtkcgalpagpgfhaaDoorX10
import Derived.Test.YtkcgalpagpgfhaaDoorX3
import Derived.Test.YtkcgalpagpgfhaaDoorX7
namespace Go.Proofs.YtkcgalpagpgfhaaDoor.X
open Go.RowKit Go.Proofs.YtkcgalpagpgfhaaDoorW.PrintWords Go.Proofs.YtkcgalpagpgfhaaDoor.Spec
set_option linter.unusedVariables false
set_option linter.unusedSimpArgs false
def hasB (x : ByteArray) (l : List ByteArray) : Bool := l.any fun y => y.toList == x.toList
def hasT (x : ByteArray) (l : List ByteArray) : Bool := l.any fun y => x.toList == y.toList
theorem index_from (l : List ByteArray) (x : ByteArray) (hl : l.length ≤ 4611686018427387904) : ∀ n i, i + n = l.length → Ev (fun k => slices_Index_string_string.l0 k l x (l.length : Int) (i : Int)) (if hasT x (l.drop i) then ((i + (l.drop i).findIdx (fun y => x.toList == y.toList) : Nat) : Int) else -1) := by
  intro n
  induction n with
  | zero =>
    intro i hi
    refine Ev.step (fun k => by rw [slices_Index_string_string.l0]) ?_
    refine Ev.if_neg (by omega) ?_
    rw [List.drop_of_length_le (by omega)]
    exact Ev.some _
  | succ n ih =>
    intro i hi
    have hlt : i < l.length := by omega
    refine Ev.step (fun k => by rw [slices_Index_string_string.l0]) ?_
    refine Ev.if_pos (by omega) (Ev.if_pos (by omega) (Ev.if_pos (by omega) ?_))
    have hr : rdOf ByteArray.empty l (i : Int) = l[i] := by simp [rdOf, hlt]
    rw [hr]
    have hd : l.drop i = l[i] :: l.drop (i + 1) := List.drop_eq_getElem_cons hlt
    by_cases h : x.toList = l[i].toList
    · refine Ev.if_pos h ?_
      have hb : (x.toList == l[i].toList) = true := beq_iff_eq.2 h
      have h1 : hasT x (l.drop i) = true := by unfold hasT; rw [hd, List.any_cons, hb, Bool.true_or]
      have h2 : (l.drop i).findIdx (fun y => x.toList == y.toList) = 0 := by rw [hd, List.findIdx_cons, hb]; rfl
      rw [h1, h2]
      exact Ev.some _
    · refine Ev.if_neg h ?_
      rw [w64 (by omega) (by omega), show ((i : Int) + 1) = ((i + 1 : Nat) : Int) from by omega]
      refine (ih (i + 1) (by omega)).uni ?_
      have hb : (x.toList == l[i].toList) = false := beq_eq_false_iff_ne.2 h
      have h1 : hasT x (l.drop i) = hasT x (l.drop (i + 1)) := by unfold hasT; rw [hd, List.any_cons, hb, Bool.false_or]
      have h2 : (l.drop i).findIdx (fun y => x.toList == y.toList) = (l.drop (i + 1)).findIdx (fun y => x.toList == y.toList) + 1 := by rw [hd, List.findIdx_cons, hb]; rfl
      rw [h1, h2]
      split
      · omega
      · rfl
theorem contains_f (l : List ByteArray) (x : ByteArray) (hl : l.length ≤ 4611686018427387904) : Ev (fun k => slices_Contains_string_string.f k l x) (hasT x l) := by
  unfold slices_Contains_string_string.f slices_Index_string_string.f
  refine Ev.bind (index_from l x hl l.length 0 (by omega)) ?_
  rw [List.drop_zero]
  refine (Ev.some _).uni ?_
  cases h : hasT x l
  · simp
  · simp

/-! the client of a name -/
def isId (id : ByteArray) (x : S25) : Bool := x.f0.toList == id.toList
def refClient (l : List S25) (id : ByteArray) : ByteArray × ByteArray × List ByteArray × Bool :=
  if findC l id < 0 then (⟨#[]⟩, ⟨#[]⟩, [], false) else ((rd_T25 l (findC l id)).f0, (rd_T25 l (findC l id)).f1, (rd_T25 l (findC l id)).f2, true)
theorem rd_cl (l : List S25) (i : Nat) (h : i < l.length) : rd_T25 l (i : Int) = l[i] := by simp [rd_T25, h]
theorem rclient_from (a0 a1 a2 : ByteArray) (l : List S25) (l4 : List S40) (hl : l.length ≤ 4611686018427387904) (id : ByteArray) : ∀ n i, i + n = l.length → (∀ j (hj : j < i) (hj2 : j < l.length), isId id l[j] = false) →
    Ev (fun k => exequaturref13_Client.l0 k id (i : Int) a0 a1 a2 l l4) (refClient l id) := by
  intro n
  induction n with
  | zero =>
    intro i hi hm
    have : findC l id = -1 := idxOf_all (isId id) l (fun x hx => by obtain ⟨j, hj, rfl⟩ := List.getElem_of_mem hx; exact hm j (by omega) hj)
    unfold refClient
    rw [this, if_pos (by decide)]
    refine Ev.step (fun k => by rw [exequaturref13_Client.l0]) ?_
    exact Ev.if_neg (by omega) (Ev.some _)
  | succ n ih =>
    intro i hi hm
    have hlt : i < l.length := by omega
    refine Ev.step (fun k => by rw [exequaturref13_Client.l0]) (Ev.if_pos (by omega) (Ev.if_pos (by omega) ?_))
    by_cases h : isId id l[i] = true
    · have hx : findC l id = i := idxOf_hit (isId id) i l hlt (fun j hj => hm j hj (by omega)) h
      unfold refClient
      rw [hx, if_neg (by omega), rd_cl _ _ hlt]
      exact Ev.if_pos (by simpa [isId] using h) (Ev.some _)
    · have hf : isId id l[i] = false := by simpa using h
      rw [rd_cl _ _ hlt, w64 (by omega) (by omega)]
      refine Ev.if_neg (by simpa [isId] using hf) (ih (i + 1) (by omega) (fun j hj hj2 => ?_))
      by_cases e : j = i
      · subst e; exact hf
      · exact hm j (by omega) hj2
theorem ref_Client (a0 a1 a2 : ByteArray) (l : List S25) (l4 : List S40) (hl : l.length ≤ 4611686018427387904) (id : ByteArray) : Ev (fun k => exequaturref13_Client.f k a0 a1 a2 l l4 id) (refClient l id) :=
  rclient_from a0 a1 a2 l l4 hl id l.length 0 (by simp) (fun j hj => by omega)
theorem rredirect_from (a0 a1 : ByteArray) (l : List ByteArray) (hl : l.length ≤ 4611686018427387904) (x : ByteArray) : ∀ n i, i + n = l.length → Ev (fun k => exequaturref13_Redirect.l0 k x (i : Int) a0 a1 l) (hasB x (l.drop i)) := by
  intro n
  induction n with
  | zero =>
    intro i hi
    rw [List.drop_of_length_le (by omega)]
    refine Ev.step (fun k => by rw [exequaturref13_Redirect.l0]) ?_
    exact Ev.if_neg (by omega) (Ev.some _)
  | succ n ih =>
    intro i hi
    have hlt : i < l.length := by omega
    have hd : l.drop i = l[i] :: l.drop (i + 1) := List.drop_eq_getElem_cons hlt
    have hr : rdOf ByteArray.empty l (i : Int) = l[i] := by simp [rdOf, hlt]
    refine Ev.step (fun k => by rw [exequaturref13_Redirect.l0]) (Ev.if_pos (by omega) (Ev.if_pos (by omega) ?_))
    rw [hr]
    by_cases h : l[i].toList = x.toList
    · have hb : (l[i].toList == x.toList) = true := beq_iff_eq.2 h
      refine Ev.if_pos h ((Ev.some _).uni ?_)
      unfold hasB
      rw [hd, List.any_cons, hb, Bool.true_or]
    · have hb : (l[i].toList == x.toList) = false := beq_eq_false_iff_ne.2 h
      rw [w64 (by omega) (by omega)]
      refine Ev.if_neg h ((ih (i + 1) (by omega)).uni ?_)
      unfold hasB
      rw [hd, List.any_cons, hb, Bool.false_or]
theorem ref_Redirect (a0 a1 : ByteArray) (l : List ByteArray) (hl : l.length ≤ 4611686018427387904) (x : ByteArray) : Ev (fun k => exequaturref13_Redirect.f k a0 a1 l x) (hasB x l) :=
  (rredirect_from a0 a1 l hl x l.length 0 (by omega)).uni (by rw [List.drop_zero])
theorem has_same (x : ByteArray) (l : List ByteArray) : hasT x l = hasB x l := by
  unfold hasT hasB
  congr 1
  funext y
  rw [Bool.eq_iff_iff, beq_iff_eq, beq_iff_eq]
  exact ⟨Eq.symm, Eq.symm⟩
theorem has_mem (x : ByteArray) (l : List ByteArray) (h : x ∈ l) : hasT x l = true := by
  unfold hasT
  exact List.any_eq_true.2 ⟨x, h, by simp⟩
theorem redirect_f (a b : ByteArray) (l : List ByteArray) (x : ByteArray) (hl : l.length ≤ 4611686018427387904) : Ev (fun k => client_Redirect.f k a b l x) (hasT x l) := by
  unfold client_Redirect.f
  exact Ev.bind (contains_f l x hl) (Ev.some _)
/-! the connector of a name -/
def refConn (l : List S40) (id : ByteArray) : ByteArray × ByteArray × ByteArray × ByteArray × ByteArray × Bool × ByteArray × Bool :=
  if findN l id < 0 then (⟨#[]⟩, ⟨#[]⟩, ⟨#[]⟩, ⟨#[]⟩, ⟨#[]⟩, false, ⟨#[]⟩, false) else ((rd_T40 l (findN l id)).f0, (rd_T40 l (findN l id)).f1, (rd_T40 l (findN l id)).f2, (rd_T40 l (findN l id)).f3, (rd_T40 l (findN l id)).f4, (rd_T40 l (findN l id)).f5, (rd_T40 l (findN l id)).f6, true)
def isIdN (id : ByteArray) (x : S40) : Bool := x.f0.toList == id.toList
theorem rd_cn (l : List S40) (i : Nat) (h : i < l.length) : rd_T40 l (i : Int) = l[i] := by simp [rd_T40, h]
theorem rconn_from (a0 a1 a2 : ByteArray) (l3 : List S25) (l : List S40) (hl : l.length ≤ 4611686018427387904) (id : ByteArray) : ∀ n i, i + n = l.length → (∀ j (hj : j < i) (hj2 : j < l.length), isIdN id l[j] = false) →
    Ev (fun k => exequaturref13_Conn.l0 k id (i : Int) a0 a1 a2 l3 l) (refConn l id) := by
  intro n
  induction n with
  | zero =>
    intro i hi hm
    have : findN l id = -1 := idxOf_all (isIdN id) l (fun x hx => by obtain ⟨j, hj, rfl⟩ := List.getElem_of_mem hx; exact hm j (by omega) hj)
    unfold refConn
    rw [this, if_pos (by decide)]
    refine Ev.step (fun k => by rw [exequaturref13_Conn.l0]) ?_
    exact Ev.if_neg (by omega) (Ev.some _)
  | succ n ih =>
    intro i hi hm
    have hlt : i < l.length := by omega
    refine Ev.step (fun k => by rw [exequaturref13_Conn.l0]) (Ev.if_pos (by omega) (Ev.if_pos (by omega) ?_))
    by_cases h : isIdN id l[i] = true
    · have hx : findN l id = i := idxOf_hit (isIdN id) i l hlt (fun j hj => hm j hj (by omega)) h
      unfold refConn
      rw [hx, if_neg (by omega), rd_cn _ _ hlt]
      exact Ev.if_pos (by simpa [isIdN] using h) (Ev.some _)
    · have hf : isIdN id l[i] = false := by simpa using h
      rw [rd_cn _ _ hlt, w64 (by omega) (by omega)]
      refine Ev.if_neg (by simpa [isIdN] using hf) (ih (i + 1) (by omega) (fun j hj hj2 => ?_))
      by_cases e : j = i
      · subst e; exact hf
      · exact hm j (by omega) hj2
theorem ref_Conn (a0 a1 a2 : ByteArray) (l3 : List S25) (l : List S40) (hl : l.length ≤ 4611686018427387904) (id : ByteArray) : Ev (fun k => exequaturref13_Conn.f k a0 a1 a2 l3 l id) (refConn l id) :=
  rconn_from a0 a1 a2 l3 l hl id l.length 0 (by simp) (fun j hj => by omega)
theorem conn_f (a0 a1 a2 : ByteArray) (l3 : List S25) (l : List S40) (id : ByteArray) : client_Conn.f a0 a1 a2 l3 l id = some (refConn l id) := by
  unfold client_Conn.f refConn
  split <;> rfl
theorem client_f (a0 a1 a2 : ByteArray) (l : List S25) (l4 : List S40) (id : ByteArray) (hz : ∀ x ∈ l, x.f2.length ≤ 1000000000) : client_Client.f a0 a1 a2 l l4 id = some (refClient l id) := by
  unfold client_Client.f refClient
  by_cases h : findC l id < 0
  · rw [if_pos h, if_pos h]
  · rw [if_neg h, if_neg h]
    have hr := idxOf_range (fun x : S25 => x.f0.toList == id.toList) l
    have hlt : (findC l id).toNat < l.length := by have : findC l id < l.length := hr.2; omega
    have hx : rd_T25 l (findC l id) = l[(findC l id).toNat] := by
      unfold rd_T25
      rw [List.getD_eq_getElem?_getD, List.getElem?_eq_getElem hlt]; rfl
    rw [hx, if_pos (hz _ (List.getElem_mem hlt))]
def authR (l : List S25) (id s : ByteArray) : Bool := (refClient l id).2.2.2 && !decide ((refClient l id).2.1.toList = []) && decide (bl (refClient l id).2.1 = bl s)
theorem auth_f (a b c : ByteArray) (l3 : List S25) (l4 : List S40) (id s : ByteArray) (hz : ∀ x ∈ l3, x.f2.length ≤ 1000000000) (hs : s.size ≤ 1000000000000) (hr : (refClient l3 id).2.1.size ≤ 1000000000000) : Ev (fun k => client_Auth.f k a b c l3 l4 id s) (authR l3 id s) := by
  unfold client_Auth.f authR
  refine Ev.bind (Ev.const (client_f a b c l3 l4 id hz)) ?_
  by_cases h1 : (refClient l3 id).2.2.2 = true
  · refine Ev.if_pos h1 ?_
    rw [h1]
    by_cases h2 : (refClient l3 id).2.1.toList = []
    · rw [decide_eq_true h2]
      exact Ev.if_pos h2 (Ev.some _)
    · rw [decide_eq_false h2]
      refine Ev.if_neg h2 (Ev.bind (equal_f _ s hr hs) ?_)
      exact (Ev.some _).uni (by simp)
  · refine Ev.if_neg h1 ?_
    rw [Bool.eq_false_iff.2 h1]
    exact Ev.some _
theorem rauth_f (a b c : ByteArray) (l3 : List S25) (l4 : List S40) (id s : ByteArray) (hl : l3.length ≤ 4611686018427387904) : Ev (fun k => exequaturref13_Auth.f k a b c l3 l4 id s) (authR l3 id s) := by
  unfold exequaturref13_Auth.f authR
  refine Ev.bind (ref_Client a b c l3 l4 hl id) ?_
  by_cases h1 : (refClient l3 id).2.2.2 = true
  · refine Ev.if_pos h1 ?_
    rw [h1]
    by_cases h2 : (refClient l3 id).2.1.toList = []
    · rw [decide_eq_true h2]
      exact Ev.if_pos h2 (Ev.some _)
    · rw [decide_eq_false h2]
      refine Ev.if_neg h2 ((Ev.some _).uni ?_)
      rw [toList_bl, toList_bl, Bool.eq_iff_iff, beq_iff_eq]
      simp
  · refine Ev.if_neg h1 ?_
    rw [Bool.eq_false_iff.2 h1]
    exact Ev.some _
end Go.Proofs.YtkcgalpagpgfhaaDoor.X
