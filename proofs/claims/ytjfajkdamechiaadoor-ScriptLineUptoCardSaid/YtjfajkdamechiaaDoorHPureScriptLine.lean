/- Ours: the plain law of ScriptLine. -/
import Derived.Test.YtjfajkdamechiaaDoorHPure
import Derived.Test.YtjfajkdamechiaaDoorX11
namespace Go.Proofs.YtjfajkdamechiaaDoor.X
open Go.RowKit Go.Proofs.YtjfajkdamechiaaDoorW.PrintWords Go.Proofs.YtjfajkdamechiaaDoor.Spec
set_option linter.unusedVariables false
set_option linter.unusedSimpArgs false

def tails : List ByteArray := [(⟨#[]⟩ : ByteArray), (⟨#[49]⟩ : ByteArray), (⟨#[49, 32, 48, 32, 120, 32, 120, 32, 120, 32, 120, 32, 120, 32, 120, 32, 120, 32, 120, 32, 120]⟩ : ByteArray), (⟨#[48, 49, 32, 48, 32, 120, 32, 120, 32, 120, 32, 120, 32, 120, 32, 120, 32, 120, 32, 120, 32, 120, 32, 120]⟩ : ByteArray), (⟨#[49, 32, 43, 48, 32, 120, 32, 120, 32, 120, 32, 120, 32, 120, 32, 120, 32, 120, 32, 120, 32, 120, 32, 120]⟩ : ByteArray), (⟨#[49, 32, 48, 32, 120, 32, 120, 32, 120, 32, 120, 32, 120, 32, 120, 32, 120, 32, 120, 32, 120, 32, 120, 61]⟩ : ByteArray), (⟨#[49, 32, 48, 32, 120, 32, 120, 32, 120, 32, 120, 32, 120, 32, 120, 32, 120, 32, 120, 32, 120, 32, 120, 65]⟩ : ByteArray), (⟨#[49, 32, 48, 32, 120, 32, 120, 32, 120, 32, 120, 32, 120, 32, 120, 32, 120, 32, 120, 32, 120]⟩ : ByteArray), (⟨#[49, 32, 48, 32, 32, 120, 32, 120, 32, 120, 32, 120, 32, 120, 32, 120, 32, 120, 32, 120, 32, 120, 32, 120]⟩ : ByteArray), (⟨#[49, 32, 48, 32, 120, 32, 120, 32, 120, 32, 120, 32, 120, 32, 120, 32, 120, 32, 120, 32, 120, 32, 121]⟩ : ByteArray), (⟨#[120, 32, 48, 32, 120, 32, 120, 32, 120, 32, 120, 32, 120, 32, 120, 32, 120, 32, 120, 32, 120, 32, 120]⟩ : ByteArray)]
theorem tails_fin : ∀ j : Fin 11, (stepR (bl (rdOf ByteArray.empty tails (j.val : Int)))).2 = false ∧ (10 : UInt8) ∉ bl (rdOf ByteArray.empty tails (j.val : Int)) ∧ (rdOf ByteArray.empty tails (j.val : Int)).size ≤ 30 := by decide +kernel
theorem pure_ScriptLine (l0 : List (S36)) (a1 : Int) (a2 : Int) (hb : (B22 (l0)) + (1) + (1) ≤ 1048576) (g0 : G22 (l0)) (g1 : (Lit.int .u8 a1).wf = true) (g2 : (Lit.int .u8 a2).wf = true) : ∃ k, exequaturlaw24_ScriptLine.f k l0 a1 a2 = some true := by
  obtain ⟨hok, hl, ht⟩ := wf_ok (by omega) g0
  have hu : ∀ v : Int, (Lit.int .u8 v).wf = true → 0 ≤ v ∧ v ≤ 255 := by
    intro v h
    have h2 : (decide (IntKind.u8.min ≤ v) && decide (v ≤ IntKind.u8.max)) = true := h
    rw [Bool.and_eq_true] at h2
    exact ⟨of_decide_eq_true h2.1, of_decide_eq_true h2.2⟩
  have hu1 := hu a1 g1
  have hu2 := hu a2 g2
  refine Ev.get ?_
  unfold exequaturlaw24_ScriptLine.f
  refine Ev.bind (Ev.const (small_f l0 hok hl)) ?_
  by_cases hs : smallG 0 l0 = true
  · refine Ev.if_pos hs ?_
    have hm : Int.tmod (wrap64 a1) (wrap64 ((l0.length : Int) + 1)) = ((a1.toNat % (l0.length + 1) : Nat) : Int) := by
      rw [w64 (n := a1) (by omega) (by omega), w64 (n := (l0.length : Int) + 1) (by omega) (by omega), Int.tmod_eq_emod_of_nonneg (by omega)]
      have h1 : a1 = ((a1.toNat : Nat) : Int) := by omega
      conv => lhs; rw [h1]
      exact (Int.natCast_emod a1.toNat (l0.length + 1)).symm
    have hj : Int.tmod a2 11 = ((a2.toNat % 11 : Nat) : Int) := by
      rw [Int.tmod_eq_emod_of_nonneg (by omega)]; omega
    have hkl : a1.toNat % (l0.length + 1) < l0.length + 1 := Nat.mod_lt _ (by omega)
    have hjl : a2.toNat % 11 < 11 := Nat.mod_lt _ (by omega)
    simp only [hm, hj]
    generalize a1.toNat % (l0.length + 1) = kk at hkl
    generalize a2.toNat % 11 = j at hjl
    have htl := tails_fin ⟨j, hjl⟩
    simp only at htl
    obtain ⟨tl, htle⟩ : ∃ tl, rdOf ByteArray.empty tails (j : Int) = tl := ⟨_, rfl⟩
    rw [htle] at htl
    have hokt : ∀ s ∈ l0.take kk, stOk s := fun s hs => hok s (List.mem_of_mem_take hs)
    have hokd : ∀ s ∈ l0.drop kk, stOk s := fun s hs => hok s (List.mem_of_mem_drop hs)
    have htt : (textL (l0.take kk)).length + (textL (l0.drop kk)).length ≤ 60000000 := by
      have := congrArg List.length (textL_append (l0.take kk) (l0.drop kk))
      rw [List.take_append_drop, List.length_append] at this
      omega
    refine Ev.bind (Ev.some tails) ?_
    refine Ev.if_neg (by rw [w64 (n := (l0.length : Int) + 1) (by omega) (by omega)]; omega) (Ev.if_pos (by omega) (Ev.if_pos (by omega) ?_))
    rw [Int.toNat_natCast]
    refine Ev.bind (text_f _ hokt (by rw [List.length_take]; omega)) ?_
    refine Ev.if_pos (by omega) (Ev.if_pos (by have : tails.length = 11 := rfl; omega) ?_)
    rw [htle]
    refine Ev.if_pos (by rw [size_ba]; omega) (Ev.if_pos (by rw [ByteArray.size_append, size_ba]; omega) ?_)
    refine Ev.bind (text_f _ hokd (by rw [List.length_drop]; omega)) ?_
    refine Ev.if_pos (by rw [ByteArray.size_append, ByteArray.size_append, size_ba, size_ba, show (⟨#[10]⟩ : ByteArray).size = 1 from rfl]; omega) ?_
    have e : ba (textL (l0.take kk)) ++ tl ++ (⟨#[10]⟩ : ByteArray) ++ ba (textL (l0.drop kk)) = ba (textL (l0.take kk) ++ (bl tl ++ 10 :: textL (l0.drop kk))) := by
      apply bl_inj
      rw [bl_append, bl_append, bl_append, bl_ba, bl_ba, bl_ba, show bl (⟨#[10]⟩ : ByteArray) = [10] from rfl]
      simp
    rw [e]
    refine Ev.bind (parse_f _ (by simp only [List.length_append, List.length_cons, bl_length]; omega)) ?_
    obtain ⟨f', h1, h2⟩ := parse_lines (l0.take kk) (bl tl ++ 10 :: textL (l0.drop kk)) [] 1 ((textL (l0.take kk) ++ (bl tl ++ 10 :: textL (l0.drop kk))).length + 1) hokt (by omega)
    have hpr : parseR (textL (l0.take kk) ++ (bl tl ++ 10 :: textL (l0.drop kk))) = ([], 1 + ((l0.take kk).length : Int), 11) := by
      unfold parseR
      rw [h2]
      cases f' with
      | zero => omega
      | succ f' =>
        rw [pG, if_neg (by simp), (pre_stop 10 (bl tl) _ htl.2.1).1, if_neg (by rw [htl.1]; simp)]
    rw [hpr]
    refine Ev.bind answers_ev (Ev.if_pos rfl (Ev.if_pos rfl (Ev.if_pos ?_ ?_)))
    · rw [w64 (by omega) (by omega), List.length_take]
      show (1 : Int) + ((min kk l0.length : Nat) : Int) = (kk : Int) + 1
      omega
    · exact Ev.const rfl
  · exact Ev.if_neg hs ends_ev
end Go.Proofs.YtjfajkdamechiaaDoor.X
