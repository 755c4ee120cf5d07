/- Ours: the plain law of UriBytes. -/
import Derived.Test.YtjagjfmkfiikaaaDoorHPureUriEq
import Derived.Test.YtjagjfmkfiikaaaDoorX11
import Derived.OpenShut
namespace Go.Proofs.YtjagjfmkfiikaaaDoor.X
open Go.RowKit Go.Proofs.YtjagjfmkfiikaaaDoorW.PrintWords Go.Proofs.YtjagjfmkfiikaaaDoor.Spec
set_option linter.unusedVariables false
set_option linter.unusedSimpArgs false
theorem uri_odd (l : List UInt8) (hz : l.length ≤ 4096) (c : UInt8) (hc : c ∈ l) (h : goodc c = false) : (uriU l).2.2.2.2 = 2 := by
  unfold uriU
  rw [if_neg (by omega), if_pos]
  · rfl
  · cases hh : cleanL l with
    | false => rfl
    | true => have := List.all_eq_true.1 hh c hc; rw [h] at this; cases this
theorem pure_UriBytes (a0 : Int) (a1 : Int) (hb : (1) + (1) ≤ 1048576) (g0 : (Lit.int .u8 a0).wf = true) (g1 : (Lit.int .u8 a1).wf = true) : ∃ k, exequaturlaw03_UriBytes.f k a0 a1 = some true := by
  have b0 := bounds_u8 g0
  have b1 := bounds_u8 g1
  refine Ev.get (g := fun k => exequaturlaw03_UriBytes.f k a0 a1) ?_
  obtain ⟨n, hn, hn16⟩ : ∃ n : Nat, Int.tmod (wrap64 a1) 17 = (n : Int) ∧ n ≤ 16 := by
    rw [w64 (by omega) (by omega), Int.tmod_eq_emod_of_nonneg (by omega)]
    exact ⟨(a1 % 17).toNat, by omega, by omega⟩
  obtain ⟨c, hc⟩ : ∃ c : UInt8, a0 = (c.toNat : Int) := ⟨a0.toNat.toUInt8, by simp; omega⟩
  have hs1 : strOfNums [a0] = ba [c] := by rw [hc]; exact str_nb [c]
  unfold exequaturlaw03_UriBytes.f
  simp only [hn]
  refine Ev.if_neg (by decide) (Ev.if_pos (by omega) (Ev.if_pos (by omega) (Ev.bind (Ev.some _) ?_)))
  rw [hs1, show ((n : Int)).toNat = n from by omega]
  obtain ⟨L, hL⟩ : ∃ L : ByteArray, (⟨#[104, 116, 116, 112, 115, 58, 47, 47, 97, 98, 47, 99, 100, 63, 101, 102]⟩ : ByteArray) = L := ⟨_, rfl⟩
  have hLz : L.size = 16 := by rw [← hL]; rfl
  rw [hL]
  have h1 : (L.extract 0 n).size ≤ 16 := by rw [ByteArray.size_extract]; omega
  have h2 : (L.extract n L.size).size ≤ 16 := by rw [ByteArray.size_extract]; omega
  have h3 : (ba [c]).size = 1 := by simp
  refine Ev.if_pos (by omega) (Ev.if_pos (by rw [size_app]; omega) ?_)
  obtain ⟨T, hT⟩ : ∃ T : ByteArray, (L.extract 0 n ++ ba [c]) ++ L.extract n L.size = T := ⟨_, rfl⟩
  have hm : c ∈ bl T := by rw [← hT, bl_append, bl_append, bl_ba]; simp
  have hTz : (bl T).length ≤ 4096 := by rw [bl_length, ← hT, size_app, size_app]; omega
  rw [hT]
  refine Ev.bind (prog_f T) (Ev.bind (ref_f T) ?_)
  by_cases h33 : a0 < 33
  · refine Ev.if_pos h33 (Ev.bind answers_ok (Ev.if_pos rfl (Ev.if_pos rfl ((Ev.some _).uni ?_))))
    have hg : goodc c = false := by unfold goodc; rw [decide_eq_false (by omega)]; rfl
    rw [uri_odd (bl T) hTz c hm hg]; rfl
  · refine Ev.if_neg h33 (Ev.bind answers_ok (Ev.if_pos rfl (Ev.if_pos rfl ?_)))
    by_cases h126 : a0 > 126
    · refine Ev.if_pos h126 ((Ev.some _).uni ?_)
      have hg : goodc c = false := by unfold goodc; rw [decide_eq_false (show ¬ c.toNat ≤ 126 by omega)]; simp
      rw [uri_odd (bl T) hTz c hm hg]; rfl
    · exact Ev.if_neg h126 (Ev.some _)
end Go.Proofs.YtjagjfmkfiikaaaDoor.X
