/- Proved: exequatur/exequaturlaw17.AskTwice answers true at every input that its statement lets in (bulk at most 1048576: the second form), and the input reads behind the call as it did. Conditions: those of the statement alone. Text made by rows.py (ours). -/
import Derived.Test.YtmhaaggmfgojbaaDoorBH
import Derived.Test.YtmhaaggmfgojbaaDoorX18
import Derived.Test.YtmhaaggmfgojbaaDoorHPureAskTwice
import Derived.Test.YtmhaaggmfgojbaaDoorBC
namespace Go.Proofs.YtmhaaggmfgojbaaDoor.X.askTwice
open Go.ChangeShapes Go.WideShapes Go.ChangeAt Go.RowKit Go.Proofs.YtmhaaggmfgojbaaDoorW.PrintWords
open Go.ChangeMaps (open_string shut_string)
set_option linter.unusedVariables false
set_option maxRecDepth 100000
theorem contract (H : Type) (enc : TypeId × Value → H) (W : World) (base : Nat) (args : Array Value) (ds gs : List (DataW H)) (before : List MemPlace)
    (hval : ∀ (j : Nat) t v, Tryd.f6.params[j]? = some t → args[j]? = some v → Value.okWide Tryd.prog W .any base t v)
    (hW : DataW.Whole enc Tryd.prog Tryd.f6.params.toList Rows.askTwiceSpec.vars false W args.toList ds gs before) (hk : Rows.uptoSmall H (ds ++ gs) = true) (hG : GOK W) :
    Calls Tryd.prog 6 args W fun e W' => ∃ v, e = .returned v ∧ Rows.askTwiceSpec.post enc Tryd.prog Tryd.f6 false true false false W args v W' := by
  have hW' := hW
  obtain ⟨p, q, hA0, hV, rfl, hfz, hnd⟩ := hW
  have hA : DataW.TrodAll enc Tryd.prog W 0 (fun _ => true) true Tryd.f6.params.toList args.toList ds p := hA0
  rw [Tryd.params6] at hA hval
  obtain ⟨v0, vs0, d0, ds0, p0, q0, hargs, rfl, rfl, h0, r0⟩ := trodAll_cons hA
  obtain ⟨v1, vs1, d1, ds1, p1, q1, rfl, rfl, rfl, h1, r1⟩ := trodAll_cons r0
  obtain ⟨v2, vs2, d2, ds2, p2, q2, rfl, rfl, rfl, h2, r2⟩ := trodAll_cons r1
  obtain ⟨rfl, rfl, rfl⟩ := trodAll_nil r2
  obtain rfl : args = #[v0, v1, v2] := by cases args; simp_all
  obtain ⟨rfl, rfl⟩ := trodVars_none hV
  have hbk := bound hk
  simp only [List.append_nil, Rows.uptoBulkAll] at hbk
  obtain ⟨cs0, rfl, _⟩ := okWide_struct Tryd.underlying27 (hval 0 27 v0 rfl rfl)
  have k0 := h0
  have lt0 : ∀ x ∈ p0, x.block < W.heap.size := by obtain ⟨m, hm⟩ := k0; exact DataW.trod_lt m _ _ _ hm
  obtain ⟨fuel0, hf0⟩ := h0
  obtain ⟨x0, hK0, b0, g0⟩ := op27 H enc W _ _ _ hf0
  obtain ⟨A0_3, c0_3, A0_4, c0_4, e0, lc0_3, hc0_3, lc0_4, hc0_4⟩ := k27_open hK0
  have e0_ : cs0.toList = [.string x0.f0, .string x0.f1.f0, .string x0.f1.f1, .slice A0_3 x0.f2.length c0_3, .slice A0_4 x0.f3.length c0_4] := e0
  have e0' : cs0 = #[.string x0.f0, .string x0.f1.f0, .string x0.f1.f1, .slice A0_3 x0.f2.length c0_3, .slice A0_4 x0.f3.length c0_4] := by have := congrArg List.toArray e0_; simpa using this
  subst e0'
  clear e0 e0_
  simp only at b0
  obtain ⟨u1, len1, cap1, rfl⟩ := okWide_slice Tryd.underlying37 (hval 1 37 v1 rfl rfl)
  have k1 := h1
  have lt1 : ∀ x ∈ p1, x.block < W.heap.size := by obtain ⟨m, hm⟩ := k1; exact DataW.trod_lt m _ _ _ hm
  obtain ⟨fuel1, hf1⟩ := h1
  obtain ⟨l1, ⟨A1, c1, e1, hc1, hr1⟩, b1, g1⟩ := op37 H enc W _ _ _ hf1
  have e1' : Value.slice u1 len1 cap1 = Value.slice A1 l1.length c1 := (List.cons.inj (show [Value.slice u1 len1 cap1] = [Value.slice A1 l1.length c1] from e1)).1
  simp only [Value.slice.injEq] at e1'
  obtain ⟨rfl, rfl, rfl⟩ := e1'
  clear e1
  simp only at b1
  obtain ⟨a2, rfl, rfl, rfl, w2⟩ := open_int Tryd.underlying5 (hval 2 5 v2 rfl rfl) h2
  have b2 : 1 ≤ Rows.uptoBulk (H := H) (.lit (.int .u8 a2)) := by simp [Rows.uptoBulk]
  clear hA0
  obtain ⟨k, hP⟩ := pure_AskTwice x0 l1 a2 (by omega) g0 g1 w2
  refine (exequaturlaw17_AskTwice.calls k (x0.f0) (x0.f1.f0) (x0.f1.f1) A0_3 c0_3 (x0.f2) A0_4 c0_4 (x0.f3) u1 cap1 l1 a2 true W hc0_3 lc0_3 hc0_4 lc0_4 hr1 hc1 hP).mono ?_
  rintro e W' ⟨rfl, bel0⟩
  have bel : Below W.heap.size W W' := by first | exact bel0 | exact bel0.below
  exact ⟨_, rfl, _, _, _, [], _, [], hW', trodAll_mk1 (shut_bool Tryd.underlying4 _), (trodAll_cons_mk (Below.trod laidOut (by kernel_rfl) (of_decide_eq_true (by kernel_rfl)) k0 bel lt0) (trodAll_cons_mk (Below.trod laidOut (by kernel_rfl) (of_decide_eq_true (by kernel_rfl)) k1 bel lt1) (trodAll_cons_mk (shut_int Tryd.underlying5 w2) trodAll_mk0))), rfl, bel.frame _, fun h => by cases h⟩
noncomputable def laidWorld (os : Os) : World := put 0 Rows.laid_unicode_utf8_first (put 1 (Rows.laid_unicode_utf8_acceptRanges (H := Unit)) (World.holding Tryd.prog os ⟨#[], #[], []⟩))
theorem laid_met (os : Os) : laidMet Tryd.prog Rows.askTwiceUptoRow.laid ((laidWorld os).forCall (fun _ _ => 0) ⟨#[], #[.agg #[.string ⟨#[]⟩, .string ⟨#[]⟩, .string ⟨#[]⟩, .slice none 0 0, .slice none 0 0], .slice none 0 0, .int .u8 0], []⟩).memory :=
  laidMet_of_run' 8 (by kernel_rfl) (by kernel_rfl)
theorem reads (os : Os) {H : Type} (enc : TypeId × Value → H) : ∃ places, DataW.whole enc Tryd.prog ((laidWorld os).forCall (fun _ _ => 0) ⟨#[], #[.agg #[.string ⟨#[]⟩, .string ⟨#[]⟩, .string ⟨#[]⟩, .slice none 0 0, .slice none 0 0], .slice none 0 0, .int .u8 0], []⟩).memory Tryd.f6.params.toList Rows.askTwiceSpec.vars false (#[.agg #[.string ⟨#[]⟩, .string ⟨#[]⟩, .string ⟨#[]⟩, .slice none 0 0, .slice none 0 0], .slice none 0 0, .int .u8 0] : Array Value).toList 8 = some ([.agg [.lit (.string []), .agg [.lit (.string []), .lit (.string [])], .nil, .nil], .nil, .lit (.int .u8 0)], [], places) :=
  ⟨[], by kernel_rfl⟩
theorem lifted (os : Os) (started : os.Started) (H : Type) (enc : TypeId × Value → H) (F : Stop.Interp) :
    ReturnsInHanded {} Tryd.checked os 6 .any ((Rows.OpenSpec.upto Rows.askTwiceSpec).preRow enc Tryd.prog Tryd.f6 Rows.askTwiceUptoRow.domain false Rows.askTwiceUptoRow.laid) (((Rows.OpenSpec.upto Rows.askTwiceSpec).at F).post enc Tryd.prog Tryd.f6 false true false false) := by
  obtain ⟨places, hx⟩ := reads os enc
  refine returnsInHanded_of_row (C := Tryd.checked) (s := Rows.OpenSpec.upto Rows.askTwiceSpec) own started (by kernel_rfl) Tryd.func6
    (witness_row_at (enc := enc) (C := Tryd.checked) false (laidWorld os) #[.agg #[.string ⟨#[]⟩, .string ⟨#[]⟩, .string ⟨#[]⟩, .slice none 0 0, .slice none 0 0], .slice none 0 0, .int .u8 0] rfl (by kernel_rfl) (by kernel_rfl) (by kernel_rfl)
      (OpenSpec.preRow_of_cond 8 hx (by kernel_rfl) (fun k hk => by cases hk; kernel_rfl) (by kernel_rfl) (laid_met os))) ?_
  intro W base args ds gs before hval hW _ hcond _ hL hSh _
  exact contract H enc W base args ds gs before hval hW (hcond _ rfl) (GOK.shaped hSh)
theorem said : Rows.AskTwiceUptoSaid :=
  OpenClaim.holds_of_cond 6 Tryd.f6 rfl rfl rfl rfl rfl rfl rfl ⟨rfl, rfl, rfl, rfl, rfl⟩ rfl rfl rfl rfl rfl (by kernel_rfl) Tryd.func6 (by kernel_rfl)
    (of_decide_eq_true (by kernel_rfl)) (by unfold Func.isWrapper; first | (rw [if_pos (by decide +kernel)]; kernel_rfl) | (rw [if_neg (by decide +kernel)]; exact ⟨rfl, rfl⟩))
    (fun os started H enc _ F => by rw [OpenClaim.pre_eq_preRow]; exact lifted os started H enc F)
theorem plain (f : FuncId) (fn : Func) (hf : Tryd.pinned.checked.prog.funcNamed "exequatur/exequaturlaw17.AskTwice" = some f) (hfn : Tryd.pinned.checked.prog.funcs[f]? = some fn) :
    false = Tryd.pinned.checked.prog.looks [] ∧ ∀ (j : Nat) t, fn.params[j]? = some t → Tryd.pinned.checked.prog.wantsStandIn t = false := by
  obtain rfl : f = 6 := Option.some.inj ((show Tryd.prog.funcNamed "exequatur/exequaturlaw17.AskTwice" = some 6 by kernel_rfl).symm.trans hf) |>.symm
  obtain rfl : fn = Tryd.f6 := (Option.some.inj (Tryd.func6.symm.trans hfn)).symm
  refine ⟨by kernel_rfl, fun j t ht => ?_⟩
  rw [Tryd.params6] at ht
  have hm : t = 27 ∨ t = 37 ∨ t = 5 := by simpa using Array.mem_of_getElem? ht
  rcases hm with rfl | rfl | rfl
  · exact (show Tryd.prog.wantsStandIn 27 = false by kernel_rfl)
  · exact (show Tryd.prog.wantsStandIn 37 = false by kernel_rfl)
  · exact (show Tryd.prog.wantsStandIn 5 = false by kernel_rfl)
theorem card : Rows.AskTwiceUptoCardSaid :=
  Claim7.holds_tied_plain_at .later [] _ _ _ _ said (fun _ h => by cases h) (by kernel_rfl) (fun _ h => by cases h) askTwiceUpto_row_tie rfl ⟨rfl, rfl⟩ (by kernel_rfl) rfl plain (by kernel_rfl)
end Go.Proofs.YtmhaaggmfgojbaaDoor.X.askTwice
namespace Go.Proofs.YtmhaaggmfgojbaaDoor
theorem askTwice_holds : Rows.AskTwiceUptoCardSaid := X.askTwice.card
end Go.Proofs.YtmhaaggmfgojbaaDoor
