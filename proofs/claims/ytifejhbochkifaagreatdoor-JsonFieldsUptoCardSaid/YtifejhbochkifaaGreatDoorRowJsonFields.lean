/- Proved: exequatur/exequaturlaw05.JsonFields answers true at every input that its statement lets in (bulk at most 1048576: the second form), and the input reads behind the call as it did. Conditions: those of the statement alone. Text made by rows.py (ours). -/
import Derived.Test.YtifejhbochkifaaGreatDoorHOps
import Derived.Test.YtifejhbochkifaaGreatDoorTLawFields
import Derived.Test.YtifejhbochkifaaGreatDoorHPureJsonFields
import Derived.Test.YtifejhbochkifaaGreatDoorHGok
namespace Go.Proofs.YtifejhbochkifaaGreatDoor.X.jsonFields
open Go.ChangeShapes Go.WideShapes Go.ChangeAt Go.RowKit Go.Proofs.YtifejhbochkifaaGreatDoorW.PrintWords
open Go.ChangeMaps (open_string shut_string)
set_option linter.unusedVariables false
set_option maxRecDepth 100000
theorem contract (H : Type) (enc : TypeId × Value → H) (W : World) (base : Nat) (args : Array Value) (ds gs : List (DataW H)) (before : List MemPlace)
  (hval : ∀ (j : Nat) t v, Tryz.f8.params[j]? = some t → args[j]? = some v → Value.okWide Tryz.prog W .any base t v)
  (hW : DataW.Whole enc Tryz.prog Tryz.f8.params.toList Rows.jsonFieldsSpec.vars false W args.toList ds gs before) (hk : Rows.uptoSmall H (ds ++ gs) = true) (hG : GOK W) :
  Calls Tryz.prog 8 args W fun e W' => ∃ v, e = .returned v ∧ Rows.jsonFieldsSpec.post enc Tryz.prog Tryz.f8 false true false false W args v W' := by
 have hW' := hW
 obtain ⟨p, q, hA0, hV, rfl, hfz, hnd⟩ := hW
 have hA : DataW.TrodAll enc Tryz.prog W 0 (fun _ => true) true Tryz.f8.params.toList args.toList ds p := hA0
 rw [Tryz.params8] at hA hval
 obtain ⟨v0, vs0, d0, ds0, p0, q0, hargs, rfl, rfl, h0, r0⟩ := trodAll_cons hA
 obtain ⟨v1, vs1, d1, ds1, p1, q1, rfl, rfl, rfl, h1, r1⟩ := trodAll_cons r0
 obtain ⟨v2, vs2, d2, ds2, p2, q2, rfl, rfl, rfl, h2, r2⟩ := trodAll_cons r1
 obtain ⟨rfl, rfl, rfl⟩ := trodAll_nil r2
 obtain rfl : args = #[v0, v1, v2] := by cases args; simp_all
 obtain ⟨rfl, rfl⟩ := trodVars_none hV
 have hbk := bound hk
 simp only [List.append_nil, Rows.uptoBulkAll] at hbk
 obtain ⟨cs0, rfl, _⟩ := okWide_struct Tryz.underlying25 (hval 0 25 v0 rfl rfl)
 have k0 := h0
 have lt0 : ∀ x ∈ p0, x.block < W.heap.size := by obtain ⟨m, hm⟩ := k0; exact DataW.trod_lt m _ _ _ hm
 obtain ⟨fuel0, hf0⟩ := h0
 obtain ⟨x0, hK0, b0, g0⟩ := op25 H enc W _ _ _ hf0
 obtain ⟨A0_3, c0_3, A0_4, c0_4, e0, lc0_3, hc0_3, lc0_4, hc0_4⟩ := k25_open hK0
 have e0_ : cs0.toList = [.int .i64 x0.f0, .int .i64 x0.f1, .string x0.f2, .slice A0_3 x0.f3.length c0_3, .slice A0_4 x0.f4.length c0_4] := e0
 have e0' : cs0 = #[.int .i64 x0.f0, .int .i64 x0.f1, .string x0.f2, .slice A0_3 x0.f3.length c0_3, .slice A0_4 x0.f4.length c0_4] := by have := congrArg List.toArray e0_; simpa using this
 subst e0'
 clear e0 e0_
 simp only at b0
 obtain ⟨cs1, rfl, _⟩ := okWide_struct Tryz.underlying25 (hval 1 25 v1 rfl rfl)
 have k1 := h1
 have lt1 : ∀ x ∈ p1, x.block < W.heap.size := by obtain ⟨m, hm⟩ := k1; exact DataW.trod_lt m _ _ _ hm
 obtain ⟨fuel1, hf1⟩ := h1
 obtain ⟨x1, hK1, b1, g1⟩ := op25 H enc W _ _ _ hf1
 obtain ⟨A1_3, c1_3, A1_4, c1_4, e1, lc1_3, hc1_3, lc1_4, hc1_4⟩ := k25_open hK1
 have e1_ : cs1.toList = [.int .i64 x1.f0, .int .i64 x1.f1, .string x1.f2, .slice A1_3 x1.f3.length c1_3, .slice A1_4 x1.f4.length c1_4] := e1
 have e1' : cs1 = #[.int .i64 x1.f0, .int .i64 x1.f1, .string x1.f2, .slice A1_3 x1.f3.length c1_3, .slice A1_4 x1.f4.length c1_4] := by have := congrArg List.toArray e1_; simpa using this
 subst e1'
 clear e1 e1_
 simp only at b1
 obtain ⟨a2, rfl, rfl, rfl, y2⟩ := open_string Tryz.underlying9 (hval 2 9 v2 rfl rfl) h2
 have b2 : a2.size + 1 ≤ Rows.uptoBulk (H := H) (.lit (.string a2.data.toList)) := by simp [Rows.uptoBulk]
 clear hA0
 have hP := pure_JsonFields x0 x1 a2 (by omega) g0 g1
 refine (exequaturlaw05_JsonFields.calls (x0.f0) (x0.f1) (x0.f2) A0_3 c0_3 (x0.f3) A0_4 c0_4 (x0.f4) (x1.f0) (x1.f1) (x1.f2) A1_3 c1_3 (x1.f3) A1_4 c1_4 (x1.f4) a2 true W hc0_3 lc0_3 hc0_4 lc0_4 hc1_3 lc1_3 hc1_4 lc1_4 hP).mono ?_
 rintro e W' ⟨rfl, bel0⟩
 have bel : Below W.heap.size W W' := by first | exact bel0 | exact bel0.below
 exact ⟨_, rfl, _, _, _, [], _, [], hW', trodAll_mk1 (shut_bool Tryz.underlying4 _), (trodAll_cons_mk (Below.trod laidOut (by kernel_rfl) (of_decide_eq_true (by kernel_rfl)) k0 bel lt0) (trodAll_cons_mk (Below.trod laidOut (by kernel_rfl) (of_decide_eq_true (by kernel_rfl)) k1 bel lt1) (trodAll_cons_mk (shut_string Tryz.underlying9 y2) trodAll_mk0))), rfl, bel.frame _, fun h => by cases h⟩
noncomputable def laidWorld (os : Os) : World := put 4 Rows.laid_unicode_utf8_first (putv 1 #[.iface 158 (.pointer (some ⟨(World.settled Tryz.prog os).heap.size + 1, 0, none⟩))] (putv 2 #[.iface 158 (.pointer (some ⟨(World.settled Tryz.prog os).heap.size + 0, 0, none⟩))] (put 5 (Rows.laid_unicode_utf8_acceptRanges (H := Unit)) (put 0 (Rows.laid_internal_strconv_uint64pow10 (H := Unit)) (put 7 (Rows.laid_math_bits_deBruijn64tab (H := Unit)) (put 6 (Rows.laid_math_bits_deBruijn32tab (H := Unit)) (World.holding Tryz.prog os ⟨#[.cells #[.string ⟨#[118, 97, 108, 117, 101, 32, 111, 117, 116, 32, 111, 102, 32, 114, 97, 110, 103, 101]⟩] 160, .cells #[.string ⟨#[105, 110, 118, 97, 108, 105, 100, 32, 115, 121, 110, 116, 97, 120]⟩] 160], #[], []⟩)))))))
theorem laid_met (os : Os) : laidMet Tryz.prog Rows.jsonFieldsUptoRow.laid ((laidWorld os).forCall (fun _ _ => 0) ⟨#[], #[.agg #[.int .i64 0, .int .i64 0, .string ⟨#[]⟩, .slice none 0 0, .slice none 0 0], .agg #[.int .i64 0, .int .i64 0, .string ⟨#[]⟩, .slice none 0 0, .slice none 0 0], .string ⟨#[]⟩], []⟩).memory :=
 laidMet_of_run' 8 (by kernel_rfl) (by kernel_rfl)
theorem reads (os : Os) {H : Type} (enc : TypeId × Value → H) : ∃ places, DataW.whole enc Tryz.prog ((laidWorld os).forCall (fun _ _ => 0) ⟨#[], #[.agg #[.int .i64 0, .int .i64 0, .string ⟨#[]⟩, .slice none 0 0, .slice none 0 0], .agg #[.int .i64 0, .int .i64 0, .string ⟨#[]⟩, .slice none 0 0, .slice none 0 0], .string ⟨#[]⟩], []⟩).memory Tryz.f8.params.toList Rows.jsonFieldsSpec.vars false (#[.agg #[.int .i64 0, .int .i64 0, .string ⟨#[]⟩, .slice none 0 0, .slice none 0 0], .agg #[.int .i64 0, .int .i64 0, .string ⟨#[]⟩, .slice none 0 0, .slice none 0 0], .string ⟨#[]⟩] : Array Value).toList 8 = some ([.agg [.lit (.int .i64 0), .lit (.int .i64 0), .lit (.string []), .nil, .nil], .agg [.lit (.int .i64 0), .lit (.int .i64 0), .lit (.string []), .nil, .nil], .lit (.string [])], [], places) :=
 ⟨[], by kernel_rfl⟩
theorem lifted (os : Os) (started : os.Started) (H : Type) (enc : TypeId × Value → H) (F : Stop.Interp) :
  ReturnsInHanded {} Tryz.checked os 8 .any ((Rows.OpenSpec.upto Rows.jsonFieldsSpec).preRow enc Tryz.prog Tryz.f8 Rows.jsonFieldsUptoRow.domain false Rows.jsonFieldsUptoRow.laid) (((Rows.OpenSpec.upto Rows.jsonFieldsSpec).at F).post enc Tryz.prog Tryz.f8 false true false false) := by
 obtain ⟨places, hx⟩ := reads os enc
 refine returnsInHanded_of_row (C := Tryz.checked) (s := Rows.OpenSpec.upto Rows.jsonFieldsSpec) own started (by kernel_rfl) Tryz.func8
  (witness_row_at (enc := enc) (C := Tryz.checked) false (laidWorld os) #[.agg #[.int .i64 0, .int .i64 0, .string ⟨#[]⟩, .slice none 0 0, .slice none 0 0], .agg #[.int .i64 0, .int .i64 0, .string ⟨#[]⟩, .slice none 0 0, .slice none 0 0], .string ⟨#[]⟩] rfl (by kernel_rfl) (by kernel_rfl) (by kernel_rfl)
   (OpenSpec.preRow_of_cond 8 hx (by kernel_rfl) (fun k hk => by cases hk; kernel_rfl) (by kernel_rfl) (laid_met os))) ?_
 intro W base args ds gs before hval hW _ hcond _ hL hSh _
 exact contract H enc W base args ds gs before hval hW (hcond _ rfl) (GOK.both (show laidMet _ Rows.jsonFieldsUptoRow.laid W from hL) hSh)
theorem said : Rows.JsonFieldsUptoSaid :=
 OpenClaim.holds_of_cond 8 Tryz.f8 rfl rfl rfl rfl rfl rfl rfl ⟨rfl, rfl, rfl, rfl, rfl⟩ rfl rfl rfl rfl rfl (by kernel_rfl) Tryz.func8 (by kernel_rfl)
  (of_decide_eq_true (by kernel_rfl)) (by unfold Func.isWrapper; first | (rw [if_pos (by decide +kernel)]; kernel_rfl) | (rw [if_neg (by decide +kernel)]; exact ⟨rfl, rfl⟩))
  (fun os started H enc _ F => by rw [OpenClaim.pre_eq_preRow]; exact lifted os started H enc F)
theorem plain (f : FuncId) (fn : Func) (hf : Tryz.pinned.checked.prog.funcNamed "exequatur/exequaturlaw05.JsonFields" = some f) (hfn : Tryz.pinned.checked.prog.funcs[f]? = some fn) :
  true = Tryz.pinned.checked.prog.looks [] ∧ ∀ (j : Nat) t, fn.params[j]? = some t → Tryz.pinned.checked.prog.wantsStandIn t = false := by
 obtain rfl : f = 8 := Option.some.inj ((show Tryz.prog.funcNamed "exequatur/exequaturlaw05.JsonFields" = some 8 by kernel_rfl).symm.trans hf) |>.symm
 obtain rfl : fn = Tryz.f8 := (Option.some.inj (Tryz.func8.symm.trans hfn)).symm
 refine ⟨by kernel_rfl, fun j t ht => ?_⟩
 rw [Tryz.params8] at ht
 have hm : t = 25 ∨ t = 25 ∨ t = 9 := by simpa using Array.mem_of_getElem? ht
 rcases hm with rfl | rfl | rfl
 ·exact (show Tryz.prog.wantsStandIn 25 = false by kernel_rfl)
 ·exact (show Tryz.prog.wantsStandIn 25 = false by kernel_rfl)
 ·exact (show Tryz.prog.wantsStandIn 9 = false by kernel_rfl)
theorem card : Rows.JsonFieldsUptoCardSaid :=
 Claim7.holds_tied_plain_at .later [] _ _ _ _ said (fun _ h => by cases h) (by kernel_rfl) (fun _ h => by cases h) jsonFieldsUpto_row_tie rfl ⟨rfl, rfl⟩ (by kernel_rfl) rfl plain (by kernel_rfl)
end Go.Proofs.YtifejhbochkifaaGreatDoor.X.jsonFields
namespace Go.Proofs.YtifejhbochkifaaGreatDoor
theorem jsonFields_holds : Rows.JsonFieldsUptoCardSaid := X.jsonFields.card
end Go.Proofs.YtifejhbochkifaaGreatDoor
