/- The statements' own first look: answers; a tape that is none. -/
import Derived.Test.YtnfnalalpligiaaTTape
import Derived.Lib.SlBytesConst
namespace Go.Proofs.Ytnfnalalpligiaa.X
open Go.RowKit Go.Proofs.YtnfnalalpligiaaW.PrintWords Go.Proofs.YtnfnalalpligiaaW.PrintLast Go.Proofs.YtnfnalalpligiaaW.PrintMore
set_option linter.unusedVariables false
set_option linter.unusedSimpArgs false

theorem Ar.reads {w : World} {ao : Option Addr} {n cap g : Nat} {zs : List Int} (h : Ar w (.slice ao n cap) g zs) : ReadsInt w .u8 ao n zs ∧ n = zs.length ∧ n ≤ cap := by
  obtain ⟨ao', off, cap', e, h1, h2, h3, h4⟩ := h.shape
  simp only [Value.slice.injEq] at e
  obtain ⟨rfl, rfl, rfl⟩ := e
  refine ⟨⟨rfl, h2, fun h0 => ⟨_, (h3 h0).1, fun j hj => ?_⟩⟩, rfl, h1⟩
  rw [Addr.add_lit]
  exact h4 j hj
theorem Ar.str {w : World} {ao : Option Addr} {n cap g : Nat} {zs : List Int} (h : Ar w (.slice ao n cap) g zs) (c : Nat) : (convert 22 9 (.slice ao n c)).run Try.prog w = .ok (.string (strOfNums zs)) w :=
  string_of_reads Try.underlying22 Try.underlying5 Try.underlying9 h.reads.1
theorem Ar.ofC {w : World} {A : Option Addr} {c : Nat} {zs : List Int} (h : Kd.C (Kd.int .u8) w A zs.length zs) (hc : zs.length ≤ c) (q : Nat) : ∃ g, Ar w (.slice A zs.length c) g zs ∧ (g = q ∨ g < w.heap.size) := by
  have hmax := h.2.1
  by_cases h0 : 0 < zs.length
  · obtain ⟨ad, rfl, hx⟩ := Kd.at_int h 0 (Int.le_refl 0) (by omega)
    obtain ⟨b, off, spot⟩ := ad
    have hsp := World.cell?_spot hx
    simp only [Addr.add] at hsp
    subst hsp
    have hlt := World.block_lt_of_cell? _ _ hx
    refine ⟨b, ⟨_, off, c, rfl, hc, by omega, fun _ => ⟨rfl, hlt⟩, fun j hj => ?_⟩, .inr hlt⟩
    obtain ⟨ad', e', hy⟩ := Kd.at_int h (j : Int) (by omega) (by omega)
    obtain rfl := Option.some.inj e'
    rw [Addr.add_lit] at hy
    simpa [rd] using hy
  · exact ⟨q, ⟨A, 0, c, rfl, hc, by omega, fun h => absurd h h0, fun j hj => by omega⟩, .inl rfl⟩

theorem Tc.on {S : Nat → Prop} {w0 a b : World} (h : Below w0.heap.size w0 a) (k : Tc S a b) (hS : ∀ i, i < w0.heap.size → ¬ S i) : Below w0.heap.size w0 b :=
  h.trans (k.below h.size hS)
theorem below_on {w0 a b : World} (h : Below w0.heap.size w0 a) (k : Below a.heap.size a b) : Below w0.heap.size w0 b := h.trans (k.mono h.size)

/-- Bytes, the slice written out, and its text -/
theorem bytes2_calls (p : Nat) (g : Option Nat) (zs : List Int) (s f : Int) (d : Bool) (w : World) (h : St 44 w p g zs s f d) (hz : zs.length ≤ 140737488355328) :
    Calls Try.prog 13 #[.pointer (some ⟨p, 0, none⟩)] w fun e w' => ∃ ao cap b, e = .returned (.slice ao zs.length cap) ∧ Ar w' (.slice ao zs.length cap) b zs ∧ (convert 22 9 (.slice ao zs.length cap)).run Try.prog w' = .ok (.string (strOfNums zs)) w' ∧ St 44 w' p g zs s f d ∧ Below w.heap.size w w' := by
  refine (bytes_calls p g zs s f d w h hz).mono ?_
  rintro e w4 ⟨v4, g4, rfl, h1, h2, h3⟩
  obtain ⟨ao4, cap4, rfl, h5, h6, h7⟩ := h1.len
  have h8 := h1.ar
  rw [nums_len] at h8 ⊢
  exact ⟨ao4, cap4, _, rfl, h8, h8.str cap4, h.tc (S := fun _ => False) (Tc.ofBelow h3) (fun h => h) (fun _ _ h => h), h3⟩

set_option maxHeartbeats 2000000 in
set_option maxRecDepth 100000 in
theorem answers_calls (w : World) : Calls Try.prog 7 #[] w fun e w' => e = .returned (.bool true) ∧ Below w.heap.size w w' := by
  have kc := fun (w : World) (C : Array Value) (n c : Nat) => Lib.run_convert_bytes_const (P := Try.prog) w 22 5 C n c Try.underlying22 Try.underlying5
  go_enter Try.func7, Try.ntmps7
  go_wp2_with fail
  refine (new_calls w).mono ?_
  rintro e w1 ⟨p, rfl, hp, hs, hb⟩
  have hA : Ar (w1.alloc (.cells #[.int .u8 97, .int .u8 98] 5 (2, 3))) (.slice (some ⟨w1.heap.size, 0, none⟩) 2 2) w1.heap.size [97, 98] := by
    refine ⟨_, 0, 2, rfl, by decide, by decide, fun _ => ⟨rfl, by simp⟩, fun j hj => ?_⟩
    have := World.cell?_alloc_mark w1 #[.int .u8 97, .int .u8 98] 5 (2, 3) j
    rw [Nat.zero_add, this]
    match j, hj with
    | 0, _ => rfl
    | 1, _ => rfl
  have hs1 := hs.tc (w' := w1.alloc (.cells #[.int .u8 97, .int .u8 98] 5 (2, 3))) (S := fun _ => False) (Tc.alloc (Tc.refl _ _) _) (fun h => h) (fun _ _ h => h)
  have hlt := hs.lt
  have HW := Aside0.mk (write_calls p w1.heap.size none [] [97, 98] 0 (-1) false _ _ hs1 hA (by omega) (by omega) (by simp))
  have HB := Aside0.mk hb
  have HP := Aside0.mk hp
  clear hs hb hp hA hs1 hlt
  go_wp2_with fail
  refine HW.out.mono ?_
  rintro e w2 ⟨rfl, g2, h1, h2, h3⟩
  have HC := Aside0.mk (crash_calls p g2 _ 0 _ _ 1 w2 h1 (by omega) (by simp) (by simp [wr, tk]) (by omega))
  have HT := Aside0.mk h2
  have HG := Aside0.mk h3
  clear h1 h2 h3
  go_wp2_with fail
  refine HC.out.mono ?_
  rintro e w3 ⟨rfl, h1, h2⟩
  have e1 : (wr [] [97, 98] (-1) false).take (0 + min (max 1 0) ((((wr [] [97, 98] (-1) false).length : Nat) : Int) - 0)).toNat = [97] := by decide
  have e2 : (0 + min (max 1 0) ((((wr [] [97, 98] (-1) false).length : Nat) : Int) - 0)) = 1 := by decide
  have e3 : er (-1) false 2 = 0 := by decide
  rw [e1, e2] at h1
  rw [e3]
  have hd : St 44 w3 p g2 [97] 1 (-1) false := h1
  have HBy := Aside0.mk (bytes2_calls p g2 [97] 1 (-1) false w3 hd (by simp))
  have HT2 := Aside0.mk h2
  clear h1 h2 hd e1 e2 e3
  have h97 : (strOfNums [97]).toList = [97] := by decide +kernel
  go_wp2_with fail
  refine HBy.out.mono ?_
  rintro e w4 ⟨ao4, cap4, b4, rfl, h1, hst, hs4, h3⟩
  have HS := Aside0.mk (sure_calls p g2 [97] 1 (-1) false w4 hs4)
  have HB4 := Aside0.mk h3
  have hst' : (convert 22 9 (.slice ao4 1 cap4)).run Try.prog w4 = .ok (.string (strOfNums [97])) w4 := hst
  clear h1 hst hs4 h3
  go_wp2_with fail
  refine HS.out.mono ?_
  rintro e w5 ⟨rfl, rfl⟩
  go_wp2
  go_ret
  refine ⟨rfl, ?_⟩
  have b1 := below_alloc HB.out (.cells #[.int .u8 97, .int .u8 98] 5 (2, 3))
  have b2 := HT.out.on b1 (fun i hi h => by
    rcases h with h | h
    · have := HP.out; omega
    · cases h)
  have b3 := HT2.out.on b2 (fun i hi h => by have := HP.out; omega)
  exact below_on b3 HB4.out

/-! ### a tape that is none -/
set_option maxRecDepth 100000 in
theorem fuse_none (n : Int) (w : World) : Calls Try.prog 11 #[.pointer none, .int .i64 n] w fun e w' => e = .returned (.tuple #[]) ∧ w' = w := by
  have qe := q24n
  go_enter Try.func11, Try.ntmps11
  go_wp2
  go_end0
  exact ⟨rfl, rfl⟩
set_option maxRecDepth 100000 in
theorem crash_none (n : Int) (w : World) : Calls Try.prog 12 #[.pointer none, .int .i64 n] w fun e w' => e = .returned (.tuple #[]) ∧ w' = w := by
  have qe := q24
  go_enter Try.func12, Try.ntmps12
  go_wp2
  (try simp only [Exit.inBlock, Exit.then]); refine bodyPost_ret (results_none rfl _ _ _) rfl ?_
  exact ⟨rfl, rfl⟩
set_option maxRecDepth 100000 in
theorem write_none (v : Value) (w : World) : Calls Try.prog 9 #[.pointer none, v] w fun e w' => e = .returned (.int .i64 1) ∧ w' = w := by
  have qe := q24
  go_enter Try.func9, Try.ntmps9
  go_wp2
  go_ret
  exact ⟨rfl, rfl⟩
set_option maxRecDepth 100000 in
theorem sync_none (w : World) : Calls Try.prog 10 #[.pointer none] w fun e w' => e = .returned (.int .i64 1) ∧ w' = w := by
  have qe := q24
  go_enter Try.func10, Try.ntmps10
  go_wp2
  go_ret
  exact ⟨rfl, rfl⟩
set_option maxRecDepth 100000 in
theorem swap_none (v : Value) (w : World) : Calls Try.prog 18 #[.pointer none, v] w fun e w' => e = .returned (.int .i64 1) ∧ w' = w := by
  have qe := q24
  go_enter Try.func18, Try.ntmps18
  go_wp2
  go_ret
  exact ⟨rfl, rfl⟩
set_option maxRecDepth 100000 in
theorem bytes_none (w : World) : Calls Try.prog 13 #[.pointer none] w fun e w' => e = .returned (.slice none 0 0) ∧ w' = w := by
  have qe := q24
  go_enter Try.func13, Try.ntmps13
  go_wp2
  go_ret
  exact ⟨rfl, rfl⟩
set_option maxRecDepth 100000 in
theorem sure_none (w : World) : Calls Try.prog 14 #[.pointer none] w fun e w' => e = .returned (.int .i64 0) ∧ w' = w := by
  have qe := q24
  go_enter Try.func14, Try.ntmps14
  go_wp2
  go_ret
  exact ⟨rfl, rfl⟩

set_option maxHeartbeats 2000000 in
set_option maxRecDepth 100000 in
theorem none_walk (v : Value) (n : Int) (w : World) : Calls Try.prog 5 #[v, .int .i64 n] w fun e w' => e = .returned (.bool true) ∧ Below w.heap.size w w' := by
  have qe := q24
  go_enter Try.func5, Try.ntmps5
  go_wp2_with fail
  refine (fuse_none n w).mono ?_
  rintro e w1 ⟨rfl, rfl⟩
  go_wp2_with fail
  refine (crash_none n w1).mono ?_
  rintro e w2 ⟨rfl, rfl⟩
  go_wp2_with fail
  refine (answers_calls w2).mono ?_
  rintro e w3 ⟨rfl, hb⟩
  have HB := Aside0.mk hb
  clear hb
  go_wp2_with fail
  refine (write_none v w3).mono ?_
  rintro e w4 ⟨rfl, rfl⟩
  go_wp2_with fail
  refine (sync_none w4).mono ?_
  rintro e w5 ⟨rfl, rfl⟩
  go_wp2_with fail
  refine (swap_none v w5).mono ?_
  rintro e w6 ⟨rfl, rfl⟩
  go_wp2_with fail
  refine (bytes_none w6).mono ?_
  rintro e w7 ⟨rfl, rfl⟩
  go_wp2_with fail
  refine (sure_none w7).mono ?_
  rintro e w8 ⟨rfl, rfl⟩
  go_wp2
  go_ret
  exact ⟨rfl, HB.out⟩
end Go.Proofs.Ytnfnalalpligiaa.X
