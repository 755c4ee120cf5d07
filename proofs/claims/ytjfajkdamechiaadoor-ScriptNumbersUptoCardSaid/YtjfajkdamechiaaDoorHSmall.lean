/- The law's own measure of steps: are they not too large? -/
import Derived.Test.YtjfajkdamechiaaDoorHLine
import Derived.WalkKit
import Derived.Deep.LoopGhost
import Derived.Deep.QuietTactic
import Derived.BigQuiet
import Derived.IntWalk
namespace Go.Proofs.YtjfajkdamechiaaDoor.X
open Go.RowKit Go.Proofs.YtjfajkdamechiaaDoorW.PrintWords Go.Proofs.YtjfajkdamechiaaDoorW.PrintLast Go.Proofs.YtjfajkdamechiaaDoorW.PrintMore Go.Proofs.YtjfajkdamechiaaDoor.Spec
set_option linter.unusedVariables false
set_option linter.unusedSimpArgs false

def cost (s : S36) : Nat := 50 + s.f2.f0.size + s.f2.f1.size + s.f2.f2.size + s.f2.f3.size + s.f2.f4.size + s.f2.f5.size + s.f3.size + s.f4.size + s.f5.size + s.f6.size
def dsum (l : List ByteArray) : Nat := (l.map (·.size)).sum
def smallG : Nat → List S36 → Bool
  | n, [] => decide (n < 20000)
  | n, s :: r => if n < 20000 then (if 50 < s.f7.length then false else smallG (n + cost s + dsum s.f7) r) else false
theorem dsum_append (a b : List ByteArray) : dsum (a ++ b) = dsum a + dsum b := by simp [dsum]
theorem dsum_take (l : List ByteArray) (k : Nat) (hk : k < l.length) : dsum (l.take (k + 1)) = dsum (l.take k) + (l[k]'hk).size := by
  rw [List.take_succ_eq_append_getElem hk, dsum_append]; rfl
theorem dsum_part (l : List ByteArray) (k : Nat) : dsum (l.take k) ≤ dsum l := by
  have := congrArg dsum (List.take_append_drop k l)
  rw [dsum_append] at this
  omega
theorem dsum_szs (l : List ByteArray) : dsum l ≤ szs l := by
  induction l with
  | nil => simp [dsum]
  | cons t r ih => rw [szs_cons]; simp only [dsum, List.map_cons, List.sum_cons] at *; omega
theorem cost_le (s : S36) : cost s + dsum s.f7 ≤ 50 + szs (stW s) := by
  have : szs (stW s) = szs [s.f2.f0, s.f2.f1, s.f2.f2, s.f2.f3, s.f2.f4, s.f2.f5, s.f3, s.f4, s.f5, s.f6] + szs s.f7 := by simp [stW, szs]; omega
  have h := dsum_szs s.f7
  rw [this]
  simp only [cost, szs_cons, show szs ([] : List ByteArray) = 0 from rfl]
  omega
def exequaturlaw24_small.f (l : List S36) : Option Bool := if l.length ≤ 1000000000000 ∧ (∀ s ∈ l, szs (stW s) ≤ 1000000000000) then some (smallG 0 l) else none

set_option maxHeartbeats 8000000 in
set_option maxRecDepth 100000 in
theorem exequaturlaw24_small.calls (A0 : Option Addr) (c0 : Nat) (l0 : List (S36)) (r : Bool) (w : World) (hr0 : Kd.C k36 w A0 l0.length l0) (hc0 : l0.length ≤ c0) (h : exequaturlaw24_small.f l0 = some r) :
    Calls Tryd.prog 8 #[.slice A0 l0.length c0] w fun e w' => e = .returned (.bool r) ∧ Below w.heap.size w w' := by
  have hu := Tryd.underlying36
  have hu2 := Tryd.underlying34
  unfold exequaturlaw24_small.f at h
  split at h
  case isFalse => cases h
  rename_i hs
  obtain rfl := Option.some.inj h
  clear h
  have HS := Aside0.mk hs
  have HR := Aside0.mk hr0
  have hl1 : l0.length ≤ 1000000000000 := hs.1
  clear hs hr0
  go_enter Tryd.func8, Tryd.ntmps8
  go_wp2
  go_loopw [3, 4] (fun nv i wr => ∃ k n : Nat, k ≤ l0.length ∧ n ≤ 3000000000000 ∧ nv = .int .i64 n ∧ i = .int .i64 k ∧ Aside0 (smallG 0 l0 = smallG n (l0.drop k)) ∧ Aside0 (Below w.heap.size w wr)) (fun _ i _ => l0.length - (intOf i).toNat)
  case atStart =>
    exact ⟨0, 0, Nat.zero_le _, Nat.zero_le _, rfl, rfl, ⟨rfl⟩, ⟨Below.refl _ w⟩⟩
  case round =>
    obtain ⟨k, n, hk, hn, rfl, rfl, HG, HB⟩ := hrel
    by_cases hlt : k < l0.length
    · by_cases hn2 : n < 20000
      · have hnd : decide ((n : Int) < 20000) = true := decide_eq_true (by omega)
        obtain ⟨x, hx⟩ : ∃ x, l0[k]'hlt = x := ⟨_, rfl⟩
        have hrd : rd_T36 l0 (k : Int) = x := by simp [rd_T36, List.getD_eq_getElem?_getD, List.getElem?_eq_getElem hlt, hx]
        have hcs := cost_le x
        have hsz := HS.out.2 x (hx ▸ List.getElem_mem hlt)
        have hdr : l0.drop k = x :: l0.drop (k + 1) := by rw [← hx]; exact List.drop_eq_getElem_cons hlt
        have HG2 := Aside0.mk (show smallG 0 l0 = if 50 < x.f7.length then false else smallG (n + cost x + dsum x.f7) (l0.drop (k + 1)) from by rw [HG.out, hdr, smallG, if_pos hn2])
        have HCO := Aside0.mk (show (cost x : Int) = 50 + x.f2.f0.size + x.f2.f1.size + x.f2.f2.size + x.f2.f3.size + x.f2.f4.size + x.f2.f5.size + x.f3.size + x.f4.size + x.f5.size + x.f6.size from by unfold cost; omega)
        have HCS := Aside0.mk (show cost x + dsum x.f7 ≤ 1000000000050 by omega)
        have HDP := Aside0.mk (fun m => dsum_part x.f7 m)
        clear hcs hsz hdr hx
        obtain ⟨ad, A12, c12, rfl, hx0, hx1, hx2, hx3, hx4, hx5, hx6, hx7, hx8, hx9, hx10, hx11, hx12, hl12, hC12⟩ := at_T36 (Kd.C_below HR.out HB.out) (k : Int) (by omega) (by omega)
        rw [hrd] at hx0 hx1 hx2 hx3 hx4 hx5 hx6 hx7 hx8 hx9 hx10 hx11 hx12 hl12 hC12
        simp only [Int.toNat_natCast] at hx0 hx1 hx2 hx3 hx4 hx5 hx6 hx7 hx8 hx9 hx10 hx11 hx12
        clear hl12 hx0 hx1
        go_upto_region 6 with (fail)
        have HB1 := Aside0.mk (below_alloc HB.out (.cells #[.string x.f2.f0, .string x.f2.f1, .string x.f2.f2, .string x.f2.f3, .string x.f2.f4, .string x.f2.f5] 34))
        have hC1 := Kd.C_alloc (Kd.C_below HR.out HB.out) (.cells #[.string x.f2.f0, .string x.f2.f1, .string x.f2.f2, .string x.f2.f3, .string x.f2.f4, .string x.f2.f5] 34)
        clear hx2 hx3 hx4 hx5 hx6 hx7 hx8 hx9 hx10 hx11 hx12 hC12
        have z := blk_new wr (.cells #[.string x.f2.f0, .string x.f2.f1, .string x.f2.f2, .string x.f2.f3, .string x.f2.f4, .string x.f2.f5] 34)
        have y0 : (wr.alloc (.cells #[.string x.f2.f0, .string x.f2.f1, .string x.f2.f2, .string x.f2.f3, .string x.f2.f4, .string x.f2.f5] 34)).cell? ⟨wr.heap.size, 0, none⟩ = some (.string x.f2.f0) := (blk_cell z 0).trans rfl
        have y1 : (wr.alloc (.cells #[.string x.f2.f0, .string x.f2.f1, .string x.f2.f2, .string x.f2.f3, .string x.f2.f4, .string x.f2.f5] 34)).cell? ⟨wr.heap.size, 1, none⟩ = some (.string x.f2.f1) := (blk_cell z 1).trans rfl
        have y2 : (wr.alloc (.cells #[.string x.f2.f0, .string x.f2.f1, .string x.f2.f2, .string x.f2.f3, .string x.f2.f4, .string x.f2.f5] 34)).cell? ⟨wr.heap.size, 2, none⟩ = some (.string x.f2.f2) := (blk_cell z 2).trans rfl
        have y3 : (wr.alloc (.cells #[.string x.f2.f0, .string x.f2.f1, .string x.f2.f2, .string x.f2.f3, .string x.f2.f4, .string x.f2.f5] 34)).cell? ⟨wr.heap.size, 3, none⟩ = some (.string x.f2.f3) := (blk_cell z 3).trans rfl
        have y4 : (wr.alloc (.cells #[.string x.f2.f0, .string x.f2.f1, .string x.f2.f2, .string x.f2.f3, .string x.f2.f4, .string x.f2.f5] 34)).cell? ⟨wr.heap.size, 4, none⟩ = some (.string x.f2.f4) := (blk_cell z 4).trans rfl
        have y5 : (wr.alloc (.cells #[.string x.f2.f0, .string x.f2.f1, .string x.f2.f2, .string x.f2.f3, .string x.f2.f4, .string x.f2.f5] 34)).cell? ⟨wr.heap.size, 5, none⟩ = some (.string x.f2.f5) := (blk_cell z 5).trans rfl
        clear z
        generalize wr.alloc (.cells #[.string x.f2.f0, .string x.f2.f1, .string x.f2.f2, .string x.f2.f3, .string x.f2.f4, .string x.f2.f5] 34) = W1 at HB1 hC1 y0 y1 y2 y3 y4 y5 ⊢
        have HC1 := Aside0.mk hC1
        obtain ⟨ad1, A13, c13, e1, hx0, hx1, hx2, hx3, hx4, hx5, hx6, hx7, hx8, hx9, hx10, hx11, hx12, hl13, hC13⟩ := at_T36 hC1 (k : Int) (by omega) (by omega)
        obtain rfl := Option.some.inj e1
        rw [hrd] at hx0 hx1 hx2 hx3 hx4 hx5 hx6 hx7 hx8 hx9 hx10 hx11 hx12 hl13 hC13
        simp only [Int.toNat_natCast] at hx0 hx1 hx2 hx3 hx4 hx5 hx6 hx7 hx8 hx9 hx10 hx11 hx12
        clear hx0 hx1 hx2 hx3 hx4 hx5 hx6 hx7 hC1
        have HC13 := Aside0.mk hC13
        clear hC13
        have s0 : IntKind.i64.wrap ((n : Int) + 50) = (n : Int) + 50 := IntWalk.i64_in _ (by have := HCO.out; have := HCS.out; omega)
        have s1 : IntKind.i64.wrap ((n : Int) + 50 + (x.f2.f0.size : Int)) = (n : Int) + 50 + (x.f2.f0.size : Int) := IntWalk.i64_in _ (by have := HCO.out; have := HCS.out; omega)
        have s2 : IntKind.i64.wrap ((n : Int) + 50 + (x.f2.f0.size : Int) + (x.f2.f1.size : Int)) = (n : Int) + 50 + (x.f2.f0.size : Int) + (x.f2.f1.size : Int) := IntWalk.i64_in _ (by have := HCO.out; have := HCS.out; omega)
        have s3 : IntKind.i64.wrap ((n : Int) + 50 + (x.f2.f0.size : Int) + (x.f2.f1.size : Int) + (x.f2.f2.size : Int)) = (n : Int) + 50 + (x.f2.f0.size : Int) + (x.f2.f1.size : Int) + (x.f2.f2.size : Int) := IntWalk.i64_in _ (by have := HCO.out; have := HCS.out; omega)
        have s4 : IntKind.i64.wrap ((n : Int) + 50 + (x.f2.f0.size : Int) + (x.f2.f1.size : Int) + (x.f2.f2.size : Int) + (x.f2.f3.size : Int)) = (n : Int) + 50 + (x.f2.f0.size : Int) + (x.f2.f1.size : Int) + (x.f2.f2.size : Int) + (x.f2.f3.size : Int) := IntWalk.i64_in _ (by have := HCO.out; have := HCS.out; omega)
        have s5 : IntKind.i64.wrap ((n : Int) + 50 + (x.f2.f0.size : Int) + (x.f2.f1.size : Int) + (x.f2.f2.size : Int) + (x.f2.f3.size : Int) + (x.f2.f4.size : Int)) = (n : Int) + 50 + (x.f2.f0.size : Int) + (x.f2.f1.size : Int) + (x.f2.f2.size : Int) + (x.f2.f3.size : Int) + (x.f2.f4.size : Int) := IntWalk.i64_in _ (by have := HCO.out; have := HCS.out; omega)
        have s6 : IntKind.i64.wrap ((n : Int) + 50 + (x.f2.f0.size : Int) + (x.f2.f1.size : Int) + (x.f2.f2.size : Int) + (x.f2.f3.size : Int) + (x.f2.f4.size : Int) + (x.f2.f5.size : Int)) = (n : Int) + 50 + (x.f2.f0.size : Int) + (x.f2.f1.size : Int) + (x.f2.f2.size : Int) + (x.f2.f3.size : Int) + (x.f2.f4.size : Int) + (x.f2.f5.size : Int) := IntWalk.i64_in _ (by have := HCO.out; have := HCS.out; omega)
        have s7 : IntKind.i64.wrap ((n : Int) + 50 + (x.f2.f0.size : Int) + (x.f2.f1.size : Int) + (x.f2.f2.size : Int) + (x.f2.f3.size : Int) + (x.f2.f4.size : Int) + (x.f2.f5.size : Int) + (x.f3.size : Int)) = (n : Int) + 50 + (x.f2.f0.size : Int) + (x.f2.f1.size : Int) + (x.f2.f2.size : Int) + (x.f2.f3.size : Int) + (x.f2.f4.size : Int) + (x.f2.f5.size : Int) + (x.f3.size : Int) := IntWalk.i64_in _ (by have := HCO.out; have := HCS.out; omega)
        have s8 : IntKind.i64.wrap ((n : Int) + 50 + (x.f2.f0.size : Int) + (x.f2.f1.size : Int) + (x.f2.f2.size : Int) + (x.f2.f3.size : Int) + (x.f2.f4.size : Int) + (x.f2.f5.size : Int) + (x.f3.size : Int) + (x.f4.size : Int)) = (n : Int) + 50 + (x.f2.f0.size : Int) + (x.f2.f1.size : Int) + (x.f2.f2.size : Int) + (x.f2.f3.size : Int) + (x.f2.f4.size : Int) + (x.f2.f5.size : Int) + (x.f3.size : Int) + (x.f4.size : Int) := IntWalk.i64_in _ (by have := HCO.out; have := HCS.out; omega)
        have s9 : IntKind.i64.wrap ((n : Int) + 50 + (x.f2.f0.size : Int) + (x.f2.f1.size : Int) + (x.f2.f2.size : Int) + (x.f2.f3.size : Int) + (x.f2.f4.size : Int) + (x.f2.f5.size : Int) + (x.f3.size : Int) + (x.f4.size : Int) + (x.f5.size : Int)) = (n : Int) + 50 + (x.f2.f0.size : Int) + (x.f2.f1.size : Int) + (x.f2.f2.size : Int) + (x.f2.f3.size : Int) + (x.f2.f4.size : Int) + (x.f2.f5.size : Int) + (x.f3.size : Int) + (x.f4.size : Int) + (x.f5.size : Int) := IntWalk.i64_in _ (by have := HCO.out; have := HCS.out; omega)
        have s10 : IntKind.i64.wrap ((n : Int) + 50 + (x.f2.f0.size : Int) + (x.f2.f1.size : Int) + (x.f2.f2.size : Int) + (x.f2.f3.size : Int) + (x.f2.f4.size : Int) + (x.f2.f5.size : Int) + (x.f3.size : Int) + (x.f4.size : Int) + (x.f5.size : Int) + (x.f6.size : Int)) = (n : Int) + 50 + (x.f2.f0.size : Int) + (x.f2.f1.size : Int) + (x.f2.f2.size : Int) + (x.f2.f3.size : Int) + (x.f2.f4.size : Int) + (x.f2.f5.size : Int) + (x.f3.size : Int) + (x.f4.size : Int) + (x.f5.size : Int) + (x.f6.size : Int) := IntWalk.i64_in _ (by have := HCO.out; have := HCS.out; omega)
        by_cases h50 : 50 < x.f7.length
        · have h50d : decide ((50 : Int) < x.f7.length) = true := decide_eq_true (by omega)
          have HF := Aside0.mk (show smallG 0 l0 = false from by rw [HG2.out, if_pos h50])
          go_quiet (fail)
          clear s0 s1 s2 s3 s4 s5 s6 s7 s8 s9 s10
          go_wp2
          go_ret
          exact ⟨by rw [HF.out]; rfl, pw_below_drewN HB1.out nq⟩
        · have h50d : decide ((50 : Int) < x.f7.length) = false := decide_eq_false (by omega)
          have h50c : (x.f7.length : Int) ≤ 50 := by omega
          have HG3 := Aside0.mk (show smallG 0 l0 = smallG (n + cost x + dsum x.f7) (l0.drop (k + 1)) from by rw [HG2.out, if_neg h50])
          go_quiet (fail)
          clear s0 s1 s2 s3 s4 s5 s6 s7 s8 s9 s10
          go_wp2
          have HC2 := Aside0.mk (Kd.C_drewN HC1.out nq)
          have HB2 := Aside0.mk (pw_below_drewN HB1.out nq)
          clear hx8 hx9 hx10 hx11 hx12 HC13 HC1 HB1 y0 y1 y2 y3 y4 y5 HB hl13
          generalize W1.drewN nq = W2 at HC2 HB2 ⊢
          obtain ⟨ad2, A14, c14, e2, _, _, _, _, _, _, _, _, _, _, _, _, hx12, hl14, hC14⟩ := at_T36 HC2.out (k : Int) (by omega) (by omega)
          obtain rfl := Option.some.inj e2
          rw [hrd] at hx12 hl14 hC14
          simp only [Int.toNat_natCast] at hx12
          have HC14 := Aside0.mk hC14
          clear hC14 e1 e2
          go_loop [3, 6] (fun nv j => ∃ m : Nat, m ≤ x.f7.length ∧ j = .int .i64 m ∧ nv = .int .i64 ((n + cost x + dsum (x.f7.take m) : Nat) : Int)) (fun _ j => x.f7.length - (intOf j).toNat)
          case atStart =>
            refine ⟨0, Nat.zero_le _, rfl, congrArg (Value.int .i64) ?_⟩
            have := HCO.out
            simp only [List.take_zero, dsum, List.map_nil, List.sum_nil]
            omega
          case round =>
            obtain ⟨m, hm, rfl, rfl⟩ := hrel
            have hdp := HDP.out m
            have hcs := HCS.out
            by_cases hmlt : m < x.f7.length
            · obtain ⟨ad3, e3, hcell⟩ := Kd.at_string HC14.out (m : Int) (by omega) (by omega)
              subst e3
              rw [show rdOf ByteArray.empty x.f7 (m : Int) = x.f7[m]'hmlt from by simp [rdOf, List.getD_eq_getElem?_getD, List.getElem?_eq_getElem hmlt]] at hcell
              simp only [Int.toNat_natCast] at hcell
              have hdt := HDP.out (m + 1)
              rw [dsum_take _ _ hmlt] at hdt
              have HDT := Aside0.mk (dsum_take _ _ hmlt)
              have hmd : decide ((m : Int) < x.f7.length) = true := decide_eq_true (by omega)
              have sm : IntKind.i64.wrap (((n + cost x + dsum (x.f7.take m) : Nat) : Int) + ((x.f7[m]'hmlt).size : Int)) = ((n + cost x + dsum (x.f7.take m) : Nat) : Int) + ((x.f7[m]'hmlt).size : Int) := IntWalk.i64_in _ (by omega)
              have sk : IntKind.i64.wrap ((m : Int) + 1) = (m : Int) + 1 := IntWalk.i64_in _ (by omega)
              generalize hD : (n + cost x + dsum (x.f7.take m)) = D at sm ⊢
              have HDD := Aside0.mk hD
              clear hD hdp hcs hdt
              have hDb : D ≤ 3000000000000 := by have := HDD.out; have := HDP.out m; have := HCS.out; omega
              have hxb : (x.f7[m]'hmlt).size ≤ 3000000000000 := by have := HDT.out; have := HDP.out (m + 1); have := HCS.out; omega
              go_wp2
              go_round
              case rel =>
                refine ⟨m + 1, by omega, by go_num, congrArg (Value.int .i64) ?_⟩
                rw [HDT.out, ← HDD.out]
                omega
              case measure => simp [intOf]; omega
            · have hmd : decide ((m : Int) < x.f7.length) = false := decide_eq_false (by omega)
              have hme : x.f7.take m = x.f7 := List.take_of_length_le (by omega)
              rw [hme] at hdp ⊢
              generalize hD : (n + cost x + dsum x.f7) = D at HG3 ⊢
              have hDb : D ≤ 3000000000000 := by omega
              have hkl : k ≤ 1000000000000 := by omega
              have sk : IntKind.i64.wrap ((k : Int) + 1) = (k : Int) + 1 := IntWalk.i64_in _ (by omega)
              clear hD hdp hcs hme
              go_wp2
              go_roundw
              case rel => exact ⟨k + 1, D, by omega, hDb, by go_num, by go_num, HG3, HB2⟩
              case measure => simp [intOf]; omega
      · have hnd : decide ((n : Int) < 20000) = false := decide_eq_false (by omega)
        have HF := Aside0.mk (show smallG 0 l0 = false from by
          rw [HG.out, List.drop_eq_getElem_cons hlt, smallG, if_neg hn2])
        have hltd : decide ((k : Int) < l0.length) = true := decide_eq_true (by omega)
        go_wp2
        go_ret
        exact ⟨by rw [HF.out]; rfl, HB.out⟩
    · have hltd : decide ((k : Int) < l0.length) = false := decide_eq_false (by omega)
      have HF := Aside0.mk (show smallG 0 l0 = decide ((n : Int) < 20000) from by
        rw [HG.out, List.drop_of_length_le (by omega), smallG]
        exact decide_eq_decide.2 (by omega))
      go_wp2
      go_ret
      exact ⟨by rw [HF.out]; rfl, HB.out⟩
end Go.Proofs.YtjfajkdamechiaaDoor.X
