/- client.Client: a client of a name, with memory of its own; slices.IndexFunc at clients by its closure. -/
import Derived.Test.YtkcgalpagpgfhaaDoorHIdx
import Derived.Test.YtkcgalpagpgfhaaDoorHSpec
import Derived.Test.YtkcgalpagpgfhaaDoorHSlc
namespace Go.Proofs.YtkcgalpagpgfhaaDoor.X
open Go.RowKit Go.Proofs.YtkcgalpagpgfhaaDoorW.PrintWords Go.Proofs.YtkcgalpagpgfhaaDoorW.PrintLast Go.Proofs.YtkcgalpagpgfhaaDoorW.PrintMore Go.Proofs.YtkcgalpagpgfhaaDoor.Spec
set_option linter.unusedVariables false
set_option linter.unusedSimpArgs false

set_option maxHeartbeats 2000000 in
set_option maxRecDepth 100000 in
theorem client_closure (x : S25) (A : Option Addr) (c : Nat) (key : ByteArray) (b : Nat) (w : World) (hk : w.cell? ⟨b, 0, none⟩ = some (.string key)) :
    Calls Tryd.prog 20 #[.agg #[.string x.f0, .string x.f1, .slice A x.f2.length c], .pointer (some ⟨b, 0, none⟩)] w fun e w' => e = .returned (.bool (x.f0.toList == key.toList)) ∧ Below w.heap.size w w' := by
  have hb : b < w.heap.size := World.block_lt_of_cell? w _ hk
  have hk2 : (w.alloc (.cells #[.string x.f0, .string x.f1, .slice A x.f2.length c] 25)).cell? ⟨b, 0, none⟩ = some (.string key) := by
    rw [(below_alloc (Below.refl _ w) _).cell (p := ⟨b, 0, none⟩) hb]; exact hk
  go_enter Tryd.func20, Tryd.ntmps20
  go_wp2
  go_ret
  exact ⟨rfl, below_alloc (Below.refl _ w) _⟩

set_option maxHeartbeats 2000000 in
set_option maxRecDepth 100000 in
theorem find_client (A0 : Option Addr) (c0 : Nat) (l0 : List S25) (key : ByteArray) (b : Nat) (w : World) (hr0 : Kd.C k25 w A0 l0.length l0) (hc0 : l0.length ≤ c0) (hk : w.cell? ⟨b, 0, none⟩ = some (.string key)) :
    Calls Tryd.prog 19 #[.slice A0 l0.length c0, .func (.func 20) #[] #[.pointer (some ⟨b, 0, none⟩)]] w fun e w' => e = .returned (.int .i64 (idxOf (fun x => x.f0.toList == key.toList) l0)) ∧ Below w.heap.size w w' := by
  have hu := Tryd.underlying25
  have hb : b < w.heap.size := World.block_lt_of_cell? w _ hk
  have HR := Aside0.mk hr0
  have HK := Aside0.mk hk
  have hmax := hr0.2.1
  clear hr0 hk
  go_enter Tryd.func19, Tryd.ntmps19
  go_wp2
  go_loopw [8] (fun i wr => ∃ k : Nat, k ≤ l0.length ∧ i = .int .i64 k ∧ Aside0 (∀ j (hj : j < k) (hjl : j < l0.length), ((l0[j]'hjl).f0.toList == key.toList) = false) ∧ Aside0 (Below w.heap.size w wr)) (fun i _ => l0.length - (intOf i).toNat)
  case atStart => exact ⟨0, Nat.zero_le _, rfl, ⟨fun j hj => absurd hj (Nat.not_lt_zero _)⟩, ⟨Below.refl _ w⟩⟩
  case round =>
    obtain ⟨k, hkl, rfl, HM, HB⟩ := hrel
    by_cases hlt : k < l0.length
    · have hK2 := Aside0.mk ((HB.out.cell (p := ⟨b, 0, none⟩) hb).trans HK.out)
      have p0 : (0 : Int) ≤ (k : Int) := by omega
      have q0 : (k : Int) < (l0.length : Int) := by omega
      obtain ⟨ad, A2, c2, rfl, hx0, hx1, hx2, hl2, hg2⟩ := at_T25 (Kd.C_below HR.out HB.out) (k : Int) p0 q0
      have hrd : rd_T25 l0 (k : Int) = l0[k]'hlt := by simp [rd_T25, List.getD_eq_getElem?_getD, List.getElem?_eq_getElem hlt]
      rw [hrd] at hx0 hx1 hx2
      simp only [Int.toNat_natCast] at hx0 hx1 hx2
      clear hrd hl2 hg2
      have hcl := Aside0.mk (client_closure (l0[k]'hlt) A2 c2 key b wr hK2.out)
      by_cases hp : ((l0[k]'hlt).f0.toList == key.toList) = true
      · have hfin := Aside0.mk (idxOf_hit (fun x : S25 => x.f0.toList == key.toList) k l0 hlt (fun j hj => HM.out j hj (by omega)) hp)
        have HP := Aside0.mk hp
        clear hp
        go_wp2_with fail
        refine hcl.out.mono ?_
        rw [HP.out]
        rintro e w2 ⟨rfl, hb2⟩
        have HB2 := Aside0.mk (below_then HB.out HB.out.size hb2)
        clear hb2
        go_wp2
        go_ret
        exact ⟨by rw [hfin.out]; rfl, HB2.out⟩
      · have hp' := Bool.eq_false_iff.2 hp
        have HP := Aside0.mk hp'
        have hnext := Aside0.mk (show ∀ j (hj : j < k + 1) (hjl : j < l0.length), ((l0[j]'hjl).f0.toList == key.toList) = false from fun j hj hjl => by
          by_cases h : j = k
          · subst h; exact hp'
          · exact HM.out j (by omega) hjl)
        clear hp hp'
        go_wp2_with fail
        refine hcl.out.mono ?_
        rw [HP.out]
        rintro e w2 ⟨rfl, hb2⟩
        have HB2 := Aside0.mk (below_then HB.out HB.out.size hb2)
        clear hb2
        go_wp2
        go_roundw
        case rel => exact ⟨k + 1, by omega, by go_num, hnext, HB2⟩
        case measure => simp [intOf]; omega
    · have hfin := Aside0.mk (idxOf_all (fun x : S25 => x.f0.toList == key.toList) l0 (fun x hx => by
        obtain ⟨j, hj, rfl⟩ := List.getElem_of_mem hx
        exact HM.out j (by omega) hj))
      go_wp2
      go_ret
      exact ⟨by rw [hfin.out]; rfl, HB.out⟩

theorem boxes3 (w : World) (a b c : Obj) : (((w.alloc a).alloc b).alloc c).heap[w.heap.size]? = some a ∧ (((w.alloc a).alloc b).alloc c).heap[w.heap.size + 1]? = some b ∧ (((w.alloc a).alloc b).alloc c).heap[w.heap.size + 1 + 1]? = some c ∧ (((w.alloc a).alloc b).alloc c).heap.size = w.heap.size + 1 + 1 + 1 := by
  have s1 : (w.alloc a).heap.size = w.heap.size + 1 := by simp
  have s2 : ((w.alloc a).alloc b).heap.size = w.heap.size + 1 + 1 := by simp
  have h1 := blk_new (w.alloc a) b
  rw [s1] at h1
  have h2 := blk_new ((w.alloc a).alloc b) c
  rw [s2] at h2
  exact ⟨blk_alloc (blk_alloc (blk_new w a) _) _, blk_alloc h1 _, h2, by simp⟩
def findC (l : List S25) (id : ByteArray) : Int := idxOf (fun x => x.f0.toList == id.toList) l
def client_Client.f (a0_0 a0_1 a0_2 : ByteArray) (l0_3 : List S25) (l0_4 : List S40) (a1 : ByteArray) : Option (ByteArray × ByteArray × List ByteArray × Bool) :=
  if findC l0_3 a1 < 0 then some (⟨#[]⟩, ⟨#[]⟩, [], false) else if (rd_T25 l0_3 (findC l0_3 a1)).f2.length ≤ 1000000000 then some ((rd_T25 l0_3 (findC l0_3 a1)).f0, (rd_T25 l0_3 (findC l0_3 a1)).f1, (rd_T25 l0_3 (findC l0_3 a1)).f2, true) else none
set_option maxHeartbeats 4000000 in
set_option maxRecDepth 100000 in
theorem client_Client.calls (a0_0 a0_1 a0_2 : ByteArray) (A0_3 : Option Addr) (c0_3 : Nat) (l0_3 : List (S25)) (A0_4 : Option Addr) (c0_4 : Nat) (l0_4 : List (S40)) (a1 : ByteArray) (r1 : ByteArray) (r2 : ByteArray) (r3 : List ByteArray) (r4 : Bool) (w : World) (hr0_3 : Kd.C k25 w A0_3 l0_3.length l0_3) (hc0_3 : l0_3.length ≤ c0_3) (hr0_4 : Kd.C k40 w A0_4 l0_4.length l0_4) (hc0_4 : l0_4.length ≤ c0_4) (h : client_Client.f a0_0 a0_1 a0_2 l0_3 l0_4 a1 = some (r1, r2, r3, r4)) :
    Calls Tryd.prog 9 #[.agg #[.string a0_0, .string a0_1, .string a0_2, .slice A0_3 l0_3.length c0_3, .slice A0_4 l0_4.length c0_4], .string a1] w fun e w' => ∃ v2_ : Value, e = .returned (.tuple #[.agg #[.string r1, .string r2, v2_], .bool r4]) ∧ Kd.V Kd.string 9 w' w.heap.size (fun k_ => (w.heap.size ≤ k_)) v2_ r3 ∧ Below w.heap.size w w' := by
  have hu := Tryd.underlying25
  have hu2 := Tryd.underlying31
  have H := Aside0.mk h
  clear h
  have HR := Aside0.mk hr0_3
  have hir := idxOf_range (fun x : S25 => x.f0.toList == a1.toList) l0_3
  clear hr0_3 hr0_4
  go_enter Tryd.func9, Tryd.ntmps9
  go_wp2_with fail
  refine (find_client A0_3 c0_3 l0_3 a1 (w.heap.size + 1) _ (Kd.C_alloc (Kd.C_alloc (Kd.C_alloc HR.out _) _) _) hc0_3 (by
    rw [(below_alloc (Below.refl _ (((w.alloc _).alloc _))) _).cell (p := ⟨w.heap.size + 1, 0, none⟩) (by simp)]
    simp)).mono ?_
  rintro e w4 ⟨rfl, hb4⟩
  have B0 := below_then (below_alloc (below_alloc (below_alloc (Below.refl _ w) (.cells #[.string a0_0, .string a0_1, .string a0_2, .slice A0_3 l0_3.length c0_3, .slice A0_4 l0_4.length c0_4] 31)) (.cells #[.string a1] 9)) (.cells #[.string ⟨#[]⟩, .string ⟨#[]⟩, .slice none 0 0] 25)) (by simp; omega) hb4
  obtain ⟨b0, _, b2, b3⟩ := boxes3 w (.cells #[.string a0_0, .string a0_1, .string a0_2, .slice A0_3 l0_3.length c0_3, .slice A0_4 l0_4.length c0_4] 31) (.cells #[.string a1] 9) (.cells #[.string ⟨#[]⟩, .string ⟨#[]⟩, .slice none 0 0] 25)
  have c0 := blk_below b0 hb4
  have c2 := blk_below b2 hb4
  have hsz := hb4.size
  rw [b3] at hsz
  have BK0 := Aside0.mk c0
  have BK2 := Aside0.mk c2
  have HB4 := Aside0.mk B0
  have e0 : w4.cell? ⟨w.heap.size, 3, none⟩ = some (.slice A0_3 l0_3.length c0_3) := (blk_cell c0 3).trans rfl
  have f0 : w4.cell? ⟨w.heap.size + 1 + 1, 0, none⟩ = some (.string (⟨#[]⟩ : ByteArray)) := (blk_cell c2 0).trans rfl
  have f1 : w4.cell? ⟨w.heap.size + 1 + 1, 1, none⟩ = some (.string (⟨#[]⟩ : ByteArray)) := (blk_cell c2 1).trans rfl
  have f2 : w4.cell? ⟨w.heap.size + 1 + 1, 2, none⟩ = some (.slice none 0 0) := (blk_cell c2 2).trans rfl
  have g0 := blk_frozen c2 0
  have g1 := blk_frozen c2 1
  have g2 := blk_frozen c2 2
  clear hb4 B0 c0 c2 b0 b2 b3
  have HI := Aside0.mk (show findC l0_3 a1 = idxOf (fun x : S25 => x.f0.toList == a1.toList) l0_3 from rfl)
  generalize idxOf (fun x : S25 => x.f0.toList == a1.toList) l0_3 = i at HI hir ⊢
  by_cases hneg : i < 0
  · have hn := decide_eq_true hneg
    go_wp2
    refine bodyPost_ret (results_ct rfl _ _ (w.heap.size + 1 + 1) 25 #[.string ⟨#[]⟩, .string ⟨#[]⟩, .slice none 0 0] (0, 0) _ rfl (by refine fillR (cs := ?cs_) rfl rfl ?h_ ?l_; (case h_ => exact BK2.out); (case l_ => rfl)) Tryd.underlying25 rfl (by kernel_rfl)) rfl ?_
    have H2 := H.out
    unfold client_Client.f at H2
    rw [if_pos (by rw [HI.out]; exact hneg)] at H2
    simp only [Option.some.injEq, Prod.mk.injEq] at H2
    obtain ⟨rfl, rfl, rfl, rfl⟩ := H2
    exact ⟨_, rfl, Kd.V_nil _ _ _ _ _, below_set (below_set (below_set HB4.out (by omega)) (by omega)) (by omega)⟩
  · have hn : decide (i < 0) = false := decide_eq_false hneg
    have p0 : 0 ≤ i := by omega
    have q0 : i < (l0_3.length : Int) := hir.2
    obtain ⟨ad, A2, c2, rfl, hx0, hx1, hx2, hl2, hg2⟩ := at_T25 (Kd.C_below HR.out HB4.out) i p0 q0
    have H2 := H.out
    unfold client_Client.f at H2
    rw [if_neg (by rw [HI.out]; exact hneg)] at H2
    split at H2
    case isFalse => cases H2
    rename_i hlen
    simp only [Option.some.injEq, Prod.mk.injEq] at H2
    rw [HI.out] at hlen H2
    generalize rd_T25 l0_3 i = x at hx0 hx1 hx2 hl2 hg2 hlen H2 ⊢
    obtain ⟨rfl, rfl, rfl, rfl⟩ := H2
    have HG2 := Aside0.mk hg2
    have hcl : slices_Clone_string_string.f x.f2 = some x.f2 := by unfold slices_Clone_string_string.f; rw [if_pos hlen]
    clear hg2
    go_wp2_with fail
    refine (slices_Clone_string_string.calls A2 c2 x.f2 x.f2 _ (Kd.C_alloc HG2.out _) hl2 hcl).mono ?_
    rintro e w6 ⟨v6, rfl, ho6, hb6⟩
    obtain ⟨A3, c3, rfl⟩ := Kd.R_slice ho6
    have HV6 := Aside0.mk (Kd.V_mono (Kd.R_V (base' := w6.heap.size) (Kd.R_bound ho6)) (fun k hk => (by have := hk.2.1; simp at this; omega : w4.heap.size + 1 ≤ k)))
    have BN := Aside0.mk (blk_below (blk_new w4 (.cells #[.string x.f0, .string x.f1, .slice A2 x.f2.length c2] 25)) hb6)
    have BK2' := Aside0.mk (blk_below (blk_alloc BK2.out _) hb6)
    have HB6 := Aside0.mk (below_then (below_alloc HB4.out (.cells #[.string x.f0, .string x.f1, .slice A2 x.f2.length c2] 25)) (by simp; omega) hb6)
    clear ho6 hb6
    go_wp2_with fail
    refine (slices_Clip_string_string.calls (fun k => w4.heap.size + 1 ≤ k) A3 c3 x.f2 x.f2 w6 HV6.out rfl).mono ?_
    rintro e w7 ⟨v7, rfl, hv7, hb7⟩
    have BN7 := Aside0.mk (blk_below BN.out hb7)
    have BK7 := Aside0.mk (blk_below BK2'.out hb7)
    have hs7 := HB6.out.size
    have hs6 := blk_lt BN.out
    have HB7 := Aside0.mk (below_then HB6.out (by omega) hb7)
    have HV7 := Aside0.mk (Kd.V_mono hv7 (fun k hk => (by rcases hk with h | h <;> omega : w4.heap.size + 1 ≤ k)))
    clear hv7 hb7
    have ne : w4.heap.size ≠ w.heap.size + 1 + 1 := by omega
    have n0 : w7.cell? ⟨w4.heap.size, 0, none⟩ = some (.string x.f0) := (blk_cell BN7.out 0).trans rfl
    have n1 : w7.cell? ⟨w4.heap.size, 1, none⟩ = some (.string x.f1) := (blk_cell BN7.out 1).trans rfl
    have n2 : w7.cell? ⟨w4.heap.size, 2, none⟩ = some (.slice A2 x.f2.length c2) := (blk_cell BN7.out 2).trans rfl
    have m2 := blk_frozen BN7.out 2
    have k0 : w7.cell? ⟨w.heap.size + 1 + 1, 0, none⟩ = some (.string (⟨#[]⟩ : ByteArray)) := (blk_cell BK7.out 0).trans rfl
    have k1 : w7.cell? ⟨w.heap.size + 1 + 1, 1, none⟩ = some (.string (⟨#[]⟩ : ByteArray)) := (blk_cell BK7.out 1).trans rfl
    have k2 : w7.cell? ⟨w.heap.size + 1 + 1, 2, none⟩ = some (.slice none 0 0) := (blk_cell BK7.out 2).trans rfl
    have q0' := blk_frozen BK7.out 0
    have q1' := blk_frozen BK7.out 1
    have q2' := blk_frozen BK7.out 2
    obtain ⟨A7, c7, rfl⟩ := Kd.V_slice HV7.out
    go_wp2
    refine bodyPost_ret (results_ct rfl _ _ (w.heap.size + 1 + 1) 25 #[.string x.f0, .string x.f1, .slice A7 x.f2.length c7] (0, 0) _ rfl (by refine fillR (cs := ?cs_) rfl rfl ?h_ ?l_; (case h_ => exact blk_far BK7.out (Ne.symm ne) _); (case l_ => rfl)) Tryd.underlying25 rfl (by kernel_rfl)) rfl ?_
    have hlow : ∀ k : Nat, w4.heap.size + 1 ≤ k → k ≠ w.heap.size + 1 + 1 := fun k hk => by omega
    have hlow2 : ∀ k : Nat, w4.heap.size + 1 ≤ k → k ≠ w4.heap.size := fun k hk => by omega
    refine ⟨_, rfl, Kd.V_mono (Kd.V_far (Kd.V_far (Kd.V_far (Kd.V_far HV7.out (p := ⟨w4.heap.size, 2, none⟩) hlow2 _) (p := ⟨w.heap.size + 1 + 1, 0, none⟩) hlow _) (p := ⟨w.heap.size + 1 + 1, 1, none⟩) hlow _) (p := ⟨w.heap.size + 1 + 1, 2, none⟩) hlow _) (fun k hk => by omega), below_set (below_set (below_set (below_set HB7.out (by omega)) (by omega)) (by omega)) (by omega)⟩
end Go.Proofs.YtkcgalpagpgfhaaDoor.X
