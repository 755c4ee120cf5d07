/- client.Conn: a connector of a name; slices.IndexFunc at connectors by its closure. -/
import Derived.Test.YtkcgalpagpgfhaaDoorHClient
namespace Go.Proofs.YtkcgalpagpgfhaaDoor.X
open Go.RowKit Go.Proofs.YtkcgalpagpgfhaaDoorW.PrintWords Go.Proofs.YtkcgalpagpgfhaaDoorW.PrintLast Go.Proofs.YtkcgalpagpgfhaaDoorW.PrintMore Go.Proofs.YtkcgalpagpgfhaaDoor.Spec
set_option linter.unusedVariables false
set_option linter.unusedSimpArgs false

set_option maxHeartbeats 2000000 in
set_option maxRecDepth 100000 in
theorem conn_closure (x : S40) (key : ByteArray) (b : Nat) (w : World) (hk : w.cell? ⟨b, 0, none⟩ = some (.string key)) :
    Calls Tryd.prog 25 #[.agg #[.string x.f0, .string x.f1, .string x.f2, .string x.f3, .string x.f4, .bool x.f5, .string x.f6], .pointer (some ⟨b, 0, none⟩)] w fun e w' => e = .returned (.bool (x.f0.toList == key.toList)) ∧ Below w.heap.size w w' := by
  have hb : b < w.heap.size := World.block_lt_of_cell? w _ hk
  have hk2 : (w.alloc (.cells #[.string x.f0, .string x.f1, .string x.f2, .string x.f3, .string x.f4, .bool x.f5, .string x.f6] 40)).cell? ⟨b, 0, none⟩ = some (.string key) := by
    rw [(below_alloc (Below.refl _ w) _).cell (p := ⟨b, 0, none⟩) hb]; exact hk
  go_enter Tryd.func25, Tryd.ntmps25
  go_wp2
  go_ret
  exact ⟨rfl, below_alloc (Below.refl _ w) _⟩

set_option maxHeartbeats 2000000 in
set_option maxRecDepth 100000 in
theorem find_conn (A0 : Option Addr) (c0 : Nat) (l0 : List S40) (key : ByteArray) (b : Nat) (w : World) (hr0 : Kd.C k40 w A0 l0.length l0) (hc0 : l0.length ≤ c0) (hk : w.cell? ⟨b, 0, none⟩ = some (.string key)) :
    Calls Tryd.prog 24 #[.slice A0 l0.length c0, .func (.func 25) #[] #[.pointer (some ⟨b, 0, none⟩)]] w fun e w' => e = .returned (.int .i64 (idxOf (fun x => x.f0.toList == key.toList) l0)) ∧ Below w.heap.size w w' := by
  have hu := Tryd.underlying40
  have hb : b < w.heap.size := World.block_lt_of_cell? w _ hk
  have HR := Aside0.mk hr0
  have HK := Aside0.mk hk
  have hmax := hr0.2.1
  clear hr0 hk
  go_enter Tryd.func24, Tryd.ntmps24
  go_wp2
  go_loopw [8] (fun i wr => ∃ k : Nat, k ≤ l0.length ∧ i = .int .i64 k ∧ Aside0 (∀ j (hj : j < k) (hjl : j < l0.length), ((l0[j]'hjl).f0.toList == key.toList) = false) ∧ Aside0 (Below w.heap.size w wr)) (fun i _ => l0.length - (intOf i).toNat)
  case atStart => exact ⟨0, Nat.zero_le _, rfl, ⟨fun j hj => absurd hj (Nat.not_lt_zero _)⟩, ⟨Below.refl _ w⟩⟩
  case round =>
    obtain ⟨k, hkl, rfl, HM, HB⟩ := hrel
    by_cases hlt : k < l0.length
    · have hK2 := Aside0.mk ((HB.out.cell (p := ⟨b, 0, none⟩) hb).trans HK.out)
      have p0 : (0 : Int) ≤ (k : Int) := by omega
      have q0 : (k : Int) < (l0.length : Int) := by omega
      obtain ⟨ad, rfl, hx0, hx1, hx2, hx3, hx4, hx5, hx6⟩ := at_T40 (Kd.C_below HR.out HB.out) (k : Int) p0 q0
      have hrd : rd_T40 l0 (k : Int) = l0[k]'hlt := by simp [rd_T40, List.getD_eq_getElem?_getD, List.getElem?_eq_getElem hlt]
      rw [hrd] at hx0 hx1 hx2 hx3 hx4 hx5 hx6
      simp only [Int.toNat_natCast] at hx0 hx1 hx2 hx3 hx4 hx5 hx6
      clear hrd
      have hcl := Aside0.mk (conn_closure (l0[k]'hlt) key b wr hK2.out)
      by_cases hp : ((l0[k]'hlt).f0.toList == key.toList) = true
      · have hfin := Aside0.mk (idxOf_hit (fun x : S40 => x.f0.toList == key.toList) k l0 hlt (fun j hj => HM.out j hj (by omega)) hp)
        have HP := Aside0.mk hp
        clear hp
        go_wp2_with fail
        refine hcl.out.mono ?_
        rw [HP.out]
        rintro e w2 ⟨rfl, hb2⟩
        have HB2 := Aside0.mk (below_then HB.out HB.out.size hb2)
        clear hb2
        go_wp2
        go_ret
        exact ⟨by rw [hfin.out]; rfl, HB2.out⟩
      · have hp' := Bool.eq_false_iff.2 hp
        have HP := Aside0.mk hp'
        have hnext := Aside0.mk (show ∀ j (hj : j < k + 1) (hjl : j < l0.length), ((l0[j]'hjl).f0.toList == key.toList) = false from fun j hj hjl => by
          by_cases h : j = k
          · subst h; exact hp'
          · exact HM.out j (by omega) hjl)
        clear hp hp'
        go_wp2_with fail
        refine hcl.out.mono ?_
        rw [HP.out]
        rintro e w2 ⟨rfl, hb2⟩
        have HB2 := Aside0.mk (below_then HB.out HB.out.size hb2)
        clear hb2
        go_wp2
        go_roundw
        case rel => exact ⟨k + 1, by omega, by go_num, hnext, HB2⟩
        case measure => simp [intOf]; omega
    · have hfin := Aside0.mk (idxOf_all (fun x : S40 => x.f0.toList == key.toList) l0 (fun x hx => by
        obtain ⟨j, hj, rfl⟩ := List.getElem_of_mem hx
        exact HM.out j (by omega) hj))
      go_wp2
      go_ret
      exact ⟨by rw [hfin.out]; rfl, HB.out⟩

def findN (l : List S40) (id : ByteArray) : Int := idxOf (fun x => x.f0.toList == id.toList) l
def client_Conn.f (a0_0 a0_1 a0_2 : ByteArray) (l0_3 : List S25) (l0_4 : List S40) (a1 : ByteArray) : Option (ByteArray × ByteArray × ByteArray × ByteArray × ByteArray × Bool × ByteArray × Bool) :=
  if findN l0_4 a1 < 0 then some (⟨#[]⟩, ⟨#[]⟩, ⟨#[]⟩, ⟨#[]⟩, ⟨#[]⟩, false, ⟨#[]⟩, false) else some ((rd_T40 l0_4 (findN l0_4 a1)).f0, (rd_T40 l0_4 (findN l0_4 a1)).f1, (rd_T40 l0_4 (findN l0_4 a1)).f2, (rd_T40 l0_4 (findN l0_4 a1)).f3, (rd_T40 l0_4 (findN l0_4 a1)).f4, (rd_T40 l0_4 (findN l0_4 a1)).f5, (rd_T40 l0_4 (findN l0_4 a1)).f6, true)
set_option maxHeartbeats 4000000 in
set_option maxRecDepth 100000 in
theorem client_Conn.calls (a0_0 a0_1 a0_2 : ByteArray) (A0_3 : Option Addr) (c0_3 : Nat) (l0_3 : List (S25)) (A0_4 : Option Addr) (c0_4 : Nat) (l0_4 : List (S40)) (a1 : ByteArray) (r1 r2 r3 r4 r5 : ByteArray) (r6 : Bool) (r7 : ByteArray) (r8 : Bool) (w : World) (hr0_3 : Kd.C k25 w A0_3 l0_3.length l0_3) (hc0_3 : l0_3.length ≤ c0_3) (hr0_4 : Kd.C k40 w A0_4 l0_4.length l0_4) (hc0_4 : l0_4.length ≤ c0_4) (h : client_Conn.f a0_0 a0_1 a0_2 l0_3 l0_4 a1 = some (r1, r2, r3, r4, r5, r6, r7, r8)) :
    Calls Tryd.prog 14 #[.agg #[.string a0_0, .string a0_1, .string a0_2, .slice A0_3 l0_3.length c0_3, .slice A0_4 l0_4.length c0_4], .string a1] w fun e w' => e = .returned (.tuple #[.agg #[.string r1, .string r2, .string r3, .string r4, .string r5, .bool r6, .string r7], .bool r8]) ∧ Below w.heap.size w w' := by
  have hu := Tryd.underlying40
  have hu2 := Tryd.underlying31
  have H := Aside0.mk h
  clear h
  have HR := Aside0.mk hr0_4
  have hir := idxOf_range (fun x : S40 => x.f0.toList == a1.toList) l0_4
  clear hr0_3 hr0_4
  go_enter Tryd.func14, Tryd.ntmps14
  go_wp2_with fail
  refine (find_conn A0_4 c0_4 l0_4 a1 (w.heap.size + 1) _ (Kd.C_alloc (Kd.C_alloc (Kd.C_alloc HR.out _) _) _) hc0_4 (by
    rw [(below_alloc (Below.refl _ (((w.alloc _).alloc _))) _).cell (p := ⟨w.heap.size + 1, 0, none⟩) (by simp)]
    simp)).mono ?_
  rintro e w4 ⟨rfl, hb4⟩
  have B0 := below_then (below_alloc (below_alloc (below_alloc (Below.refl _ w) (.cells #[.string a0_0, .string a0_1, .string a0_2, .slice A0_3 l0_3.length c0_3, .slice A0_4 l0_4.length c0_4] 31)) (.cells #[.string a1] 9)) (.cells #[.string ⟨#[]⟩, .string ⟨#[]⟩, .string ⟨#[]⟩, .string ⟨#[]⟩, .string ⟨#[]⟩, .bool false, .string ⟨#[]⟩] 40)) (by simp; omega) hb4
  obtain ⟨b0, _, b2, b3⟩ := boxes3 w (.cells #[.string a0_0, .string a0_1, .string a0_2, .slice A0_3 l0_3.length c0_3, .slice A0_4 l0_4.length c0_4] 31) (.cells #[.string a1] 9) (.cells #[.string ⟨#[]⟩, .string ⟨#[]⟩, .string ⟨#[]⟩, .string ⟨#[]⟩, .string ⟨#[]⟩, .bool false, .string ⟨#[]⟩] 40)
  have c0 := blk_below b0 hb4
  have c2 := blk_below b2 hb4
  have BK2 := Aside0.mk c2
  have HB4 := Aside0.mk B0
  have e0 : w4.cell? ⟨w.heap.size, 4, none⟩ = some (.slice A0_4 l0_4.length c0_4) := (blk_cell c0 4).trans rfl
  have f0 : w4.cell? ⟨w.heap.size + 1 + 1, 0, none⟩ = some (.string ⟨#[]⟩) := (blk_cell c2 0).trans rfl
  have g0 := blk_frozen c2 0
  have f1 : w4.cell? ⟨w.heap.size + 1 + 1, 1, none⟩ = some (.string ⟨#[]⟩) := (blk_cell c2 1).trans rfl
  have g1 := blk_frozen c2 1
  have f2 : w4.cell? ⟨w.heap.size + 1 + 1, 2, none⟩ = some (.string ⟨#[]⟩) := (blk_cell c2 2).trans rfl
  have g2 := blk_frozen c2 2
  have f3 : w4.cell? ⟨w.heap.size + 1 + 1, 3, none⟩ = some (.string ⟨#[]⟩) := (blk_cell c2 3).trans rfl
  have g3 := blk_frozen c2 3
  have f4 : w4.cell? ⟨w.heap.size + 1 + 1, 4, none⟩ = some (.string ⟨#[]⟩) := (blk_cell c2 4).trans rfl
  have g4 := blk_frozen c2 4
  have f5 : w4.cell? ⟨w.heap.size + 1 + 1, 5, none⟩ = some (.bool false) := (blk_cell c2 5).trans rfl
  have g5 := blk_frozen c2 5
  have f6 : w4.cell? ⟨w.heap.size + 1 + 1, 6, none⟩ = some (.string ⟨#[]⟩) := (blk_cell c2 6).trans rfl
  have g6 := blk_frozen c2 6
  clear hb4 B0 c0 c2 b0 b2 b3
  have HI := Aside0.mk (show findN l0_4 a1 = idxOf (fun x : S40 => x.f0.toList == a1.toList) l0_4 from rfl)
  generalize idxOf (fun x : S40 => x.f0.toList == a1.toList) l0_4 = i at HI hir ⊢
  by_cases hneg : i < 0
  · have hn := decide_eq_true hneg
    have H2 := H.out
    unfold client_Conn.f at H2
    rw [if_pos (by rw [HI.out]; exact hneg)] at H2
    simp only [Option.some.injEq, Prod.mk.injEq] at H2
    obtain ⟨rfl, rfl, rfl, rfl, rfl, rfl, rfl, rfl⟩ := H2
    go_wp2
    refine bodyPost_ret (results_ct rfl _ _ (w.heap.size + 1 + 1) 40 #[.string ⟨#[]⟩, .string ⟨#[]⟩, .string ⟨#[]⟩, .string ⟨#[]⟩, .string ⟨#[]⟩, .bool false, .string ⟨#[]⟩] (0, 0) _ rfl (fillR (us := [.string ⟨#[]⟩, .string ⟨#[]⟩, .string ⟨#[]⟩, .string ⟨#[]⟩, .string ⟨#[]⟩, .bool false, .string ⟨#[]⟩]) (cs := [.string ⟨#[]⟩, .string ⟨#[]⟩, .string ⟨#[]⟩, .string ⟨#[]⟩, .string ⟨#[]⟩, .bool false, .string ⟨#[]⟩]) rfl rfl BK2.out rfl) Tryd.underlying40 rfl (by kernel_rfl)) rfl ?_
    exact ⟨rfl, below_set (below_set (below_set (below_set (below_set (below_set (below_set HB4.out (by omega)) (by omega)) (by omega)) (by omega)) (by omega)) (by omega)) (by omega)⟩
  · have hn : decide (i < 0) = false := decide_eq_false hneg
    have p0 : 0 ≤ i := by omega
    have q0 : i < (l0_4.length : Int) := hir.2
    obtain ⟨ad, rfl, hx0, hx1, hx2, hx3, hx4, hx5, hx6⟩ := at_T40 (Kd.C_below HR.out HB4.out) i p0 q0
    have H2 := H.out
    unfold client_Conn.f at H2
    rw [if_neg (by rw [HI.out]; exact hneg)] at H2
    simp only [Option.some.injEq, Prod.mk.injEq] at H2
    rw [HI.out] at H2
    generalize rd_T40 l0_4 i = x at hx0 hx1 hx2 hx3 hx4 hx5 hx6 H2 ⊢
    obtain ⟨rfl, rfl, rfl, rfl, rfl, rfl, rfl, rfl⟩ := H2
    go_wp2
    refine bodyPost_ret (results_ct rfl _ _ (w.heap.size + 1 + 1) 40 #[.string x.f0, .string x.f1, .string x.f2, .string x.f3, .string x.f4, .bool x.f5, .string x.f6] (0, 0) _ rfl (fillR (us := [.string x.f0, .string x.f1, .string x.f2, .string x.f3, .string x.f4, .bool x.f5, .string x.f6]) (cs := [.string ⟨#[]⟩, .string ⟨#[]⟩, .string ⟨#[]⟩, .string ⟨#[]⟩, .string ⟨#[]⟩, .bool false, .string ⟨#[]⟩]) rfl rfl BK2.out rfl) Tryd.underlying40 rfl (by kernel_rfl)) rfl ?_
    exact ⟨rfl, below_set (below_set (below_set (below_set (below_set (below_set (below_set HB4.out (by omega)) (by omega)) (by omega)) (by omega)) (by omega)) (by omega)) (by omega)⟩
end Go.Proofs.YtkcgalpagpgfhaaDoor.X
