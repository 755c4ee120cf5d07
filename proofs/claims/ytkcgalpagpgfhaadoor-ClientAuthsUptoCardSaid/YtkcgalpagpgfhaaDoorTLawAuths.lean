/- ClientAuths: its walk. -/
import Derived.Test.YtkcgalpagpgfhaaDoorHPure
import Derived.IntWalk
namespace Go.Proofs.YtkcgalpagpgfhaaDoor.X
open Go.RowKit Go.Proofs.YtkcgalpagpgfhaaDoorW.PrintWords Go.Proofs.YtkcgalpagpgfhaaDoorW.PrintLast Go.Proofs.YtkcgalpagpgfhaaDoorW.PrintMore Go.Proofs.YtkcgalpagpgfhaaDoor.Spec
set_option linter.unusedVariables false
set_option linter.unusedSimpArgs false

def exequaturlaw16_ClientAuths.f (a0 a1 : ByteArray) (a2 : Int) : Option Bool := if a0.size ≤ 1048576 ∧ a1.size ≤ 1048576 ∧ 0 ≤ a2 ∧ a2 ≤ 255 then some true else none
def au (a0 a1 : ByteArray) : S25 := ⟨a0, a1, []⟩
theorem find_same (a0 a1 : ByteArray) : refClient [au a0 a1] a0 = (a0, a1, [], true) := by
  have h : findC [au a0 a1] a0 = 0 := by unfold findC; rw [idxOf, if_pos (by simp [au])]
  unfold refClient
  rw [h]; rfl
theorem find_other (a0 a1 b : ByteArray) (h : a0 ≠ b) : (refClient [au a0 a1] b).2.2.2 = false := by
  have hne : (a0.toList == b.toList) = false := by
    rw [beq_eq_false_iff_ne]; intro e; exact h (bl_inj (by rw [← toList_bl, ← toList_bl, e]))
  have hf : findC [au a0 a1] b = -1 := by unfold findC; rw [idxOf, if_neg (by simp only [au]; rw [hne]; decide)]; rfl
  unfold refClient
  rw [hf]; rfl
theorem au_ev (a0 a1 id sec : ByteArray) (h1 : a1.size ≤ 1000000000) (h2 : sec.size ≤ 1000000000) : Ev (fun k => client_Auth.f k ⟨#[]⟩ ⟨#[]⟩ ⟨#[]⟩ [au a0 a1] [] id sec) (authR [au a0 a1] id sec) := by
  refine auth_f _ _ _ _ _ id sec (fun y hy => by rw [List.mem_singleton.1 hy]; exact Nat.zero_le _) (by omega) ?_
  by_cases h : a0 = id
  · subst h; rw [find_same]; simp only; omega
  · unfold refClient
    have hne : (a0.toList == id.toList) = false := by rw [beq_eq_false_iff_ne]; intro e; exact h (bl_inj (by rw [← toList_bl, ← toList_bl, e]))
    have hf : findC [au a0 a1] id = -1 := by unfold findC; rw [idxOf, if_neg (by simp only [au]; rw [hne]; decide)]; rfl
    rw [hf]; exact Nat.zero_le _
theorem au_same (a0 a1 sec : ByteArray) : authR [au a0 a1] a0 sec = (!decide (a1.toList = []) && decide (bl a1 = bl sec)) := by
  unfold authR
  rw [find_same]; rfl
theorem au_wrong (a0 a1 sec : ByteArray) (h : a1.size ≠ sec.size) : authR [au a0 a1] a0 sec = false := by
  have h2 : decide (bl a1 = bl sec) = false := decide_eq_false (fun e => h (by rw [← bl_length, ← bl_length, e]))
  rw [au_same, h2, Bool.and_false]
theorem au_nobody (a0 a1 b sec : ByteArray) (h : a0 ≠ b) : authR [au a0 a1] b sec = false := by
  unfold authR
  rw [find_other a0 a1 b h]; rfl
set_option maxHeartbeats 16000000 in
set_option maxRecDepth 100000 in
theorem exequaturlaw16_ClientAuths.calls (a0 a1 : ByteArray) (a2 : Int) (r : Bool) (w : World) (h : exequaturlaw16_ClientAuths.f a0 a1 a2 = some r) (hG : GOK w := by first | assumption | exact hG | exact GOK.drewN _ hG | exact GOK.below hG (by repeat (first | (with_reducible first | exact HB.out | apply below_alloc | apply pw_below_drewN | apply below_drew1 | refine below_set ?_ (Aside0.out (by assumption))) | exact HB.out))) :
    Calls Tryd.prog 3 #[.string a0, .string a1, .int .u8 a2] w fun e w' => e = .returned (.bool r) ∧ Below w.heap.size w w' := by
  have hu := Tryd.underlying31
  have hu2 := Tryd.underlying25
  have hu3 := Tryd.underlying28
  unfold exequaturlaw16_ClientAuths.f at h
  split at h
  case isFalse => cases h
  rename_i hs
  obtain rfl := Option.some.inj h
  obtain ⟨z0, z1, z2, z3⟩ := hs
  have HG := Aside0.mk hG
  have hw0 : wrap64 ((a0.size : Int) + (a1.size : Int)) = (a0.size : Int) + (a1.size : Int) := w64 (by omega) (by omega)
  have hw1 : IntKind.i64.wrap ((a0.size : Int) + (a1.size : Int)) = (a0.size : Int) + (a1.size : Int) := by rw [i64_w]; exact hw0
  clear h hG
  by_cases h5 : 500 < a0.size + a1.size
  · have hd5 : decide ((500 : Int) < (a0.size : Int) + (a1.size : Int)) = true := decide_eq_true (by omega)
    clear h5 z2 z3
    go_enter Tryd.func3, Tryd.ntmps3
    go_wp2_with fail
    refine (exequaturlaw16_answers.calls true w rfl (hG := HG.out)).mono ?_
    rintro e w1 ⟨rfl, hb⟩
    have HB := Aside0.mk hb
    clear hb
    go_wp2
    go_ret
    exact ⟨rfl, HB.out⟩
  · have hd5 : decide ((500 : Int) < (a0.size : Int) + (a1.size : Int)) = false := decide_eq_false (by omega)
    have hx1 : (9223372036854775807 < a1.size + 1) = False := eq_false (by omega)
    have hx0 : (9223372036854775807 < a0.size + 1) = False := eq_false (by omega)
    have HZ := Aside0.mk (And.intro z0 z1)
    obtain ⟨k1, hk1⟩ := (au_ev a0 a1 a0 a1 (by omega) (by omega)).get
    obtain ⟨k3, hk3⟩ := (au_ev a0 a1 a0 (a1 ++ ⟨#[120]⟩) (by omega) (by rw [ByteArray.size_append]; show a1.size + 1 ≤ _; omega)).get
    obtain ⟨k4, hk4⟩ := (au_ev a0 a1 (a0 ++ ⟨#[120]⟩) a1 (by omega) (by omega)).get
    rw [au_wrong a0 a1 _ (by rw [ByteArray.size_append]; show a1.size ≠ a1.size + 1; omega)] at hk3
    rw [au_nobody a0 a1 _ a1 (fun e => by have := congrArg ByteArray.size e; rw [ByteArray.size_append] at this; have : a0.size = a0.size + 1 := this; omega)] at hk4
    rw [au_same] at hk1
    obtain ⟨kk, hkk0, hkk1, hkk2, hkk3⟩ : ∃ kk : Int, 0 ≤ kk ∧ kk ≤ a1.size ∧ (0 < a1.size → kk = Int.tmod (wrap64 a2) a1.size ∧ kk < a1.size) ∧ (a1.size = 0 → kk = 0) := by
      by_cases hp : 0 < a1.size
      · have hm : Int.tmod (wrap64 a2) a1.size = a2 % a1.size := by rw [w64 (by omega) (by omega), Int.tmod_eq_emod_of_nonneg z2]
        have h1 := Int.emod_nonneg a2 (show (a1.size : Int) ≠ 0 by omega)
        have h2 := Int.emod_lt_of_pos a2 (show (0 : Int) < a1.size by omega)
        exact ⟨a2 % a1.size, h1, by omega, fun _ => ⟨hm.symm, h2⟩, fun h => by omega⟩
      · exact ⟨0, Int.le_refl 0, by omega, fun h => absurd h hp, fun _ => rfl⟩
    obtain ⟨k2, hk2⟩ := (au_ev a0 a1 a0 (a1.extract 0 kk.toNat) (by omega) (by rw [ByteArray.size_extract]; omega)).get
    have hr2 : authR [au a0 a1] a0 (a1.extract 0 kk.toNat) = false := by
      by_cases hp : 0 < a1.size
      · exact au_wrong a0 a1 _ (by rw [ByteArray.size_extract]; have := (hkk2 hp).2; omega)
      · rw [au_same, decide_eq_true (show a1.toList = [] from by rw [toList_bl]; exact List.length_eq_zero_iff.1 (by rw [bl_length]; omega))]; rfl
    rw [hr2] at hk2
    obtain ⟨x, hx⟩ : ∃ x, au a0 a1 = x := ⟨_, rfl⟩
    rw [hx] at hk1 hk2 hk3 hk4
    have hKx : ∀ W : World, k25.K W x [.string a0, .string a1, .slice none 0 0] := fun W => hx ▸ k25_mk W (au a0 a1) (A2 := none) (c2 := 0) (Nat.le_refl 0) (Kd.C_nil _ _)
    have HK2 := Aside0.mk hk2
    have HK3 := Aside0.mk hk3
    have HK4 := Aside0.mk hk4
    have HKK := Aside0.mk (And.intro hkk2 hkk3)
    have b0 := blk_alloc (blk_new w (.cells #[.string a0, .string a1, .slice none 0 0] 25)) (.cells #[.string ⟨#[]⟩, .string ⟨#[]⟩, .string ⟨#[]⟩, .slice (some ⟨w.heap.size, 0, none⟩) 1 1, .slice none 0 0] 31)
    have b1 : ((w.alloc (.cells #[.string a0, .string a1, .slice none 0 0] 25)).alloc (.cells #[.string ⟨#[]⟩, .string ⟨#[]⟩, .string ⟨#[]⟩, .slice (some ⟨w.heap.size, 0, none⟩) 1 1, .slice none 0 0] 31)).heap[w.heap.size + 1]? = some (.cells #[.string ⟨#[]⟩, .string ⟨#[]⟩, .string ⟨#[]⟩, .slice (some ⟨w.heap.size, 0, none⟩) 1 1, .slice none 0 0] 31) := by
      have := blk_new (w.alloc (.cells #[.string a0, .string a1, .slice none 0 0] 25)) (.cells #[.string ⟨#[]⟩, .string ⟨#[]⟩, .string ⟨#[]⟩, .slice (some ⟨w.heap.size, 0, none⟩) 1 1, .slice none 0 0] 31)
      rwa [show (w.alloc (.cells #[.string a0, .string a1, .slice none 0 0] 25)).heap.size = w.heap.size + 1 from by simp] at this
    have HC_ := Aside0.mk (row1 k25 (x := x) (c := [.string a0, .string a1, .slice none 0 0]) b0 (hKx _))
    have HB_ := Aside0.mk (below_alloc (below_alloc (Below.refl _ w) (.cells #[.string a0, .string a1, .slice none 0 0] 25)) (.cells #[.string ⟨#[]⟩, .string ⟨#[]⟩, .string ⟨#[]⟩, .slice (some ⟨w.heap.size, 0, none⟩) 1 1, .slice none 0 0] 31))
    have BK_ := Aside0.mk b1
    clear b0 b1 hKx hk2 hk3 hk4 hkk2 hkk3 hr2 hx h5 hw0
    by_cases hp : 0 < a1.size
    · obtain ⟨hkm, hkl⟩ := HKK.out.1 hp
      have hkk9 : Int.tmod (wrap64 a2) (a1.size : Int) = kk := hkm.symm
      have hkk8 : a2 % (a1.size : Int) = kk := by rw [← hkk9, w64 (by omega) (by omega), Int.tmod_eq_emod_of_nonneg z2]
      have hnz : ¬ ((a1.size : Int) = 0) := by omega
      have hnz2 : ((a1.size : Int) == 0) = false := beq_eq_false_iff_ne.2 hnz
      have hdp : decide ((0 : Int) < (a1.size : Int)) = true := decide_eq_true (by omega)
      have hne : ¬ a1.toList = [] := fun e => by have := congrArg List.length e; rw [toList_bl, bl_length, List.length_nil] at this; omega
      have hne2 : (a1.toList == ([] : List UInt8)) = false := beq_eq_false_iff_ne.2 hne
      have hne3 : (a1.toList != ([] : List UInt8)) = true := bne_iff_ne.2 hne
      have hne4 : a1.toList.isEmpty = false := by simpa using hne
      obtain ⟨r1, hr1⟩ : ∃ b, b = true := ⟨_, rfl⟩
      have HK1 := Aside0.mk (show client_Auth.f k1 ⟨#[]⟩ ⟨#[]⟩ ⟨#[]⟩ [x] [] a0 a1 = some r1 by rw [hk1, hr1, decide_eq_false hne]; simp)
      clear hk1 hp hkm hne hnz
      subst hr1
      go_enter Tryd.func3, Tryd.ntmps3
      go_wp2
      have HG1_ := Aside0.mk (HG.out.below HB_.out)
      obtain ⟨gc, hgc⟩ : ∃ g, w.heap.size = g := ⟨_, rfl⟩
      obtain ⟨g, hg⟩ : ∃ g, w.heap.size + 1 = g := ⟨_, rfl⟩
      have HC := HC_
      have HB := HB_
      have BK := BK_
      have HG1' := HG1_
      clear HC_ HB_ BK_ HG1_
      generalize (w.alloc (.cells #[.string a0, .string a1, .slice none 0 0] 25)).alloc (.cells #[.string ⟨#[]⟩, .string ⟨#[]⟩, .string ⟨#[]⟩, .slice (some ⟨w.heap.size, 0, none⟩) 1 1, .slice none 0 0] 31) = W1 at HC HB BK HG1' ⊢
      rw [hg] at BK ⊢
      rw [hgc] at HC BK ⊢
      have HG1 : Aside0 (GOK W1.drew) := ⟨HG1'.out.below (below_drew1 (Below.refl _ W1))⟩
      clear HG1'
      refine start_ (n := 36) (S := fun w' => w'.cell? ⟨g, 0, none⟩ = some (.string ⟨#[]⟩) ∧ w'.cell? ⟨g, 1, none⟩ = some (.string ⟨#[]⟩) ∧ w'.cell? ⟨g, 2, none⟩ = some (.string ⟨#[]⟩) ∧ w'.cell? ⟨g, 3, none⟩ = some (.slice (some ⟨gc, 0, none⟩) 1 1) ∧ w'.cell? ⟨g, 4, none⟩ = some (.slice none 0 0)) (ds := []) #[false, false, false, false, false, false, false, false, false, false, false, false, false, false, false, false, false, false, false, false, false, false, false, false, false, false, false, false, false, false, false, false, false, false, false, false] (by kernel_rfl) rfl rfl ⟨(show W1.drew.cell? _ = _ from ((blk_cell BK.out 0).trans rfl)), (show W1.drew.cell? _ = _ from ((blk_cell BK.out 1).trans rfl)), (show W1.drew.cell? _ = _ from ((blk_cell BK.out 2).trans rfl)), (show W1.drew.cell? _ = _ from ((blk_cell BK.out 3).trans rfl)), (show W1.drew.cell? _ = _ from ((blk_cell BK.out 4).trans rfl))⟩ (fun hHeld => ?_)
      refine one_ (i := 0) (N := some 29) #[true, false, false, false, false, false, false, false, false, false, false, false, false, false, false, false, false, false, false, false, false, false, false, false, false, false, false, false, false, false, false, false, false, false, false, false] rfl rfl (by kernel_rfl) (by decide) (fun K hK => ?_)
      refine goes_ Tryd.func7 (by kernel_rfl) rfl #[] (by rfl) rfl rfl (by first | (simp only [List.map_toArray, List.map_cons, List.map_nil]; done) | (simp only [List.map_toArray, List.map_cons, List.map_nil]; rfl)) ?_
      with_reducible refine (exequaturlaw16_answers.calls true W1.drew rfl (hG := HG1.out)).mono ?_
      rintro e v0 ⟨rfl, hb_⟩
      refine ⟨_, rfl, ?_⟩
      have HB0 := Aside0.mk (below_step (below_drew1 HB.out) hb_)
      have HC0 := Aside0.mk (Kd.C_below (Kd.C_drew HC.out) hb_)
      have BK0 := Aside0.mk (blk_below (show W1.drew.heap[g]? = _ from BK.out) hb_)
      clear hb_
      refine hK.out _ _ ⟨((blk_cell BK0.out 0).trans rfl), ((blk_cell BK0.out 1).trans rfl), ((blk_cell BK0.out 2).trans rfl), ((blk_cell BK0.out 3).trans rfl), ((blk_cell BK0.out 4).trans rfl)⟩ (fun hHeld => ?_)
      clear hK K
      refine norm_ (a' := ?_) ?_ ?_
      rotate_left
      · show Act.put _ (some 29) _ = _
        simp only [Act.put, List.setIfInBounds_toArray, List.set_cons_zero, List.set_cons_succ, i64_w, i32_w]
        rfl
      refine pure_ (i := 1) (N := some 30) (v := ?_) (a' := ?_) #[true, true, false, false, false, false, false, false, false, false, false, false, false, false, false, false, false, false, false, false, false, false, false, false, false, false, false, false, false, false, false, false, false, false, false, false] rfl rfl (by kernel_rfl) (fun _ _ _ h => h) (Or.inl ⟨by rfl, ?_⟩) ?_ ?_
      rotate_left
      · intro w'
        go_simp
        with_reducible rfl
      rotate_left
      · simp only [Act.put, List.setIfInBounds_toArray, List.set_cons_zero, List.set_cons_succ, i64_w, i32_w]
        rfl
      refine pure_ (i := 3) (N := some 32) (v := ?_) (a' := ?_) #[true, true, false, true, false, false, false, false, false, false, false, false, false, false, false, false, false, false, false, false, false, false, false, false, false, false, false, false, false, false, false, false, false, false, false, false] rfl rfl (by kernel_rfl) (fun _ _ _ h => h) (Or.inl ⟨by rfl, ?_⟩) ?_ ?_
      rotate_left
      · intro w'
        go_simp
        with_reducible rfl
      rotate_left
      · simp only [Act.put, List.setIfInBounds_toArray, List.set_cons_zero, List.set_cons_succ, i64_w, i32_w]
        rfl
      refine pure_ (i := 4) (N := some 33) (v := ?_) (a' := ?_) #[true, true, false, true, true, false, false, false, false, false, false, false, false, false, false, false, false, false, false, false, false, false, false, false, false, false, false, false, false, false, false, false, false, false, false, false] rfl rfl (by kernel_rfl) (fun _ _ _ h => h) (Or.inl ⟨by rfl, ?_⟩) ?_ ?_
      rotate_left
      · intro w'
        go_simp
        with_reducible rfl
      rotate_left
      · simp only [Act.put, List.setIfInBounds_toArray, List.set_cons_zero, List.set_cons_succ, i64_w, i32_w]
        rfl
      refine pure_ (i := 6) (N := some 35) (v := ?_) (a' := ?_) #[true, true, false, true, true, false, true, false, false, false, false, false, false, false, false, false, false, false, false, false, false, false, false, false, false, false, false, false, false, false, false, false, false, false, false, false] rfl rfl (by kernel_rfl) (fun _ _ _ h => h) (Or.inl ⟨by rfl, ?_⟩) ?_ ?_
      rotate_left
      · intro w'
        go_simp
        with_reducible rfl
      rotate_left
      · simp only [Act.put, List.setIfInBounds_toArray, List.set_cons_zero, List.set_cons_succ, i64_w, i32_w]
        rfl
      refine pure_ (i := 7) (N := some 36) (v := ?_) (a' := ?_) #[true, true, false, true, true, false, true, true, false, false, false, false, false, false, false, false, false, false, false, false, false, false, false, false, false, false, false, false, false, false, false, false, false, false, false, false] rfl rfl (by kernel_rfl) (fun _ _ _ h => h) (Or.inl ⟨by rfl, ?_⟩) ?_ ?_
      rotate_left
      · intro w'
        go_simp
        with_reducible rfl
      rotate_left
      · simp only [Act.put, List.setIfInBounds_toArray, List.set_cons_zero, List.set_cons_succ, i64_w, i32_w]
        rfl
      refine take_ (i := 2) (N := some 31) (v := ?_) (a' := ?_) #[true, true, true, true, true, false, true, true, false, false, false, false, false, false, false, false, false, false, false, false, false, false, false, false, false, false, false, false, false, false, false, false, false, false, false, false] rfl rfl (by kernel_rfl) (fun _ _ _ h => h) (Or.inl ⟨by rfl, ?_⟩) hHeld ?_ ?_
      rotate_left
      · rintro w' ⟨s0, s1, s2, s3, s4⟩
        go_simp
        with_reducible rfl
      rotate_left
      · simp only [Act.put, List.setIfInBounds_toArray, List.set_cons_zero, List.set_cons_succ, i64_w, i32_w]
        rfl
      refine one_ (i := 5) (N := some 34) #[true, true, true, true, true, true, true, true, false, false, false, false, false, false, false, false, false, false, false, false, false, false, false, false, false, false, false, false, false, false, false, false, false, false, false, false] rfl rfl (by kernel_rfl) (by decide) (fun K hK => ?_)
      have hau_ : ∀ ia ib, client_Auth.f k1 ⟨#[]⟩ ⟨#[]⟩ ⟨#[]⟩ [x] [] ia ib = some true → Calls Tryd.prog 8 #[.agg #[.string ⟨#[]⟩, .string ⟨#[]⟩, .string ⟨#[]⟩, .slice (some ⟨gc, 0, none⟩) 1 1, .slice none 0 0], .string ia, .string ib] v0 fun e w' => e = .returned (.bool true) ∧ Below v0.heap.size v0 w' := fun ia ib hs => client_Auth.calls k1 ⟨#[]⟩ ⟨#[]⟩ ⟨#[]⟩ (some ⟨gc, 0, none⟩) 1 [x] none 0 [] ia ib _ _ HC0.out (Nat.le_refl 1) (Kd.C_nil _ _) (Nat.le_refl 0) hs
      refine goes_ Tryd.func8 (by kernel_rfl) rfl #[.agg #[.string ⟨#[]⟩, .string ⟨#[]⟩, .string ⟨#[]⟩, .slice (some ⟨gc, 0, none⟩) 1 1, .slice none 0 0], (.string a0), (.string a1)] (by rfl) rfl rfl (by first | (simp only [List.map_toArray, List.map_cons, List.map_nil]; done) | (simp only [List.map_toArray, List.map_cons, List.map_nil]; rfl)) ?_
      with_reducible refine (hau_ _ _ HK1.out).mono ?_
      rintro e v1 ⟨rfl, hb_⟩
      refine ⟨_, rfl, ?_⟩
      clear hau_
      have HB1 := Aside0.mk (below_step HB0.out hb_)
      have HC1 := Aside0.mk (Kd.C_below (HC0.out) hb_)
      have BK1 := Aside0.mk (blk_below (BK0.out) hb_)
      clear hb_
      refine hK.out _ _ ⟨((blk_cell BK1.out 0).trans rfl), ((blk_cell BK1.out 1).trans rfl), ((blk_cell BK1.out 2).trans rfl), ((blk_cell BK1.out 3).trans rfl), ((blk_cell BK1.out 4).trans rfl)⟩ (fun hHeld => ?_)
      clear hK K
      refine norm_ (a' := ?_) ?_ ?_
      rotate_left
      · show Act.put _ (some 34) _ = _
        simp only [Act.put, List.setIfInBounds_toArray, List.set_cons_zero, List.set_cons_succ, i64_w, i32_w]
        rfl
      refine pure_ (i := 8) (N := some 37) (v := ?_) (a' := ?_) #[true, true, true, true, true, true, true, true, true, false, false, false, false, false, false, false, false, false, false, false, false, false, false, false, false, false, false, false, false, false, false, false, false, false, false, false] rfl rfl (by kernel_rfl) (fun _ _ _ h => h) (Or.inl ⟨by rfl, ?_⟩) ?_ ?_
      rotate_left
      · intro w'
        go_simp
        with_reducible rfl
      rotate_left
      · simp only [Act.put, List.setIfInBounds_toArray, List.set_cons_zero, List.set_cons_succ, i64_w, i32_w]
        rfl
      refine pure_ (i := 9) (N := some 38) (v := ?_) (a' := ?_) #[true, true, true, true, true, true, true, true, true, true, false, false, false, false, false, false, false, false, false, false, false, false, false, false, false, false, false, false, false, false, false, false, false, false, false, false] rfl rfl (by kernel_rfl) (fun _ _ _ h => h) (Or.inl ⟨by rfl, ?_⟩) ?_ ?_
      rotate_left
      · intro w'
        go_simp
        with_reducible rfl
      rotate_left
      · simp only [Act.put, List.setIfInBounds_toArray, List.set_cons_zero, List.set_cons_succ, i64_w, i32_w]
        rfl
      refine pure_ (i := 10) (N := some 39) (v := ?_) (a' := ?_) #[true, true, true, true, true, true, true, true, true, true, true, false, false, false, false, false, false, false, false, false, false, false, false, false, false, false, false, false, false, false, false, false, false, false, false, false] rfl rfl (by kernel_rfl) (fun _ _ _ h => h) (Or.inl ⟨by rfl, ?_⟩) ?_ ?_
      rotate_left
      · intro w'
        go_simp
        with_reducible rfl
      rotate_left
      · simp only [Act.put, List.setIfInBounds_toArray, List.set_cons_zero, List.set_cons_succ, i64_w, i32_w]
        rfl
      refine pure_ (i := 12) (N := some 41) (v := ?_) (a' := ?_) #[true, true, true, true, true, true, true, true, true, true, true, false, true, false, false, false, false, false, false, false, false, false, false, false, false, false, false, false, false, false, false, false, false, false, false, false] rfl rfl (by kernel_rfl) (fun _ _ _ h => h) (Or.inl ⟨by rfl, ?_⟩) ?_ ?_
      rotate_left
      · intro w'
        go_simp
        with_reducible rfl
      rotate_left
      · simp only [Act.put, List.setIfInBounds_toArray, List.set_cons_zero, List.set_cons_succ, i64_w, i32_w]
        rfl
      refine pure_ (i := 13) (N := some 42) (v := ?_) (a' := ?_) #[true, true, true, true, true, true, true, true, true, true, true, false, true, true, false, false, false, false, false, false, false, false, false, false, false, false, false, false, false, false, false, false, false, false, false, false] rfl rfl (by kernel_rfl) (fun _ _ _ h => h) (Or.inl ⟨by rfl, ?_⟩) ?_ ?_
      rotate_left
      · intro w'
        go_simp
        with_reducible rfl
      rotate_left
      · simp only [Act.put, List.setIfInBounds_toArray, List.set_cons_zero, List.set_cons_succ, i64_w, i32_w]
        rfl
      refine pure_ (i := 14) (N := some 43) (v := ?_) (a' := ?_) #[true, true, true, true, true, true, true, true, true, true, true, false, true, true, true, false, false, false, false, false, false, false, false, false, false, false, false, false, false, false, false, false, false, false, false, false] rfl rfl (by kernel_rfl) (fun _ _ _ h => h) (Or.inl ⟨by rfl, ?_⟩) ?_ ?_
      rotate_left
      · intro w'
        go_simp
        with_reducible rfl
      rotate_left
      · simp only [Act.put, List.setIfInBounds_toArray, List.set_cons_zero, List.set_cons_succ, i64_w, i32_w]
        rfl
      refine pure_ (i := 15) (N := some 44) (v := ?_) (a' := ?_) #[true, true, true, true, true, true, true, true, true, true, true, false, true, true, true, true, false, false, false, false, false, false, false, false, false, false, false, false, false, false, false, false, false, false, false, false] rfl rfl (by kernel_rfl) (fun _ _ _ h => h) (Or.inl ⟨by rfl, ?_⟩) ?_ ?_
      rotate_left
      · intro w'
        go_simp
        with_reducible rfl
      rotate_left
      · simp only [Act.put, List.setIfInBounds_toArray, List.set_cons_zero, List.set_cons_succ, i64_w, i32_w]
        rfl
      refine take_ (i := 11) (N := some 40) (v := ?_) (a' := ?_) #[true, true, true, true, true, true, true, true, true, true, true, true, true, true, true, true, false, false, false, false, false, false, false, false, false, false, false, false, false, false, false, false, false, false, false, false] rfl rfl (by kernel_rfl) (fun _ _ _ h => h) (Or.inl ⟨by rfl, ?_⟩) hHeld ?_ ?_
      rotate_left
      · rintro w' ⟨s0, s1, s2, s3, s4⟩
        go_simp
        with_reducible rfl
      rotate_left
      · simp only [Act.put, List.setIfInBounds_toArray, List.set_cons_zero, List.set_cons_succ, i64_w, i32_w]
        rfl
      refine one_ (i := 16) (N := some 45) #[true, true, true, true, true, true, true, true, true, true, true, true, true, true, true, true, true, false, false, false, false, false, false, false, false, false, false, false, false, false, false, false, false, false, false, false] rfl rfl (by kernel_rfl) (by decide) (fun K hK => ?_)
      have hau_ : ∀ ia ib, client_Auth.f k2 ⟨#[]⟩ ⟨#[]⟩ ⟨#[]⟩ [x] [] ia ib = some false → Calls Tryd.prog 8 #[.agg #[.string ⟨#[]⟩, .string ⟨#[]⟩, .string ⟨#[]⟩, .slice (some ⟨gc, 0, none⟩) 1 1, .slice none 0 0], .string ia, .string ib] v1 fun e w' => e = .returned (.bool false) ∧ Below v1.heap.size v1 w' := fun ia ib hs => client_Auth.calls k2 ⟨#[]⟩ ⟨#[]⟩ ⟨#[]⟩ (some ⟨gc, 0, none⟩) 1 [x] none 0 [] ia ib _ _ HC1.out (Nat.le_refl 1) (Kd.C_nil _ _) (Nat.le_refl 0) hs
      refine goes_ Tryd.func8 (by kernel_rfl) rfl #[.agg #[.string ⟨#[]⟩, .string ⟨#[]⟩, .string ⟨#[]⟩, .slice (some ⟨gc, 0, none⟩) 1 1, .slice none 0 0], (.string a0), (.string (a1.extract 0 kk.toNat))] (by rfl) rfl rfl (by first | (simp only [List.map_toArray, List.map_cons, List.map_nil]; done) | (simp only [List.map_toArray, List.map_cons, List.map_nil]; rfl)) ?_
      with_reducible refine (hau_ _ _ HK2.out).mono ?_
      rintro e v2 ⟨rfl, hb_⟩
      refine ⟨_, rfl, ?_⟩
      clear hau_
      have HB2 := Aside0.mk (below_step HB1.out hb_)
      have HC2 := Aside0.mk (Kd.C_below (HC1.out) hb_)
      have BK2 := Aside0.mk (blk_below (BK1.out) hb_)
      clear hb_
      refine hK.out _ _ ⟨((blk_cell BK2.out 0).trans rfl), ((blk_cell BK2.out 1).trans rfl), ((blk_cell BK2.out 2).trans rfl), ((blk_cell BK2.out 3).trans rfl), ((blk_cell BK2.out 4).trans rfl)⟩ (fun hHeld => ?_)
      clear hK K
      refine norm_ (a' := ?_) ?_ ?_
      rotate_left
      · show Act.put _ (some 45) _ = _
        simp only [Act.put, List.setIfInBounds_toArray, List.set_cons_zero, List.set_cons_succ, i64_w, i32_w]
        rfl
      refine pure_ (i := 17) (N := some 46) (v := ?_) (a' := ?_) #[true, true, true, true, true, true, true, true, true, true, true, true, true, true, true, true, true, true, false, false, false, false, false, false, false, false, false, false, false, false, false, false, false, false, false, false] rfl rfl (by kernel_rfl) (fun _ _ _ h => h) (Or.inl ⟨by rfl, ?_⟩) ?_ ?_
      rotate_left
      · intro w'
        go_simp
        with_reducible rfl
      rotate_left
      · simp only [Act.put, List.setIfInBounds_toArray, List.set_cons_zero, List.set_cons_succ, i64_w, i32_w]
        rfl
      refine pure_ (i := 18) (N := some 47) (v := ?_) (a' := ?_) #[true, true, true, true, true, true, true, true, true, true, true, true, true, true, true, true, true, true, true, false, false, false, false, false, false, false, false, false, false, false, false, false, false, false, false, false] rfl rfl (by kernel_rfl) (fun _ _ _ h => h) (Or.inl ⟨by rfl, ?_⟩) ?_ ?_
      rotate_left
      · intro w'
        go_simp
        with_reducible rfl
      rotate_left
      · simp only [Act.put, List.setIfInBounds_toArray, List.set_cons_zero, List.set_cons_succ, i64_w, i32_w]
        rfl
      refine pure_ (i := 19) (N := some 48) (v := ?_) (a' := ?_) #[true, true, true, true, true, true, true, true, true, true, true, true, true, true, true, true, true, true, true, true, false, false, false, false, false, false, false, false, false, false, false, false, false, false, false, false] rfl rfl (by kernel_rfl) (fun _ _ _ h => h) (Or.inl ⟨by rfl, ?_⟩) ?_ ?_
      rotate_left
      · intro w'
        go_simp
        with_reducible rfl
      rotate_left
      · simp only [Act.put, List.setIfInBounds_toArray, List.set_cons_zero, List.set_cons_succ, i64_w, i32_w]
        rfl
      refine pure_ (i := 21) (N := some 50) (v := ?_) (a' := ?_) #[true, true, true, true, true, true, true, true, true, true, true, true, true, true, true, true, true, true, true, true, false, true, false, false, false, false, false, false, false, false, false, false, false, false, false, false] rfl rfl (by kernel_rfl) (fun _ _ _ h => h) (Or.inl ⟨by rfl, ?_⟩) ?_ ?_
      rotate_left
      · intro w'
        go_simp
        with_reducible rfl
      rotate_left
      · simp only [Act.put, List.setIfInBounds_toArray, List.set_cons_zero, List.set_cons_succ, i64_w, i32_w]
        rfl
      refine pure_ (i := 22) (N := some 51) (v := ?_) (a' := ?_) #[true, true, true, true, true, true, true, true, true, true, true, true, true, true, true, true, true, true, true, true, false, true, true, false, false, false, false, false, false, false, false, false, false, false, false, false] rfl rfl (by kernel_rfl) (fun _ _ _ h => h) (Or.inl ⟨by rfl, ?_⟩) ?_ ?_
      rotate_left
      · intro w'
        go_simp
        with_reducible rfl
      rotate_left
      · simp only [Act.put, List.setIfInBounds_toArray, List.set_cons_zero, List.set_cons_succ, i64_w, i32_w]
        rfl
      refine pure_ (i := 23) (N := some 52) (v := ?_) (a' := ?_) #[true, true, true, true, true, true, true, true, true, true, true, true, true, true, true, true, true, true, true, true, false, true, true, true, false, false, false, false, false, false, false, false, false, false, false, false] rfl rfl (by kernel_rfl) (fun _ _ _ h => h) (Or.inl ⟨by rfl, ?_⟩) ?_ ?_
      rotate_left
      · intro w'
        go_simp
        with_reducible rfl
      rotate_left
      · simp only [Act.put, List.setIfInBounds_toArray, List.set_cons_zero, List.set_cons_succ, i64_w, i32_w]
        rfl
      refine take_ (i := 20) (N := some 49) (v := ?_) (a' := ?_) #[true, true, true, true, true, true, true, true, true, true, true, true, true, true, true, true, true, true, true, true, true, true, true, true, false, false, false, false, false, false, false, false, false, false, false, false] rfl rfl (by kernel_rfl) (fun _ _ _ h => h) (Or.inl ⟨by rfl, ?_⟩) hHeld ?_ ?_
      rotate_left
      · rintro w' ⟨s0, s1, s2, s3, s4⟩
        go_simp
        with_reducible rfl
      rotate_left
      · simp only [Act.put, List.setIfInBounds_toArray, List.set_cons_zero, List.set_cons_succ, i64_w, i32_w]
        rfl
      refine one_ (i := 24) (N := some 53) #[true, true, true, true, true, true, true, true, true, true, true, true, true, true, true, true, true, true, true, true, true, true, true, true, true, false, false, false, false, false, false, false, false, false, false, false] rfl rfl (by kernel_rfl) (by decide) (fun K hK => ?_)
      have hau_ : ∀ ia ib, client_Auth.f k3 ⟨#[]⟩ ⟨#[]⟩ ⟨#[]⟩ [x] [] ia ib = some false → Calls Tryd.prog 8 #[.agg #[.string ⟨#[]⟩, .string ⟨#[]⟩, .string ⟨#[]⟩, .slice (some ⟨gc, 0, none⟩) 1 1, .slice none 0 0], .string ia, .string ib] v2 fun e w' => e = .returned (.bool false) ∧ Below v2.heap.size v2 w' := fun ia ib hs => client_Auth.calls k3 ⟨#[]⟩ ⟨#[]⟩ ⟨#[]⟩ (some ⟨gc, 0, none⟩) 1 [x] none 0 [] ia ib _ _ HC2.out (Nat.le_refl 1) (Kd.C_nil _ _) (Nat.le_refl 0) hs
      refine goes_ Tryd.func8 (by kernel_rfl) rfl #[.agg #[.string ⟨#[]⟩, .string ⟨#[]⟩, .string ⟨#[]⟩, .slice (some ⟨gc, 0, none⟩) 1 1, .slice none 0 0], (.string a0), (.string (a1 ++ ⟨#[120]⟩))] (by rfl) rfl rfl (by first | (simp only [List.map_toArray, List.map_cons, List.map_nil]; done) | (simp only [List.map_toArray, List.map_cons, List.map_nil]; rfl)) ?_
      with_reducible refine (hau_ _ _ HK3.out).mono ?_
      rintro e v3 ⟨rfl, hb_⟩
      refine ⟨_, rfl, ?_⟩
      clear hau_
      have HB3 := Aside0.mk (below_step HB2.out hb_)
      have HC3 := Aside0.mk (Kd.C_below (HC2.out) hb_)
      have BK3 := Aside0.mk (blk_below (BK2.out) hb_)
      clear hb_
      refine hK.out _ _ ⟨((blk_cell BK3.out 0).trans rfl), ((blk_cell BK3.out 1).trans rfl), ((blk_cell BK3.out 2).trans rfl), ((blk_cell BK3.out 3).trans rfl), ((blk_cell BK3.out 4).trans rfl)⟩ (fun hHeld => ?_)
      clear hK K
      refine norm_ (a' := ?_) ?_ ?_
      rotate_left
      · show Act.put _ (some 53) _ = _
        simp only [Act.put, List.setIfInBounds_toArray, List.set_cons_zero, List.set_cons_succ, i64_w, i32_w]
        rfl
      refine pure_ (i := 25) (N := some 54) (v := ?_) (a' := ?_) #[true, true, true, true, true, true, true, true, true, true, true, true, true, true, true, true, true, true, true, true, true, true, true, true, true, true, false, false, false, false, false, false, false, false, false, false] rfl rfl (by kernel_rfl) (fun _ _ _ h => h) (Or.inl ⟨by rfl, ?_⟩) ?_ ?_
      rotate_left
      · intro w'
        go_simp
        with_reducible rfl
      rotate_left
      · simp only [Act.put, List.setIfInBounds_toArray, List.set_cons_zero, List.set_cons_succ, i64_w, i32_w]
        rfl
      refine pure_ (i := 26) (N := some 55) (v := ?_) (a' := ?_) #[true, true, true, true, true, true, true, true, true, true, true, true, true, true, true, true, true, true, true, true, true, true, true, true, true, true, true, false, false, false, false, false, false, false, false, false] rfl rfl (by kernel_rfl) (fun _ _ _ h => h) (Or.inl ⟨by rfl, ?_⟩) ?_ ?_
      rotate_left
      · intro w'
        go_simp
        with_reducible rfl
      rotate_left
      · simp only [Act.put, List.setIfInBounds_toArray, List.set_cons_zero, List.set_cons_succ, i64_w, i32_w]
        rfl
      refine pure_ (i := 27) (N := some 56) (v := ?_) (a' := ?_) #[true, true, true, true, true, true, true, true, true, true, true, true, true, true, true, true, true, true, true, true, true, true, true, true, true, true, true, true, false, false, false, false, false, false, false, false] rfl rfl (by kernel_rfl) (fun _ _ _ h => h) (Or.inl ⟨by rfl, ?_⟩) ?_ ?_
      rotate_left
      · intro w'
        go_simp
        with_reducible rfl
      rotate_left
      · simp only [Act.put, List.setIfInBounds_toArray, List.set_cons_zero, List.set_cons_succ, i64_w, i32_w]
        rfl
      refine pure_ (i := 29) (N := some 58) (v := ?_) (a' := ?_) #[true, true, true, true, true, true, true, true, true, true, true, true, true, true, true, true, true, true, true, true, true, true, true, true, true, true, true, true, false, true, false, false, false, false, false, false] rfl rfl (by kernel_rfl) (fun _ _ _ h => h) (Or.inl ⟨by rfl, ?_⟩) ?_ ?_
      rotate_left
      · intro w'
        go_simp
        with_reducible rfl
      rotate_left
      · simp only [Act.put, List.setIfInBounds_toArray, List.set_cons_zero, List.set_cons_succ, i64_w, i32_w]
        rfl
      refine pure_ (i := 30) (N := some 59) (v := ?_) (a' := ?_) #[true, true, true, true, true, true, true, true, true, true, true, true, true, true, true, true, true, true, true, true, true, true, true, true, true, true, true, true, false, true, true, false, false, false, false, false] rfl rfl (by kernel_rfl) (fun _ _ _ h => h) (Or.inl ⟨by rfl, ?_⟩) ?_ ?_
      rotate_left
      · intro w'
        go_simp
        with_reducible rfl
      rotate_left
      · simp only [Act.put, List.setIfInBounds_toArray, List.set_cons_zero, List.set_cons_succ, i64_w, i32_w]
        rfl
      refine pure_ (i := 31) (N := some 60) (v := ?_) (a' := ?_) #[true, true, true, true, true, true, true, true, true, true, true, true, true, true, true, true, true, true, true, true, true, true, true, true, true, true, true, true, false, true, true, true, false, false, false, false] rfl rfl (by kernel_rfl) (fun _ _ _ h => h) (Or.inl ⟨by rfl, ?_⟩) ?_ ?_
      rotate_left
      · intro w'
        go_simp
        with_reducible rfl
      rotate_left
      · simp only [Act.put, List.setIfInBounds_toArray, List.set_cons_zero, List.set_cons_succ, i64_w, i32_w]
        rfl
      refine take_ (i := 28) (N := some 57) (v := ?_) (a' := ?_) #[true, true, true, true, true, true, true, true, true, true, true, true, true, true, true, true, true, true, true, true, true, true, true, true, true, true, true, true, true, true, true, true, false, false, false, false] rfl rfl (by kernel_rfl) (fun _ _ _ h => h) (Or.inl ⟨by rfl, ?_⟩) hHeld ?_ ?_
      rotate_left
      · rintro w' ⟨s0, s1, s2, s3, s4⟩
        go_simp
        with_reducible rfl
      rotate_left
      · simp only [Act.put, List.setIfInBounds_toArray, List.set_cons_zero, List.set_cons_succ, i64_w, i32_w]
        rfl
      refine one_ (i := 32) (N := some 61) #[true, true, true, true, true, true, true, true, true, true, true, true, true, true, true, true, true, true, true, true, true, true, true, true, true, true, true, true, true, true, true, true, true, false, false, false] rfl rfl (by kernel_rfl) (by decide) (fun K hK => ?_)
      have hau_ : ∀ ia ib, client_Auth.f k4 ⟨#[]⟩ ⟨#[]⟩ ⟨#[]⟩ [x] [] ia ib = some false → Calls Tryd.prog 8 #[.agg #[.string ⟨#[]⟩, .string ⟨#[]⟩, .string ⟨#[]⟩, .slice (some ⟨gc, 0, none⟩) 1 1, .slice none 0 0], .string ia, .string ib] v3 fun e w' => e = .returned (.bool false) ∧ Below v3.heap.size v3 w' := fun ia ib hs => client_Auth.calls k4 ⟨#[]⟩ ⟨#[]⟩ ⟨#[]⟩ (some ⟨gc, 0, none⟩) 1 [x] none 0 [] ia ib _ _ HC3.out (Nat.le_refl 1) (Kd.C_nil _ _) (Nat.le_refl 0) hs
      refine goes_ Tryd.func8 (by kernel_rfl) rfl #[.agg #[.string ⟨#[]⟩, .string ⟨#[]⟩, .string ⟨#[]⟩, .slice (some ⟨gc, 0, none⟩) 1 1, .slice none 0 0], (.string (a0 ++ ⟨#[120]⟩)), (.string a1)] (by rfl) rfl rfl (by first | (simp only [List.map_toArray, List.map_cons, List.map_nil]; done) | (simp only [List.map_toArray, List.map_cons, List.map_nil]; rfl)) ?_
      with_reducible refine (hau_ _ _ HK4.out).mono ?_
      rintro e v4 ⟨rfl, hb_⟩
      refine ⟨_, rfl, ?_⟩
      clear hau_
      have HB4 := Aside0.mk (below_step HB3.out hb_)
      have HC4 := Aside0.mk (Kd.C_below (HC3.out) hb_)
      have BK4 := Aside0.mk (blk_below (BK3.out) hb_)
      clear hb_
      refine hK.out _ _ ⟨((blk_cell BK4.out 0).trans rfl), ((blk_cell BK4.out 1).trans rfl), ((blk_cell BK4.out 2).trans rfl), ((blk_cell BK4.out 3).trans rfl), ((blk_cell BK4.out 4).trans rfl)⟩ (fun hHeld => ?_)
      clear hK K
      refine norm_ (a' := ?_) ?_ ?_
      rotate_left
      · show Act.put _ (some 61) _ = _
        simp only [Act.put, List.setIfInBounds_toArray, List.set_cons_zero, List.set_cons_succ, i64_w, i32_w]
        rfl
      refine pure_ (i := 33) (N := some 62) (v := ?_) (a' := ?_) #[true, true, true, true, true, true, true, true, true, true, true, true, true, true, true, true, true, true, true, true, true, true, true, true, true, true, true, true, true, true, true, true, true, true, false, false] rfl rfl (by kernel_rfl) (fun _ _ _ h => h) (Or.inl ⟨by rfl, ?_⟩) ?_ ?_
      rotate_left
      · intro w'
        go_simp
        with_reducible rfl
      rotate_left
      · simp only [Act.put, List.setIfInBounds_toArray, List.set_cons_zero, List.set_cons_succ, i64_w, i32_w]
        rfl
      refine pure_ (i := 34) (N := some 63) (v := ?_) (a' := ?_) #[true, true, true, true, true, true, true, true, true, true, true, true, true, true, true, true, true, true, true, true, true, true, true, true, true, true, true, true, true, true, true, true, true, true, true, false] rfl rfl (by kernel_rfl) (fun _ _ _ h => h) (Or.inl ⟨by rfl, ?_⟩) ?_ ?_
      rotate_left
      · intro w'
        go_simp
        with_reducible rfl
      rotate_left
      · simp only [Act.put, List.setIfInBounds_toArray, List.set_cons_zero, List.set_cons_succ, i64_w, i32_w]
        rfl
      refine pure_ (i := 35) (N := some 6) (v := ?_) (a' := ?_) #[true, true, true, true, true, true, true, true, true, true, true, true, true, true, true, true, true, true, true, true, true, true, true, true, true, true, true, true, true, true, true, true, true, true, true, true] rfl rfl (by kernel_rfl) (fun _ _ _ h => h) (Or.inl ⟨by rfl, ?_⟩) ?_ ?_
      rotate_left
      · intro w'
        go_simp
        with_reducible rfl
      rotate_left
      · simp only [Act.put, List.setIfInBounds_toArray, List.set_cons_zero, List.set_cons_succ, i64_w, i32_w]
        rfl
      refine done_ (by kernel_rfl) ?_
      go_wp2
      go_ret
      exact ⟨rfl, by first | exact HB4.out | (rw [← hgc]; exact HB4.out)⟩
    · have h0 : a1.size = 0 := by omega
      have hkz := HKK.out.2 h0
      have hnp1 : (0 < a1.size) = False := eq_false (by omega)
      have hnp2 : ¬ 0 < a1.size := by omega
      have hdp : decide ((0 : Int) < (a1.size : Int)) = false := decide_eq_false (by omega)
      have hne : a1.toList = [] := by rw [toList_bl]; exact List.length_eq_zero_iff.1 (by rw [bl_length]; omega)
      have hne2 : (a1.toList == ([] : List UInt8)) = true := beq_iff_eq.2 hne
      have hne3 : (a1.toList != ([] : List UInt8)) = false := by rw [bne, hne2]; rfl
      have hne4 : a1.toList.isEmpty = true := by rw [hne]; rfl
      have HK1 := Aside0.mk (show client_Auth.f k1 ⟨#[]⟩ ⟨#[]⟩ ⟨#[]⟩ [x] [] a0 a1 = some false by rw [hk1, decide_eq_true hne]; rfl)
      subst hkz
      have HK2' := Aside0.mk (show client_Auth.f k2 ⟨#[]⟩ ⟨#[]⟩ ⟨#[]⟩ [x] [] a0 ByteArray.empty = some false from (show a1.extract 0 (0 : Int).toNat = ByteArray.empty from by simp) ▸ HK2.out)
      clear hk1 hp h0 hne
      go_enter Tryd.func3, Tryd.ntmps3
      go_wp2
      have HG1_ := Aside0.mk (HG.out.below HB_.out)
      obtain ⟨gc, hgc⟩ : ∃ g, w.heap.size = g := ⟨_, rfl⟩
      obtain ⟨g, hg⟩ : ∃ g, w.heap.size + 1 = g := ⟨_, rfl⟩
      have HC := HC_
      have HB := HB_
      have BK := BK_
      have HG1' := HG1_
      clear HC_ HB_ BK_ HG1_
      generalize (w.alloc (.cells #[.string a0, .string a1, .slice none 0 0] 25)).alloc (.cells #[.string ⟨#[]⟩, .string ⟨#[]⟩, .string ⟨#[]⟩, .slice (some ⟨w.heap.size, 0, none⟩) 1 1, .slice none 0 0] 31) = W1 at HC HB BK HG1' ⊢
      rw [hg] at BK ⊢
      rw [hgc] at HC BK ⊢
      have HG1 : Aside0 (GOK W1.drew) := ⟨HG1'.out.below (below_drew1 (Below.refl _ W1))⟩
      clear HG1'
      refine start_ (n := 36) (S := fun w' => w'.cell? ⟨g, 0, none⟩ = some (.string ⟨#[]⟩) ∧ w'.cell? ⟨g, 1, none⟩ = some (.string ⟨#[]⟩) ∧ w'.cell? ⟨g, 2, none⟩ = some (.string ⟨#[]⟩) ∧ w'.cell? ⟨g, 3, none⟩ = some (.slice (some ⟨gc, 0, none⟩) 1 1) ∧ w'.cell? ⟨g, 4, none⟩ = some (.slice none 0 0)) (ds := []) #[false, false, false, false, false, false, false, false, false, false, false, false, false, false, false, false, false, false, false, false, false, false, false, false, false, false, false, false, false, false, false, false, false, false, false, false] (by kernel_rfl) rfl rfl ⟨(show W1.drew.cell? _ = _ from ((blk_cell BK.out 0).trans rfl)), (show W1.drew.cell? _ = _ from ((blk_cell BK.out 1).trans rfl)), (show W1.drew.cell? _ = _ from ((blk_cell BK.out 2).trans rfl)), (show W1.drew.cell? _ = _ from ((blk_cell BK.out 3).trans rfl)), (show W1.drew.cell? _ = _ from ((blk_cell BK.out 4).trans rfl))⟩ (fun hHeld => ?_)
      refine one_ (i := 0) (N := some 29) #[true, false, false, false, false, false, false, false, false, false, false, false, false, false, false, false, false, false, false, false, false, false, false, false, false, false, false, false, false, false, false, false, false, false, false, false] rfl rfl (by kernel_rfl) (by decide) (fun K hK => ?_)
      refine goes_ Tryd.func7 (by kernel_rfl) rfl #[] (by rfl) rfl rfl (by first | (simp only [List.map_toArray, List.map_cons, List.map_nil]; done) | (simp only [List.map_toArray, List.map_cons, List.map_nil]; rfl)) ?_
      with_reducible refine (exequaturlaw16_answers.calls true W1.drew rfl (hG := HG1.out)).mono ?_
      rintro e v0 ⟨rfl, hb_⟩
      refine ⟨_, rfl, ?_⟩
      have HB0 := Aside0.mk (below_step (below_drew1 HB.out) hb_)
      have HC0 := Aside0.mk (Kd.C_below (Kd.C_drew HC.out) hb_)
      have BK0 := Aside0.mk (blk_below (show W1.drew.heap[g]? = _ from BK.out) hb_)
      clear hb_
      refine hK.out _ _ ⟨((blk_cell BK0.out 0).trans rfl), ((blk_cell BK0.out 1).trans rfl), ((blk_cell BK0.out 2).trans rfl), ((blk_cell BK0.out 3).trans rfl), ((blk_cell BK0.out 4).trans rfl)⟩ (fun hHeld => ?_)
      clear hK K
      refine norm_ (a' := ?_) ?_ ?_
      rotate_left
      · show Act.put _ (some 29) _ = _
        simp only [Act.put, List.setIfInBounds_toArray, List.set_cons_zero, List.set_cons_succ, i64_w, i32_w]
        rfl
      refine pure_ (i := 1) (N := some 30) (v := ?_) (a' := ?_) #[true, true, false, false, false, false, false, false, false, false, false, false, false, false, false, false, false, false, false, false, false, false, false, false, false, false, false, false, false, false, false, false, false, false, false, false] rfl rfl (by kernel_rfl) (fun _ _ _ h => h) (Or.inl ⟨by rfl, ?_⟩) ?_ ?_
      rotate_left
      · intro w'
        go_simp
        with_reducible rfl
      rotate_left
      · simp only [Act.put, List.setIfInBounds_toArray, List.set_cons_zero, List.set_cons_succ, i64_w, i32_w]
        rfl
      refine pure_ (i := 3) (N := some 32) (v := ?_) (a' := ?_) #[true, true, false, true, false, false, false, false, false, false, false, false, false, false, false, false, false, false, false, false, false, false, false, false, false, false, false, false, false, false, false, false, false, false, false, false] rfl rfl (by kernel_rfl) (fun _ _ _ h => h) (Or.inl ⟨by rfl, ?_⟩) ?_ ?_
      rotate_left
      · intro w'
        go_simp
        with_reducible rfl
      rotate_left
      · simp only [Act.put, List.setIfInBounds_toArray, List.set_cons_zero, List.set_cons_succ, i64_w, i32_w]
        rfl
      refine pure_ (i := 4) (N := some 33) (v := ?_) (a' := ?_) #[true, true, false, true, true, false, false, false, false, false, false, false, false, false, false, false, false, false, false, false, false, false, false, false, false, false, false, false, false, false, false, false, false, false, false, false] rfl rfl (by kernel_rfl) (fun _ _ _ h => h) (Or.inl ⟨by rfl, ?_⟩) ?_ ?_
      rotate_left
      · intro w'
        go_simp
        with_reducible rfl
      rotate_left
      · simp only [Act.put, List.setIfInBounds_toArray, List.set_cons_zero, List.set_cons_succ, i64_w, i32_w]
        rfl
      refine pure_ (i := 6) (N := some 35) (v := ?_) (a' := ?_) #[true, true, false, true, true, false, true, false, false, false, false, false, false, false, false, false, false, false, false, false, false, false, false, false, false, false, false, false, false, false, false, false, false, false, false, false] rfl rfl (by kernel_rfl) (fun _ _ _ h => h) (Or.inl ⟨by rfl, ?_⟩) ?_ ?_
      rotate_left
      · intro w'
        go_simp
        with_reducible rfl
      rotate_left
      · simp only [Act.put, List.setIfInBounds_toArray, List.set_cons_zero, List.set_cons_succ, i64_w, i32_w]
        rfl
      refine pure_ (i := 7) (N := some 36) (v := ?_) (a' := ?_) #[true, true, false, true, true, false, true, true, false, false, false, false, false, false, false, false, false, false, false, false, false, false, false, false, false, false, false, false, false, false, false, false, false, false, false, false] rfl rfl (by kernel_rfl) (fun _ _ _ h => h) (Or.inl ⟨by rfl, ?_⟩) ?_ ?_
      rotate_left
      · intro w'
        go_simp
        with_reducible rfl
      rotate_left
      · simp only [Act.put, List.setIfInBounds_toArray, List.set_cons_zero, List.set_cons_succ, i64_w, i32_w]
        rfl
      refine take_ (i := 2) (N := some 31) (v := ?_) (a' := ?_) #[true, true, true, true, true, false, true, true, false, false, false, false, false, false, false, false, false, false, false, false, false, false, false, false, false, false, false, false, false, false, false, false, false, false, false, false] rfl rfl (by kernel_rfl) (fun _ _ _ h => h) (Or.inl ⟨by rfl, ?_⟩) hHeld ?_ ?_
      rotate_left
      · rintro w' ⟨s0, s1, s2, s3, s4⟩
        go_simp
        with_reducible rfl
      rotate_left
      · simp only [Act.put, List.setIfInBounds_toArray, List.set_cons_zero, List.set_cons_succ, i64_w, i32_w]
        rfl
      refine one_ (i := 5) (N := some 34) #[true, true, true, true, true, true, true, true, false, false, false, false, false, false, false, false, false, false, false, false, false, false, false, false, false, false, false, false, false, false, false, false, false, false, false, false] rfl rfl (by kernel_rfl) (by decide) (fun K hK => ?_)
      have hau_ : ∀ ia ib, client_Auth.f k1 ⟨#[]⟩ ⟨#[]⟩ ⟨#[]⟩ [x] [] ia ib = some false → Calls Tryd.prog 8 #[.agg #[.string ⟨#[]⟩, .string ⟨#[]⟩, .string ⟨#[]⟩, .slice (some ⟨gc, 0, none⟩) 1 1, .slice none 0 0], .string ia, .string ib] v0 fun e w' => e = .returned (.bool false) ∧ Below v0.heap.size v0 w' := fun ia ib hs => client_Auth.calls k1 ⟨#[]⟩ ⟨#[]⟩ ⟨#[]⟩ (some ⟨gc, 0, none⟩) 1 [x] none 0 [] ia ib _ _ HC0.out (Nat.le_refl 1) (Kd.C_nil _ _) (Nat.le_refl 0) hs
      refine goes_ Tryd.func8 (by kernel_rfl) rfl #[.agg #[.string ⟨#[]⟩, .string ⟨#[]⟩, .string ⟨#[]⟩, .slice (some ⟨gc, 0, none⟩) 1 1, .slice none 0 0], (.string a0), (.string a1)] (by rfl) rfl rfl (by first | (simp only [List.map_toArray, List.map_cons, List.map_nil]; done) | (simp only [List.map_toArray, List.map_cons, List.map_nil]; rfl)) ?_
      with_reducible refine (hau_ _ _ HK1.out).mono ?_
      rintro e v1 ⟨rfl, hb_⟩
      refine ⟨_, rfl, ?_⟩
      clear hau_
      have HB1 := Aside0.mk (below_step HB0.out hb_)
      have HC1 := Aside0.mk (Kd.C_below (HC0.out) hb_)
      have BK1 := Aside0.mk (blk_below (BK0.out) hb_)
      clear hb_
      refine hK.out _ _ ⟨((blk_cell BK1.out 0).trans rfl), ((blk_cell BK1.out 1).trans rfl), ((blk_cell BK1.out 2).trans rfl), ((blk_cell BK1.out 3).trans rfl), ((blk_cell BK1.out 4).trans rfl)⟩ (fun hHeld => ?_)
      clear hK K
      refine norm_ (a' := ?_) ?_ ?_
      rotate_left
      · show Act.put _ (some 34) _ = _
        simp only [Act.put, List.setIfInBounds_toArray, List.set_cons_zero, List.set_cons_succ, i64_w, i32_w]
        rfl
      refine pure_ (i := 8) (N := some 37) (v := ?_) (a' := ?_) #[true, true, true, true, true, true, true, true, true, false, false, false, false, false, false, false, false, false, false, false, false, false, false, false, false, false, false, false, false, false, false, false, false, false, false, false] rfl rfl (by kernel_rfl) (fun _ _ _ h => h) (Or.inl ⟨by rfl, ?_⟩) ?_ ?_
      rotate_left
      · intro w'
        go_simp
        with_reducible rfl
      rotate_left
      · simp only [Act.put, List.setIfInBounds_toArray, List.set_cons_zero, List.set_cons_succ, i64_w, i32_w]
        rfl
      refine pure_ (i := 9) (N := some 38) (v := ?_) (a' := ?_) #[true, true, true, true, true, true, true, true, true, true, false, false, false, false, false, false, false, false, false, false, false, false, false, false, false, false, false, false, false, false, false, false, false, false, false, false] rfl rfl (by kernel_rfl) (fun _ _ _ h => h) (Or.inl ⟨by rfl, ?_⟩) ?_ ?_
      rotate_left
      · intro w'
        go_simp
        with_reducible rfl
      rotate_left
      · simp only [Act.put, List.setIfInBounds_toArray, List.set_cons_zero, List.set_cons_succ, i64_w, i32_w]
        rfl
      refine pure_ (i := 10) (N := some 39) (v := ?_) (a' := ?_) #[true, true, true, true, true, true, true, true, true, true, true, false, false, false, false, false, false, false, false, false, false, false, false, false, false, false, false, false, false, false, false, false, false, false, false, false] rfl rfl (by kernel_rfl) (fun _ _ _ h => h) (Or.inl ⟨by rfl, ?_⟩) ?_ ?_
      rotate_left
      · intro w'
        go_simp
        with_reducible rfl
      rotate_left
      · simp only [Act.put, List.setIfInBounds_toArray, List.set_cons_zero, List.set_cons_succ, i64_w, i32_w]
        rfl
      refine pure_ (i := 12) (N := some 41) (v := ?_) (a' := ?_) #[true, true, true, true, true, true, true, true, true, true, true, false, true, false, false, false, false, false, false, false, false, false, false, false, false, false, false, false, false, false, false, false, false, false, false, false] rfl rfl (by kernel_rfl) (fun _ _ _ h => h) (Or.inl ⟨by rfl, ?_⟩) ?_ ?_
      rotate_left
      · intro w'
        go_simp
        with_reducible rfl
      rotate_left
      · simp only [Act.put, List.setIfInBounds_toArray, List.set_cons_zero, List.set_cons_succ, i64_w, i32_w]
        rfl
      refine pure_ (i := 13) (N := some 42) (v := ?_) (a' := ?_) #[true, true, true, true, true, true, true, true, true, true, true, false, true, true, false, false, false, false, false, false, false, false, false, false, false, false, false, false, false, false, false, false, false, false, false, false] rfl rfl (by kernel_rfl) (fun _ _ _ h => h) (Or.inl ⟨by rfl, ?_⟩) ?_ ?_
      rotate_left
      · intro w'
        go_simp
        with_reducible rfl
      rotate_left
      · simp only [Act.put, List.setIfInBounds_toArray, List.set_cons_zero, List.set_cons_succ, i64_w, i32_w]
        rfl
      refine pure_ (i := 14) (N := some 43) (v := ?_) (a' := ?_) #[true, true, true, true, true, true, true, true, true, true, true, false, true, true, true, false, false, false, false, false, false, false, false, false, false, false, false, false, false, false, false, false, false, false, false, false] rfl rfl (by kernel_rfl) (fun _ _ _ h => h) (Or.inl ⟨by rfl, ?_⟩) ?_ ?_
      rotate_left
      · intro w'
        go_simp
        with_reducible rfl
      rotate_left
      · simp only [Act.put, List.setIfInBounds_toArray, List.set_cons_zero, List.set_cons_succ, i64_w, i32_w]
        rfl
      refine pure_ (i := 15) (N := some 44) (v := ?_) (a' := ?_) #[true, true, true, true, true, true, true, true, true, true, true, false, true, true, true, true, false, false, false, false, false, false, false, false, false, false, false, false, false, false, false, false, false, false, false, false] rfl rfl (by kernel_rfl) (fun _ _ _ h => h) (Or.inl ⟨by rfl, ?_⟩) ?_ ?_
      rotate_left
      · intro w'
        go_simp
        with_reducible rfl
      rotate_left
      · simp only [Act.put, List.setIfInBounds_toArray, List.set_cons_zero, List.set_cons_succ, i64_w, i32_w]
        rfl
      refine take_ (i := 11) (N := some 40) (v := ?_) (a' := ?_) #[true, true, true, true, true, true, true, true, true, true, true, true, true, true, true, true, false, false, false, false, false, false, false, false, false, false, false, false, false, false, false, false, false, false, false, false] rfl rfl (by kernel_rfl) (fun _ _ _ h => h) (Or.inl ⟨by rfl, ?_⟩) hHeld ?_ ?_
      rotate_left
      · rintro w' ⟨s0, s1, s2, s3, s4⟩
        go_simp
        with_reducible rfl
      rotate_left
      · simp only [Act.put, List.setIfInBounds_toArray, List.set_cons_zero, List.set_cons_succ, i64_w, i32_w]
        rfl
      refine one_ (i := 16) (N := some 45) #[true, true, true, true, true, true, true, true, true, true, true, true, true, true, true, true, true, false, false, false, false, false, false, false, false, false, false, false, false, false, false, false, false, false, false, false] rfl rfl (by kernel_rfl) (by decide) (fun K hK => ?_)
      have hau_ : ∀ ia ib, client_Auth.f k2 ⟨#[]⟩ ⟨#[]⟩ ⟨#[]⟩ [x] [] ia ib = some false → Calls Tryd.prog 8 #[.agg #[.string ⟨#[]⟩, .string ⟨#[]⟩, .string ⟨#[]⟩, .slice (some ⟨gc, 0, none⟩) 1 1, .slice none 0 0], .string ia, .string ib] v1 fun e w' => e = .returned (.bool false) ∧ Below v1.heap.size v1 w' := fun ia ib hs => client_Auth.calls k2 ⟨#[]⟩ ⟨#[]⟩ ⟨#[]⟩ (some ⟨gc, 0, none⟩) 1 [x] none 0 [] ia ib _ _ HC1.out (Nat.le_refl 1) (Kd.C_nil _ _) (Nat.le_refl 0) hs
      refine goes_ Tryd.func8 (by kernel_rfl) rfl #[.agg #[.string ⟨#[]⟩, .string ⟨#[]⟩, .string ⟨#[]⟩, .slice (some ⟨gc, 0, none⟩) 1 1, .slice none 0 0], (.string a0), (.string ByteArray.empty)] (by rfl) rfl rfl (by first | (simp only [List.map_toArray, List.map_cons, List.map_nil]; done) | (simp only [List.map_toArray, List.map_cons, List.map_nil]; rfl)) ?_
      with_reducible refine (hau_ _ _ HK2'.out).mono ?_
      rintro e v2 ⟨rfl, hb_⟩
      refine ⟨_, rfl, ?_⟩
      clear hau_
      have HB2 := Aside0.mk (below_step HB1.out hb_)
      have HC2 := Aside0.mk (Kd.C_below (HC1.out) hb_)
      have BK2 := Aside0.mk (blk_below (BK1.out) hb_)
      clear hb_
      refine hK.out _ _ ⟨((blk_cell BK2.out 0).trans rfl), ((blk_cell BK2.out 1).trans rfl), ((blk_cell BK2.out 2).trans rfl), ((blk_cell BK2.out 3).trans rfl), ((blk_cell BK2.out 4).trans rfl)⟩ (fun hHeld => ?_)
      clear hK K
      refine norm_ (a' := ?_) ?_ ?_
      rotate_left
      · show Act.put _ (some 45) _ = _
        simp only [Act.put, List.setIfInBounds_toArray, List.set_cons_zero, List.set_cons_succ, i64_w, i32_w]
        rfl
      refine pure_ (i := 17) (N := some 46) (v := ?_) (a' := ?_) #[true, true, true, true, true, true, true, true, true, true, true, true, true, true, true, true, true, true, false, false, false, false, false, false, false, false, false, false, false, false, false, false, false, false, false, false] rfl rfl (by kernel_rfl) (fun _ _ _ h => h) (Or.inl ⟨by rfl, ?_⟩) ?_ ?_
      rotate_left
      · intro w'
        go_simp
        with_reducible rfl
      rotate_left
      · simp only [Act.put, List.setIfInBounds_toArray, List.set_cons_zero, List.set_cons_succ, i64_w, i32_w]
        rfl
      refine pure_ (i := 18) (N := some 47) (v := ?_) (a' := ?_) #[true, true, true, true, true, true, true, true, true, true, true, true, true, true, true, true, true, true, true, false, false, false, false, false, false, false, false, false, false, false, false, false, false, false, false, false] rfl rfl (by kernel_rfl) (fun _ _ _ h => h) (Or.inl ⟨by rfl, ?_⟩) ?_ ?_
      rotate_left
      · intro w'
        go_simp
        with_reducible rfl
      rotate_left
      · simp only [Act.put, List.setIfInBounds_toArray, List.set_cons_zero, List.set_cons_succ, i64_w, i32_w]
        rfl
      refine pure_ (i := 19) (N := some 48) (v := ?_) (a' := ?_) #[true, true, true, true, true, true, true, true, true, true, true, true, true, true, true, true, true, true, true, true, false, false, false, false, false, false, false, false, false, false, false, false, false, false, false, false] rfl rfl (by kernel_rfl) (fun _ _ _ h => h) (Or.inl ⟨by rfl, ?_⟩) ?_ ?_
      rotate_left
      · intro w'
        go_simp
        with_reducible rfl
      rotate_left
      · simp only [Act.put, List.setIfInBounds_toArray, List.set_cons_zero, List.set_cons_succ, i64_w, i32_w]
        rfl
      refine pure_ (i := 21) (N := some 50) (v := ?_) (a' := ?_) #[true, true, true, true, true, true, true, true, true, true, true, true, true, true, true, true, true, true, true, true, false, true, false, false, false, false, false, false, false, false, false, false, false, false, false, false] rfl rfl (by kernel_rfl) (fun _ _ _ h => h) (Or.inl ⟨by rfl, ?_⟩) ?_ ?_
      rotate_left
      · intro w'
        go_simp
        with_reducible rfl
      rotate_left
      · simp only [Act.put, List.setIfInBounds_toArray, List.set_cons_zero, List.set_cons_succ, i64_w, i32_w]
        rfl
      refine pure_ (i := 22) (N := some 51) (v := ?_) (a' := ?_) #[true, true, true, true, true, true, true, true, true, true, true, true, true, true, true, true, true, true, true, true, false, true, true, false, false, false, false, false, false, false, false, false, false, false, false, false] rfl rfl (by kernel_rfl) (fun _ _ _ h => h) (Or.inl ⟨by rfl, ?_⟩) ?_ ?_
      rotate_left
      · intro w'
        go_simp
        with_reducible rfl
      rotate_left
      · simp only [Act.put, List.setIfInBounds_toArray, List.set_cons_zero, List.set_cons_succ, i64_w, i32_w]
        rfl
      refine pure_ (i := 23) (N := some 52) (v := ?_) (a' := ?_) #[true, true, true, true, true, true, true, true, true, true, true, true, true, true, true, true, true, true, true, true, false, true, true, true, false, false, false, false, false, false, false, false, false, false, false, false] rfl rfl (by kernel_rfl) (fun _ _ _ h => h) (Or.inl ⟨by rfl, ?_⟩) ?_ ?_
      rotate_left
      · intro w'
        go_simp
        with_reducible rfl
      rotate_left
      · simp only [Act.put, List.setIfInBounds_toArray, List.set_cons_zero, List.set_cons_succ, i64_w, i32_w]
        rfl
      refine take_ (i := 20) (N := some 49) (v := ?_) (a' := ?_) #[true, true, true, true, true, true, true, true, true, true, true, true, true, true, true, true, true, true, true, true, true, true, true, true, false, false, false, false, false, false, false, false, false, false, false, false] rfl rfl (by kernel_rfl) (fun _ _ _ h => h) (Or.inl ⟨by rfl, ?_⟩) hHeld ?_ ?_
      rotate_left
      · rintro w' ⟨s0, s1, s2, s3, s4⟩
        go_simp
        with_reducible rfl
      rotate_left
      · simp only [Act.put, List.setIfInBounds_toArray, List.set_cons_zero, List.set_cons_succ, i64_w, i32_w]
        rfl
      refine one_ (i := 24) (N := some 53) #[true, true, true, true, true, true, true, true, true, true, true, true, true, true, true, true, true, true, true, true, true, true, true, true, true, false, false, false, false, false, false, false, false, false, false, false] rfl rfl (by kernel_rfl) (by decide) (fun K hK => ?_)
      have hau_ : ∀ ia ib, client_Auth.f k3 ⟨#[]⟩ ⟨#[]⟩ ⟨#[]⟩ [x] [] ia ib = some false → Calls Tryd.prog 8 #[.agg #[.string ⟨#[]⟩, .string ⟨#[]⟩, .string ⟨#[]⟩, .slice (some ⟨gc, 0, none⟩) 1 1, .slice none 0 0], .string ia, .string ib] v2 fun e w' => e = .returned (.bool false) ∧ Below v2.heap.size v2 w' := fun ia ib hs => client_Auth.calls k3 ⟨#[]⟩ ⟨#[]⟩ ⟨#[]⟩ (some ⟨gc, 0, none⟩) 1 [x] none 0 [] ia ib _ _ HC2.out (Nat.le_refl 1) (Kd.C_nil _ _) (Nat.le_refl 0) hs
      refine goes_ Tryd.func8 (by kernel_rfl) rfl #[.agg #[.string ⟨#[]⟩, .string ⟨#[]⟩, .string ⟨#[]⟩, .slice (some ⟨gc, 0, none⟩) 1 1, .slice none 0 0], (.string a0), (.string (a1 ++ ⟨#[120]⟩))] (by rfl) rfl rfl (by first | (simp only [List.map_toArray, List.map_cons, List.map_nil]; done) | (simp only [List.map_toArray, List.map_cons, List.map_nil]; rfl)) ?_
      with_reducible refine (hau_ _ _ HK3.out).mono ?_
      rintro e v3 ⟨rfl, hb_⟩
      refine ⟨_, rfl, ?_⟩
      clear hau_
      have HB3 := Aside0.mk (below_step HB2.out hb_)
      have HC3 := Aside0.mk (Kd.C_below (HC2.out) hb_)
      have BK3 := Aside0.mk (blk_below (BK2.out) hb_)
      clear hb_
      refine hK.out _ _ ⟨((blk_cell BK3.out 0).trans rfl), ((blk_cell BK3.out 1).trans rfl), ((blk_cell BK3.out 2).trans rfl), ((blk_cell BK3.out 3).trans rfl), ((blk_cell BK3.out 4).trans rfl)⟩ (fun hHeld => ?_)
      clear hK K
      refine norm_ (a' := ?_) ?_ ?_
      rotate_left
      · show Act.put _ (some 53) _ = _
        simp only [Act.put, List.setIfInBounds_toArray, List.set_cons_zero, List.set_cons_succ, i64_w, i32_w]
        rfl
      refine pure_ (i := 25) (N := some 54) (v := ?_) (a' := ?_) #[true, true, true, true, true, true, true, true, true, true, true, true, true, true, true, true, true, true, true, true, true, true, true, true, true, true, false, false, false, false, false, false, false, false, false, false] rfl rfl (by kernel_rfl) (fun _ _ _ h => h) (Or.inl ⟨by rfl, ?_⟩) ?_ ?_
      rotate_left
      · intro w'
        go_simp
        with_reducible rfl
      rotate_left
      · simp only [Act.put, List.setIfInBounds_toArray, List.set_cons_zero, List.set_cons_succ, i64_w, i32_w]
        rfl
      refine pure_ (i := 26) (N := some 55) (v := ?_) (a' := ?_) #[true, true, true, true, true, true, true, true, true, true, true, true, true, true, true, true, true, true, true, true, true, true, true, true, true, true, true, false, false, false, false, false, false, false, false, false] rfl rfl (by kernel_rfl) (fun _ _ _ h => h) (Or.inl ⟨by rfl, ?_⟩) ?_ ?_
      rotate_left
      · intro w'
        go_simp
        with_reducible rfl
      rotate_left
      · simp only [Act.put, List.setIfInBounds_toArray, List.set_cons_zero, List.set_cons_succ, i64_w, i32_w]
        rfl
      refine pure_ (i := 27) (N := some 56) (v := ?_) (a' := ?_) #[true, true, true, true, true, true, true, true, true, true, true, true, true, true, true, true, true, true, true, true, true, true, true, true, true, true, true, true, false, false, false, false, false, false, false, false] rfl rfl (by kernel_rfl) (fun _ _ _ h => h) (Or.inl ⟨by rfl, ?_⟩) ?_ ?_
      rotate_left
      · intro w'
        go_simp
        with_reducible rfl
      rotate_left
      · simp only [Act.put, List.setIfInBounds_toArray, List.set_cons_zero, List.set_cons_succ, i64_w, i32_w]
        rfl
      refine pure_ (i := 29) (N := some 58) (v := ?_) (a' := ?_) #[true, true, true, true, true, true, true, true, true, true, true, true, true, true, true, true, true, true, true, true, true, true, true, true, true, true, true, true, false, true, false, false, false, false, false, false] rfl rfl (by kernel_rfl) (fun _ _ _ h => h) (Or.inl ⟨by rfl, ?_⟩) ?_ ?_
      rotate_left
      · intro w'
        go_simp
        with_reducible rfl
      rotate_left
      · simp only [Act.put, List.setIfInBounds_toArray, List.set_cons_zero, List.set_cons_succ, i64_w, i32_w]
        rfl
      refine pure_ (i := 30) (N := some 59) (v := ?_) (a' := ?_) #[true, true, true, true, true, true, true, true, true, true, true, true, true, true, true, true, true, true, true, true, true, true, true, true, true, true, true, true, false, true, true, false, false, false, false, false] rfl rfl (by kernel_rfl) (fun _ _ _ h => h) (Or.inl ⟨by rfl, ?_⟩) ?_ ?_
      rotate_left
      · intro w'
        go_simp
        with_reducible rfl
      rotate_left
      · simp only [Act.put, List.setIfInBounds_toArray, List.set_cons_zero, List.set_cons_succ, i64_w, i32_w]
        rfl
      refine pure_ (i := 31) (N := some 60) (v := ?_) (a' := ?_) #[true, true, true, true, true, true, true, true, true, true, true, true, true, true, true, true, true, true, true, true, true, true, true, true, true, true, true, true, false, true, true, true, false, false, false, false] rfl rfl (by kernel_rfl) (fun _ _ _ h => h) (Or.inl ⟨by rfl, ?_⟩) ?_ ?_
      rotate_left
      · intro w'
        go_simp
        with_reducible rfl
      rotate_left
      · simp only [Act.put, List.setIfInBounds_toArray, List.set_cons_zero, List.set_cons_succ, i64_w, i32_w]
        rfl
      refine take_ (i := 28) (N := some 57) (v := ?_) (a' := ?_) #[true, true, true, true, true, true, true, true, true, true, true, true, true, true, true, true, true, true, true, true, true, true, true, true, true, true, true, true, true, true, true, true, false, false, false, false] rfl rfl (by kernel_rfl) (fun _ _ _ h => h) (Or.inl ⟨by rfl, ?_⟩) hHeld ?_ ?_
      rotate_left
      · rintro w' ⟨s0, s1, s2, s3, s4⟩
        go_simp
        with_reducible rfl
      rotate_left
      · simp only [Act.put, List.setIfInBounds_toArray, List.set_cons_zero, List.set_cons_succ, i64_w, i32_w]
        rfl
      refine one_ (i := 32) (N := some 61) #[true, true, true, true, true, true, true, true, true, true, true, true, true, true, true, true, true, true, true, true, true, true, true, true, true, true, true, true, true, true, true, true, true, false, false, false] rfl rfl (by kernel_rfl) (by decide) (fun K hK => ?_)
      have hau_ : ∀ ia ib, client_Auth.f k4 ⟨#[]⟩ ⟨#[]⟩ ⟨#[]⟩ [x] [] ia ib = some false → Calls Tryd.prog 8 #[.agg #[.string ⟨#[]⟩, .string ⟨#[]⟩, .string ⟨#[]⟩, .slice (some ⟨gc, 0, none⟩) 1 1, .slice none 0 0], .string ia, .string ib] v3 fun e w' => e = .returned (.bool false) ∧ Below v3.heap.size v3 w' := fun ia ib hs => client_Auth.calls k4 ⟨#[]⟩ ⟨#[]⟩ ⟨#[]⟩ (some ⟨gc, 0, none⟩) 1 [x] none 0 [] ia ib _ _ HC3.out (Nat.le_refl 1) (Kd.C_nil _ _) (Nat.le_refl 0) hs
      refine goes_ Tryd.func8 (by kernel_rfl) rfl #[.agg #[.string ⟨#[]⟩, .string ⟨#[]⟩, .string ⟨#[]⟩, .slice (some ⟨gc, 0, none⟩) 1 1, .slice none 0 0], (.string (a0 ++ ⟨#[120]⟩)), (.string a1)] (by rfl) rfl rfl (by first | (simp only [List.map_toArray, List.map_cons, List.map_nil]; done) | (simp only [List.map_toArray, List.map_cons, List.map_nil]; rfl)) ?_
      with_reducible refine (hau_ _ _ HK4.out).mono ?_
      rintro e v4 ⟨rfl, hb_⟩
      refine ⟨_, rfl, ?_⟩
      clear hau_
      have HB4 := Aside0.mk (below_step HB3.out hb_)
      have HC4 := Aside0.mk (Kd.C_below (HC3.out) hb_)
      have BK4 := Aside0.mk (blk_below (BK3.out) hb_)
      clear hb_
      refine hK.out _ _ ⟨((blk_cell BK4.out 0).trans rfl), ((blk_cell BK4.out 1).trans rfl), ((blk_cell BK4.out 2).trans rfl), ((blk_cell BK4.out 3).trans rfl), ((blk_cell BK4.out 4).trans rfl)⟩ (fun hHeld => ?_)
      clear hK K
      refine norm_ (a' := ?_) ?_ ?_
      rotate_left
      · show Act.put _ (some 61) _ = _
        simp only [Act.put, List.setIfInBounds_toArray, List.set_cons_zero, List.set_cons_succ, i64_w, i32_w]
        rfl
      refine pure_ (i := 33) (N := some 62) (v := ?_) (a' := ?_) #[true, true, true, true, true, true, true, true, true, true, true, true, true, true, true, true, true, true, true, true, true, true, true, true, true, true, true, true, true, true, true, true, true, true, false, false] rfl rfl (by kernel_rfl) (fun _ _ _ h => h) (Or.inl ⟨by rfl, ?_⟩) ?_ ?_
      rotate_left
      · intro w'
        go_simp
        with_reducible rfl
      rotate_left
      · simp only [Act.put, List.setIfInBounds_toArray, List.set_cons_zero, List.set_cons_succ, i64_w, i32_w]
        rfl
      refine pure_ (i := 34) (N := some 63) (v := ?_) (a' := ?_) #[true, true, true, true, true, true, true, true, true, true, true, true, true, true, true, true, true, true, true, true, true, true, true, true, true, true, true, true, true, true, true, true, true, true, true, false] rfl rfl (by kernel_rfl) (fun _ _ _ h => h) (Or.inl ⟨by rfl, ?_⟩) ?_ ?_
      rotate_left
      · intro w'
        go_simp
        with_reducible rfl
      rotate_left
      · simp only [Act.put, List.setIfInBounds_toArray, List.set_cons_zero, List.set_cons_succ, i64_w, i32_w]
        rfl
      refine pure_ (i := 35) (N := some 6) (v := ?_) (a' := ?_) #[true, true, true, true, true, true, true, true, true, true, true, true, true, true, true, true, true, true, true, true, true, true, true, true, true, true, true, true, true, true, true, true, true, true, true, true] rfl rfl (by kernel_rfl) (fun _ _ _ h => h) (Or.inl ⟨by rfl, ?_⟩) ?_ ?_
      rotate_left
      · intro w'
        go_simp
        with_reducible rfl
      rotate_left
      · simp only [Act.put, List.setIfInBounds_toArray, List.set_cons_zero, List.set_cons_succ, i64_w, i32_w]
        rfl
      refine done_ (by kernel_rfl) ?_
      go_wp2
      go_ret
      exact ⟨rfl, by first | exact HB4.out | (rw [← hgc]; exact HB4.out)⟩
end Go.Proofs.YtkcgalpagpgfhaaDoor.X
