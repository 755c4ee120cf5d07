/- client.address, client.goodClient. -/
import Derived.Test.YtkcgalpagpgfhaaDoorHShort
import Derived.Test.YtkcgalpagpgfhaaDoorHUriP
namespace Go.Proofs.YtkcgalpagpgfhaaDoor.X
open Go.RowKit Go.Proofs.YtkcgalpagpgfhaaDoorW.PrintWords Go.Proofs.YtkcgalpagpgfhaaDoorW.PrintLast Go.Proofs.YtkcgalpagpgfhaaDoorW.PrintMore Go.Proofs.YtkcgalpagpgfhaaDoor.Spec
set_option linter.unusedVariables false
set_option linter.unusedSimpArgs false

def addrB (s : ByteArray) : Bool := decide ((uriU (bl s)).2.2.2.2 = 0) && !oddT s
theorem box1_C (w : World) (x : ByteArray) : Kd.C Kd.string (w.alloc (.cells #[.string x] 9)) (some ⟨w.heap.size, 0, none⟩) 1 [x] :=
  Kd.C_of_reads (d := ByteArray.empty) ⟨rfl, by decide, fun _ => ⟨_, rfl, fun j hj => by
    obtain rfl : j = 0 := by omega
    have h := World.cell?_alloc_new w #[.string x] 9 0
    rw [Addr.add_lit, h]
    rfl⟩⟩
set_option maxHeartbeats 2000000 in
set_option maxRecDepth 100000 in
theorem address_calls (s : ByteArray) (w : World) (hG : GOK w) : Calls Tryd.prog 46 #[.string s] w fun e w' => e = .returned (.bool (addrB s)) ∧ Below w.heap.size w w' := by
  have hu := Tryd.underlying50
  obtain ⟨k, hk⟩ := (prog_f s).get
  unfold addrB
  obtain ⟨⟨r1, r2, r3, r4, e5⟩, hr⟩ : ∃ u, uriU (bl s) = u := ⟨_, rfl⟩
  rw [hr] at hk ⊢
  have HP := Aside0.mk (uri_Parse.calls k s r1 r2 r3 r4 e5 w hk (hG := hG))
  have HSH := Aside0.mk (show client_short.f [s] = some (!oddT s) by simp [client_short.f, shortL])
  clear hk hr hG
  obtain ⟨ob, hob⟩ : ∃ b, (!oddT s) = b := ⟨_, rfl⟩
  rw [hob] at HSH ⊢
  clear hob
  simp only
  by_cases he : e5 = 0
  · subst he
    go_enter Tryd.func46, Tryd.ntmps46
    go_wp2_with fail
    refine HP.out.mono ?_
    rintro e w1 ⟨rfl, hb1⟩
    have HB1 := Aside0.mk hb1
    clear hb1
    go_wp2_with fail
    have hc1 := box1_C (w1.alloc (.cells #[.string r1, .string r2, .string r3, .string r4] 50)) s
    rw [show (w1.alloc (.cells #[.string r1, .string r2, .string r3, .string r4] 50)).heap.size = w1.heap.size + 1 from by simp] at hc1
    refine (client_short.calls (some ⟨w1.heap.size + 1, 0, none⟩) 1 [s] ob _ hc1 (Nat.le_refl 1) HSH.out).mono ?_
    clear hc1
    rintro e w2 ⟨rfl, hb2⟩
    have HB2 := Aside0.mk (below_step (below_alloc (below_alloc HB1.out (.cells #[.string r1, .string r2, .string r3, .string r4] 50)) (.cells #[.string s] 9)) hb2)
    clear hb2
    go_wp2
    go_ret
    exact ⟨by simp, HB2.out⟩
  · have hed : (e5 == 0) = false := beq_eq_false_iff_ne.2 he
    have HED := Aside0.mk (decide_eq_false he)
    clear he
    go_enter Tryd.func46, Tryd.ntmps46
    go_wp2_with fail
    refine HP.out.mono ?_
    rintro e w1 ⟨rfl, hb1⟩
    have HB1 := Aside0.mk hb1
    clear hb1
    go_wp2
    go_ret
    exact ⟨by rw [HED.out]; rfl, below_alloc HB1.out _⟩
set_option maxHeartbeats 1000000 in
theorem goodc_closure (s : ByteArray) (w : World) (hG : GOK w) : Calls Tryd.prog 45 #[.string s] w fun e w' => e = .returned (.bool (!addrB s)) ∧ Below w.heap.size w w' := by
  have HA := Aside0.mk (address_calls s w hG)
  obtain ⟨b, hb⟩ : ∃ b, addrB s = b := ⟨_, rfl⟩
  rw [hb] at HA ⊢
  clear hb hG
  go_enter Tryd.func45, Tryd.ntmps45
  go_wp2_with fail
  refine HA.out.mono ?_
  rintro e w2 ⟨rfl, hb2⟩
  have HB2 := Aside0.mk hb2
  clear hb2
  go_wp2
  go_ret
  exact ⟨rfl, HB2.out⟩
set_option maxHeartbeats 2000000 in
set_option maxRecDepth 100000 in
theorem find_goodc (p : ByteArray → Bool) (A0 : Option Addr) (c0 : Nat) (l0 : List ByteArray) (w : World) (hr0 : Kd.C Kd.string w A0 l0.length l0) (hc0 : l0.length ≤ c0) (hcl : ∀ x ∈ l0, ∀ W : World, Below w.heap.size w W → Calls Tryd.prog 45 #[.string x] W fun e w' => e = .returned (.bool (p x)) ∧ Below W.heap.size W w') :
    Calls Tryd.prog 57 #[.slice A0 l0.length c0, .func (.func 45) #[] #[]] w fun e w' => e = .returned (.int .i64 (idxOf p l0)) ∧ Below w.heap.size w w' := by
  have HR := Aside0.mk hr0
  have HCL := Aside0.mk hcl
  have hmax := hr0.2.1
  clear hr0 hcl
  go_enter Tryd.func57, Tryd.ntmps57
  go_wp2
  go_loopw [8] (fun i wr => ∃ k : Nat, k ≤ l0.length ∧ i = .int .i64 k ∧ Aside0 (∀ j (hj : j < k) (hjl : j < l0.length), p (l0[j]'hjl) = false) ∧ Aside0 (Below w.heap.size w wr)) (fun i _ => l0.length - (intOf i).toNat)
  case atStart => exact ⟨0, Nat.zero_le _, rfl, ⟨fun j hj => absurd hj (Nat.not_lt_zero _)⟩, ⟨Below.refl _ w⟩⟩
  case round =>
    obtain ⟨k, hkl, rfl, HM, HB⟩ := hrel
    by_cases hlt : k < l0.length
    · have p0 : (0 : Int) ≤ (k : Int) := by omega
      have q0 : (k : Int) < (l0.length : Int) := by omega
      obtain ⟨ad, rfl, hx0⟩ := Kd.at_string (Kd.C_below HR.out HB.out) (k : Int) p0 q0
      have hrd : rdOf ByteArray.empty l0 (k : Int) = l0[k]'hlt := by simp [rdOf, List.getD_eq_getElem?_getD, List.getElem?_eq_getElem hlt]
      rw [hrd] at hx0
      simp only [Int.toNat_natCast] at hx0
      clear hrd
      have hcl := Aside0.mk (HCL.out (l0[k]'hlt) (List.getElem_mem hlt) wr HB.out)
      by_cases hp : p (l0[k]'hlt) = true
      · have hfin := Aside0.mk (idxOf_hit p k l0 hlt (fun j hj => HM.out j hj (by omega)) hp)
        rw [hp] at hcl
        clear hp
        go_wp2_with fail
        refine hcl.out.mono ?_
        rintro e w2 ⟨rfl, hb2⟩
        have HB2 := Aside0.mk (below_then HB.out HB.out.size hb2)
        clear hb2
        go_wp2
        go_ret
        exact ⟨by rw [hfin.out]; rfl, HB2.out⟩
      · have hp' := Bool.eq_false_iff.2 hp
        rw [hp'] at hcl
        have hnext := Aside0.mk (show ∀ j (hj : j < k + 1) (hjl : j < l0.length), p (l0[j]'hjl) = false from fun j hj hjl => by
          by_cases h : j = k
          · subst h; exact hp'
          · exact HM.out j (by omega) hjl)
        clear hp hp'
        go_wp2_with fail
        refine hcl.out.mono ?_
        rintro e w2 ⟨rfl, hb2⟩
        have HB2 := Aside0.mk (below_then HB.out HB.out.size hb2)
        clear hb2
        go_wp2
        go_roundw
        case rel => exact ⟨k + 1, by omega, by go_num, hnext, HB2⟩
        case measure => simp [intOf]; omega
    · have hfin := Aside0.mk (idxOf_all p l0 (fun x hx => by
        obtain ⟨j, hj, rfl⟩ := List.getElem_of_mem hx
        exact HM.out j (by omega) hj))
      go_wp2
      go_ret
      exact ⟨by rw [hfin.out]; rfl, HB.out⟩
set_option maxHeartbeats 2000000 in
theorem any_goodc (p : ByteArray → Bool) (A0 : Option Addr) (c0 : Nat) (l0 : List ByteArray) (w : World) (hr0 : Kd.C Kd.string w A0 l0.length l0) (hc0 : l0.length ≤ c0) (hcl : ∀ x ∈ l0, ∀ W : World, Below w.heap.size w W → Calls Tryd.prog 45 #[.string x] W fun e w' => e = .returned (.bool (p x)) ∧ Below W.heap.size W w') :
    Calls Tryd.prog 43 #[.slice A0 l0.length c0, .func (.func 45) #[] #[]] w fun e w' => e = .returned (.bool (l0.any p)) ∧ Below w.heap.size w w' := by
  have HF := Aside0.mk (find_goodc p A0 c0 l0 w hr0 hc0 hcl)
  have hA := idxOf_any p l0
  obtain ⟨i, hi⟩ : ∃ i, idxOf p l0 = i := ⟨_, rfl⟩
  obtain ⟨b, hb⟩ : ∃ b, l0.any p = b := ⟨_, rfl⟩
  rw [hi] at HF hA
  rw [hb] at hA ⊢
  clear hr0 hcl hi hb
  go_enter Tryd.func43, Tryd.ntmps43
  go_wp2_with fail
  refine HF.out.mono ?_
  rintro e w2 ⟨rfl, hb2⟩
  have HB2 := Aside0.mk hb2
  clear hb2
  go_wp2
  go_ret
  exact ⟨rfl, HB2.out⟩
/-- may a client be? -/
def goodCB (x : S25) : Bool := !oddT x.f0 && decide (x.f1.size ≤ 256) && decide (1 ≤ x.f2.length) && decide (x.f2.length ≤ 64) && x.f2.all addrB
theorem any_not {α : Type} (p : α → Bool) (l : List α) : (!(l.any fun x => !p x)) = l.all p := by
  induction l with
  | nil => rfl
  | cons x r ih => simp only [List.any_cons, List.all_cons, Bool.not_or, Bool.not_not, ih]
set_option maxHeartbeats 4000000 in
set_option maxRecDepth 100000 in
theorem goodClient_calls (x : S25) (A : Option Addr) (c : Nat) (w : World) (hG : GOK w) (hl : x.f2.length ≤ c) (hC : Kd.C Kd.string w A x.f2.length x.f2) :
    Calls Tryd.prog 33 #[.agg #[.string x.f0, .string x.f1, .slice A x.f2.length c]] w fun e w' => e = .returned (.bool (goodCB x)) ∧ Below w.heap.size w w' := by
  have hu := Tryd.underlying25
  have HG := Aside0.mk hG
  have HC := Aside0.mk hC
  unfold goodCB
  have HSH := Aside0.mk (show client_short.f [x.f0] = some (!oddT x.f0) by simp [client_short.f, shortL])
  obtain ⟨ob, hob⟩ : ∃ b, (!oddT x.f0) = b := ⟨_, rfl⟩
  rw [hob] at HSH ⊢
  clear hob hG hC
  -- the client's own block, and the list of one
  have B2 := Aside0.mk (below_alloc (below_alloc (Below.refl _ w) (.cells #[.string x.f0, .string x.f1, .slice A x.f2.length c] 25)) (.cells #[.string x.f0] 9))
  have hc1 := box1_C (w.alloc (.cells #[.string x.f0, .string x.f1, .slice A x.f2.length c] 25)) x.f0
  rw [show (w.alloc (.cells #[.string x.f0, .string x.f1, .slice A x.f2.length c] 25)).heap.size = w.heap.size + 1 from by simp] at hc1
  have HC1 := Aside0.mk hc1
  clear hc1
  have BK := Aside0.mk (blk_alloc (blk_new w (.cells #[.string x.f0, .string x.f1, .slice A x.f2.length c] 25)) (.cells #[.string x.f0] 9))
  cases ob with
  | false =>
    go_enter Tryd.func33, Tryd.ntmps33
    go_wp2_with fail
    refine (client_short.calls (some ⟨w.heap.size + 1, 0, none⟩) 1 [x.f0] false _ HC1.out (Nat.le_refl 1) HSH.out).mono ?_
    rintro e w2 ⟨rfl, hb2⟩
    have HB2 := Aside0.mk (below_step B2.out hb2)
    clear hb2
    go_wp2
    go_ret
    exact ⟨by simp, HB2.out⟩
  | true =>
  by_cases h1 : x.f1.size ≤ 256
  · have hd1 : decide ((x.f1.size : Int) ≤ 256) = true := decide_eq_true (by omega)
    by_cases h2 : 1 ≤ x.f2.length
    · have hd2 : decide ((x.f2.length : Int) ≥ 1) = true := decide_eq_true (by omega)
      have hd2' : decide ((1 : Int) ≤ (x.f2.length : Int)) = true := decide_eq_true (by omega)
      by_cases h3 : x.f2.length ≤ 64
      · have hd3 : decide ((x.f2.length : Int) ≤ 64) = true := decide_eq_true (by omega)
        have HFIN := Aside0.mk (show (true && decide (x.f1.size ≤ 256) && decide (1 ≤ x.f2.length) && decide (x.f2.length ≤ 64) && x.f2.all addrB) = !(x.f2.any fun y => !addrB y) by
          rw [decide_eq_true h1, decide_eq_true h2, decide_eq_true h3, any_not]; rfl)
        obtain ⟨an, han⟩ : ∃ b, (x.f2.any fun y => !addrB y) = b := ⟨_, rfl⟩
        rw [han] at HFIN
        have HAN := Aside0.mk han
        clear h1 h2 h3 han
        go_enter Tryd.func33, Tryd.ntmps33
        go_wp2_with fail
        refine (client_short.calls (some ⟨w.heap.size + 1, 0, none⟩) 1 [x.f0] true _ HC1.out (Nat.le_refl 1) HSH.out).mono ?_
        rintro e w2 ⟨rfl, hb2⟩
        have HB2 := Aside0.mk (below_step B2.out hb2)
        have BK2 := Aside0.mk (blk_below BK.out hb2)
        have HC2 := Aside0.mk (Kd.C_below HC.out HB2.out)
        clear hb2 B2 BK
        have d1 : w2.cell? ⟨w.heap.size, 1, none⟩ = some (.string x.f1) := (blk_cell BK2.out 1).trans rfl
        have d2 : w2.cell? ⟨w.heap.size, 2, none⟩ = some (.slice A x.f2.length c) := (blk_cell BK2.out 2).trans rfl
        go_wp2_with fail
        refine (any_goodc (fun y => !addrB y) A c x.f2 w2 HC2.out hl (fun y _ W hW => goodc_closure y W ((HG.out.below HB2.out).below hW))).mono ?_
        rw [HAN.out]
        rintro e w3 ⟨rfl, hb3⟩
        have HB3 := Aside0.mk (below_step HB2.out hb3)
        clear hb3
        go_wp2
        go_ret
        exact ⟨by rw [HFIN.out]; rfl, HB3.out⟩
      · have hd3 : decide ((x.f2.length : Int) ≤ 64) = false := decide_eq_false (by omega)
        have HFIN := Aside0.mk (show (true && decide (x.f1.size ≤ 256) && decide (1 ≤ x.f2.length) && decide (x.f2.length ≤ 64) && x.f2.all addrB) = false by rw [decide_eq_false h3]; simp)
        clear h1 h2 h3
        go_enter Tryd.func33, Tryd.ntmps33
        go_wp2_with fail
        refine (client_short.calls (some ⟨w.heap.size + 1, 0, none⟩) 1 [x.f0] true _ HC1.out (Nat.le_refl 1) HSH.out).mono ?_
        rintro e w2 ⟨rfl, hb2⟩
        have HB2 := Aside0.mk (below_step B2.out hb2)
        have BK2 := Aside0.mk (blk_below BK.out hb2)
        clear hb2 B2 BK
        have d1 : w2.cell? ⟨w.heap.size, 1, none⟩ = some (.string x.f1) := (blk_cell BK2.out 1).trans rfl
        have d2 : w2.cell? ⟨w.heap.size, 2, none⟩ = some (.slice A x.f2.length c) := (blk_cell BK2.out 2).trans rfl
        go_wp2
        go_ret
        exact ⟨by rw [HFIN.out]; rfl, HB2.out⟩
    · have hd2 : decide ((x.f2.length : Int) ≥ 1) = false := decide_eq_false (by omega)
      have hd2' : decide ((1 : Int) ≤ (x.f2.length : Int)) = false := decide_eq_false (by omega)
      have HFIN := Aside0.mk (show (true && decide (x.f1.size ≤ 256) && decide (1 ≤ x.f2.length) && decide (x.f2.length ≤ 64) && x.f2.all addrB) = false by rw [decide_eq_false h2]; simp)
      clear h1 h2
      go_enter Tryd.func33, Tryd.ntmps33
      go_wp2_with fail
      refine (client_short.calls (some ⟨w.heap.size + 1, 0, none⟩) 1 [x.f0] true _ HC1.out (Nat.le_refl 1) HSH.out).mono ?_
      rintro e w2 ⟨rfl, hb2⟩
      have HB2 := Aside0.mk (below_step B2.out hb2)
      have BK2 := Aside0.mk (blk_below BK.out hb2)
      clear hb2 B2 BK
      have d1 : w2.cell? ⟨w.heap.size, 1, none⟩ = some (.string x.f1) := (blk_cell BK2.out 1).trans rfl
      have d2 : w2.cell? ⟨w.heap.size, 2, none⟩ = some (.slice A x.f2.length c) := (blk_cell BK2.out 2).trans rfl
      go_wp2
      go_ret
      exact ⟨by rw [HFIN.out]; rfl, HB2.out⟩
  · have hd1 : decide ((x.f1.size : Int) ≤ 256) = false := decide_eq_false (by omega)
    have HFIN := Aside0.mk (show (true && decide (x.f1.size ≤ 256) && decide (1 ≤ x.f2.length) && decide (x.f2.length ≤ 64) && x.f2.all addrB) = false by rw [decide_eq_false h1]; simp)
    clear h1
    go_enter Tryd.func33, Tryd.ntmps33
    go_wp2_with fail
    refine (client_short.calls (some ⟨w.heap.size + 1, 0, none⟩) 1 [x.f0] true _ HC1.out (Nat.le_refl 1) HSH.out).mono ?_
    rintro e w2 ⟨rfl, hb2⟩
    have HB2 := Aside0.mk (below_step B2.out hb2)
    have BK2 := Aside0.mk (blk_below BK.out hb2)
    clear hb2 B2 BK
    have d1 : w2.cell? ⟨w.heap.size, 1, none⟩ = some (.string x.f1) := (blk_cell BK2.out 1).trans rfl
    go_wp2
    go_ret
    exact ⟨by rw [HFIN.out]; rfl, HB2.out⟩
end Go.Proofs.YtkcgalpagpgfhaaDoor.X
