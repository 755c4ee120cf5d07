/- row.Split, row.number: over the library's Atoi at every text. -/
import Derived.Test.YtkjheoilidpckaaDoorHTx
import Derived.Lib.AtoiAllCases
import Derived.Lib.ItoaLen
namespace Go.Proofs.YtkjheoilidpckaaDoor.X
open Go.RowKit Go.Proofs.YtkjheoilidpckaaDoorW.PrintWords Go.Proofs.YtkjheoilidpckaaDoorW.PrintLast Go.Proofs.YtkjheoilidpckaaDoorW.PrintMore Go.Proofs.YtkjheoilidpckaaDoor.Spec
set_option linter.unusedVariables false
set_option linter.unusedSimpArgs false

/-- the number that Atoi answers, and whether without an error -/
def atv (l : List UInt8) : Int := match Lib.atoiAll l with | .ok v => v | .«syntax» => 0 | .range => Lib.atoiSat l
def atOk (l : List UInt8) : Bool := match Lib.atoiAll l with | .ok _ => true | _ => false
theorem atv_range (l : List UInt8) : -9223372036854775808 ≤ atv l ∧ atv l ≤ 9223372036854775807 := by
  unfold atv
  split
  · rename_i v h; exact Lib.atoiAll_bounds h
  · omega
  · unfold Lib.atoiSat; split <;> omega

theorem atoi_calls (s : ByteArray) (hs : s.size ≤ 281474976710656) (w : World) (hG : GOK w) :
    Calls Tryd.prog 31 #[.string s] w fun e w' => ∃ ev, e = .returned (.tuple #[.int .i64 (atv (bl s)), ev]) ∧ ((ev = .nilIface ∧ atOk (bl s) = true) ∨ ((∃ t p, ev = .iface t (.pointer (some p))) ∧ atOk (bl s) = false)) ∧ Below w.heap.size w w' := by
  cases hr : Lib.atoiAll s.data.toList with
  | ok v =>
    refine (Tryd.strconv_Atoi_ok s (by omega) v hr w).mono ?_
    rintro e w' ⟨rfl, hw⟩
    refine ⟨.nilIface, ?_, .inl ⟨rfl, ?_⟩, ?_⟩
    · have : atv (bl s) = v := by unfold atv bl; rw [hr]
      rw [this]
    · unfold atOk bl; rw [hr]
    · rcases hw with rfl | ⟨t, rfl⟩
      · exact Below.refl _ _
      · exact Joins.below_bytesWorld _ w _ _ (Nat.le_refl _)
  | «syntax» =>
    obtain ⟨_, ⟨tp, p, hv⟩, _⟩ := hG
    refine (Tryd.strconv_Atoi_syntax_var s hs hr tp p w hv).mono ?_
    rintro e w' ⟨N, rfl, _, _, hb⟩
    have e1 : atv (bl s) = 0 := by unfold atv bl; rw [hr]
    have e2 : atOk (bl s) = false := by unfold atOk bl; rw [hr]
    rw [e1, e2]
    exact ⟨_, rfl, .inr ⟨⟨_, _, rfl⟩, rfl⟩, hb⟩
  | range =>
    obtain ⟨_, _, tp, p, hv⟩ := hG
    refine (Tryd.strconv_Atoi_range_var s hs hr tp p w hv).mono ?_
    rintro e w' ⟨N, rfl, _, _, hb⟩
    have e1 : atv (bl s) = Lib.atoiSat s.data.toList := by unfold atv bl; rw [hr]
    have e2 : atOk (bl s) = false := by unfold atOk bl; rw [hr]
    rw [e1, e2]
    exact ⟨_, rfl, .inr ⟨⟨_, _, rfl⟩, rfl⟩, hb⟩

def row_number.f (s : ByteArray) : Option (Int × Bool) := if s.size ≤ 1000000000000 then some (atv (bl s), atOk (bl s) && decide (Lib.itoa (atv (bl s)) = bl s)) else none
theorem toList_eq (a : List UInt8) (b : ByteArray) : ((ba a).toList == b.toList) = decide (a = bl b) := by
  rw [toList_bl, toList_bl, bl_ba]
  by_cases h : a = bl b
  · rw [decide_eq_true h, beq_iff_eq]; exact h
  · rw [decide_eq_false h, beq_eq_false_iff_ne]; exact h

set_option maxHeartbeats 2000000 in
set_option maxRecDepth 100000 in
theorem row_number.calls (a0 : ByteArray) (r1 : Int) (r2 : Bool) (w : World) (h : row_number.f a0 = some (r1, r2)) (hG : GOK w := by first | assumption | exact hG | exact GOK.drewN _ hG | exact GOK.below hG (by repeat (first | (with_reducible first | exact HB.out | apply below_alloc | apply pw_below_drewN | apply below_drew1 | refine below_set ?_ (Aside0.out (by assumption))) | exact HB.out))) :
    Calls Tryd.prog 34 #[.string a0] w fun e w' => e = .returned (.tuple #[.int .i64 r1, .bool r2]) ∧ Below w.heap.size w w' := by
  unfold row_number.f at h
  split at h
  case isFalse => cases h
  rename_i hs
  simp only [Option.some.injEq, Prod.mk.injEq] at h
  obtain ⟨rfl, rfl⟩ := h
  have HG := Aside0.mk hG
  have HC := Aside0.mk (atoi_calls a0 (by omega) w hG)
  have HR := Aside0.mk (atv_range (bl a0))
  clear hG
  obtain ⟨v, hv⟩ : ∃ v, atv (bl a0) = v := ⟨_, rfl⟩
  obtain ⟨ok, hok⟩ : ∃ ok, atOk (bl a0) = ok := ⟨_, rfl⟩
  rw [hv] at HC HR ⊢
  rw [hok] at HC ⊢
  clear hv hok
  go_enter Tryd.func34, Tryd.ntmps34
  go_wp2_with fail
  refine HC.out.mono ?_
  rintro e w1 ⟨ev, rfl, hev, hb⟩
  have HB := Aside0.mk hb
  clear hb
  have ht := toList_eq (Lib.itoa v) a0
  rcases hev with ⟨rfl, rfl⟩ | ⟨⟨t, p, rfl⟩, rfl⟩
  · go_wp2_with fail
    refine (itoa_calls v HR.out.1 HR.out.2 w1 (HG.out.below HB.out)).mono ?_
    rintro e w2 ⟨rfl, hb2⟩
    have HB2 := Aside0.mk (below_on' HB.out hb2)
    clear hb2
    go_wp2
    go_ret2
    exact ⟨by simp, HB2.out⟩
  · go_wp2
    go_ret2
    exact ⟨by simp, HB.out⟩

/-- the texts of one: what Split finds before it looks back -/
def splG : Nat → List UInt8 → Option (List (List UInt8))
  | 0, _ => none
  | n + 1, r => if r = [] then some [] else if 58 ∈ r ∧ atOk (pre 58 r) = true ∧ 0 ≤ atv (pre 58 r) ∧ atv (pre 58 r) ≤ (post 58 r).length then
      (splG n ((post 58 r).drop (atv (pre 58 r)).toNat)).map ((post 58 r).take (atv (pre 58 r)).toNat :: ·) else none
def splR (s : ByteArray) : List ByteArray × Int := match splG (s.size + 1) (bl s) with | some l => if txL (l.map ba) = bl s then (l.map ba, 0) else ([], 2) | none => ([], 2)
def row_Split.f (s : ByteArray) : Option (List ByteArray × Int) := if s.size ≤ 1000000000 then some (splR s) else none
def sizeOfS : Value → Nat | .string s => s.size | _ => 0
theorem txL_len (l : List ByteArray) (h : ∀ x ∈ l, x.size ≤ 1000000000000) : (txL l).length ≤ (l.map fun x => x.size + 22).sum := by
  induction l with
  | nil => simp [txL]
  | cons x r ih =>
    have h1 := ih (fun y hy => h y (List.mem_cons_of_mem _ hy))
    have h2 := h x (List.mem_cons_self ..)
    have h3 := Lib.itoa_length_le (x.size : Int) (by omega) (by omega)
    simp only [txL, tx1, List.length_append, List.length_cons, List.map_cons, List.sum_cons, bl_length]
    omega
theorem one_C (w : World) (x : ByteArray) : Kd.C Kd.string (w.alloc (.cells #[.string x] 9)) (some ⟨w.heap.size, 0, none⟩) 1 [x] :=
  Kd.C_of_reads (d := ByteArray.empty) ⟨rfl, by decide, fun _ => ⟨_, rfl, fun j hj => by
    obtain rfl : j = 0 := by omega
    have h := World.cell?_alloc_new w #[.string x] 9 0
    rw [Addr.add_lit, h]
    rfl⟩⟩
theorem istr : (Tryd.prog.info? 9).map (fun i => (i.zero, i.size, i.bytes)) = some (some (.string ⟨#[]⟩), 1, 16) := by kernel_rfl

set_option maxHeartbeats 8000000 in
set_option maxRecDepth 100000 in
theorem row_Split.calls (a0 : ByteArray) (r1 : List ByteArray) (r2 : Int) (w : World) (h : row_Split.f a0 = some (r1, r2)) (hG : GOK w := by first | assumption | exact hG | exact GOK.drewN _ hG | exact GOK.below hG (by repeat (first | (with_reducible first | exact HB.out | apply below_alloc | apply pw_below_drewN | apply below_drew1 | refine below_set ?_ (Aside0.out (by assumption))) | exact HB.out))) :
    Calls Tryd.prog 13 #[.string a0] w fun e w' => ∃ v0_ : Value, e = .returned (.tuple #[v0_, .int .i64 r2]) ∧ Kd.R Kd.string 9 w' w.heap.size (fun _ => True) v0_ r1 ∧ Below w.heap.size w w' := by
  unfold row_Split.f at h
  split at h
  case isFalse => cases h
  rename_i hs
  have HS := Aside0.mk hs
  have H := Aside0.mk (Option.some.inj h)
  have HG := Aside0.mk hG
  clear h hG hs
  go_enter Tryd.func13, Tryd.ntmps13
  go_wp2
  go_loopw [4, 5] (fun vo vr wr => ∃ (acc : List ByteArray) (rest : ByteArray) (n : Nat), vr = .string rest ∧ Aside0 (Kd.R Kd.string 9 wr w.heap.size (fun _ => True) vo acc) ∧ Aside0 (rest.size + 1 ≤ n ∧ splG (a0.size + 1) (bl a0) = (splG n (bl rest)).map (acc.map bl ++ ·)) ∧
    Aside0 ((acc.map fun x => x.size).sum + acc.length + rest.size ≤ a0.size) ∧ Aside0 (Below w.heap.size w wr)) (fun _ vr _ => sizeOfS vr)
  case atStart =>
    refine ⟨[], a0, a0.size + 1, rfl, ⟨Kd.R_nil _ _ _ _ _⟩, ⟨Nat.le_refl _, ?_⟩, ⟨by simp⟩, ⟨Below.refl _ _⟩⟩
    cases splG (a0.size + 1) (bl a0) <;> simp
  case round =>
    obtain ⟨acc, rest, n, rfl, HR, HN, HL, HB⟩ := hrel
    by_cases hemp : rest.size = 0
    · obtain rfl : rest = ⟨#[]⟩ := by
        apply bl_inj
        have : (bl rest).length = 0 := by rw [bl_length]; exact hemp
        rw [List.eq_nil_of_length_eq_zero this]
        rfl
      obtain ⟨m, rfl⟩ : ∃ m, n = m + 1 := ⟨n - 1, by have := HN.out.1; omega⟩
      have hsp : splR a0 = if txL acc = bl a0 then (acc, 0) else ([], 2) := by
        unfold splR
        rw [HN.out.2]
        have e1 : splG (m + 1) (bl (⟨#[]⟩ : ByteArray)) = some [] := by
          rw [splG, if_pos (show bl (⟨#[]⟩ : ByteArray) = [] from rfl)]
        rw [e1]
        have e2 : (acc.map bl ++ []).map ba = acc := by
          rw [List.append_nil, List.map_map]
          have : (ba ∘ bl) = id := by funext x; exact ba_bl x
          rw [this, List.map_id]
        simp only [Option.map_some, e2]
      have H2 := Aside0.mk (hsp.symm.trans H.out)
      clear hsp hemp
      obtain ⟨A, c, rfl, hc, hC⟩ := Kd.R_reads HR.out
      have hsum : ∀ l : List ByteArray, (l.map fun x => x.size + 22).sum = (l.map fun x => x.size).sum + 22 * l.length := by
        intro l; induction l with
        | nil => rfl
        | cons x r ih => simp only [List.map_cons, List.sum_cons, List.length_cons, ih]; omega
      have hmem : ∀ (l : List ByteArray) (x : ByteArray), x ∈ l → x.size ≤ (l.map fun x => x.size).sum := by
        intro l; induction l with
        | nil => intro x hx; cases hx
        | cons y r ih =>
          intro x hx
          simp only [List.map_cons, List.sum_cons]
          rcases List.mem_cons.1 hx with rfl | hx
          · omega
          · have := ih x hx; omega
      have hfa : row_Texts.f acc = some (ba (txL acc)) := by
        unfold row_Texts.f
        have h1 := HL.out
        have h2 := HS.out
        have h3 := txL_len acc (fun x hx => by have := hmem acc x hx; omega)
        rw [hsum] at h3
        rw [if_pos (by omega)]
      have HT := Aside0.mk (row_Texts.calls A c acc _ wr hC hc hfa (HG.out.below HB.out))
      have htl := toList_eq (txL acc) a0
      clear hsum hmem hfa hc hC
      go_wp2_with fail
      refine HT.out.mono ?_
      rintro e w2 ⟨rfl, hb⟩
      have HB2 := Aside0.mk (below_on' HB.out hb)
      have HR2 := Aside0.mk (Kd.R_below HR.out hb)
      clear hb
      by_cases hx : txL acc = bl a0
      · have hq : ((ba (txL acc)).toList != a0.toList) = false := by rw [bne, htl, decide_eq_true hx]; rfl
        have hq' : ((ba (txL acc)).toList == a0.toList) = true := by rw [htl, decide_eq_true hx]
        have hq2 : (ba (txL acc)).toList = a0.toList := beq_iff_eq.1 hq'
        have HE : (acc, (0 : Int)) = (r1, r2) := by have := H2.out; rwa [if_pos hx] at this
        simp only [Prod.mk.injEq] at HE
        obtain ⟨rfl, rfl⟩ := HE
        clear htl hx
        go_wp2
        go_ret2
        exact ⟨_, rfl, HR2.out, HB2.out⟩
      · have hq : ((ba (txL acc)).toList != a0.toList) = true := by rw [bne, htl, decide_eq_false hx]; rfl
        have hq' : ((ba (txL acc)).toList == a0.toList) = false := by rw [htl, decide_eq_false hx]
        have hq2 : ¬ (ba (txL acc)).toList = a0.toList := beq_eq_false_iff_ne.1 hq'
        have HE : (([] : List ByteArray), (2 : Int)) = (r1, r2) := by have := H2.out; rwa [if_neg hx] at this
        simp only [Prod.mk.injEq] at HE
        obtain ⟨rfl, rfl⟩ := HE
        clear htl hx
        go_wp2
        go_ret2
        exact ⟨_, rfl, Kd.R_nil _ _ _ _ _, HB2.out⟩
    · have HNE := Aside0.mk (show ¬ bl rest = [] from fun e => hemp (by rw [← bl_length, e]; rfl))
      have hr1 : ¬ rest.toList = ([] : List UInt8) := by rw [toList_bl]; exact HNE.out
      have hr2 : (rest.toList == ([] : List UInt8)) = false := beq_eq_false_iff_ne.2 hr1
      have HSR := Aside0.mk (show rest.size ≤ 1000000000 by have := HL.out; have := HS.out; omega)
      obtain ⟨ci, hci⟩ : ∃ ci, decide ((58 : UInt8) ∈ bl rest) = ci := ⟨_, rfl⟩
      have HCI := Aside0.mk hci
      have HCUT := Aside0.mk (strings_Cut.calls rest ⟨#[58]⟩ (ba (pre 58 (bl rest))) (ba (post 58 (bl rest))) ci wr (by
        unfold strings_Cut.f
        rw [show bl (⟨#[58]⟩ : ByteArray) = [58] from rfl]
        simp only
        rw [if_pos (by have := HSR.out; omega), hci]))
      obtain ⟨pr, hpr⟩ : ∃ pr, pre 58 (bl rest) = pr := ⟨_, rfl⟩
      obtain ⟨po, hpo⟩ : ∃ po, post 58 (bl rest) = po := ⟨_, rfl⟩
      have HPR := Aside0.mk hpr
      have HPO := Aside0.mk hpo
      rw [hpr, hpo] at HCUT
      have HPL := Aside0.mk (show pr.length ≤ rest.size by rw [← hpr, ← bl_length]; exact pre_length_le _ _)
      have HPS := Aside0.mk (show ci = true → rest.size = pr.length + 1 + po.length from fun e => by
        rw [e] at hci
        have := congrArg List.length (pre_post (of_decide_eq_true hci))
        rw [hpr, hpo, List.length_append, List.length_cons, bl_length] at this
        omega)
      clear hemp hci hpr hpo
      go_wp2_with fail
      refine HCUT.out.mono ?_
      rintro e w1 ⟨rfl, hd⟩
      have hb1 : Below wr.heap.size wr w1 := by obtain ⟨k, rfl⟩ := hd; exact pw_below_drewN (Below.refl _ wr) k
      have HB1 := Aside0.mk (below_on' HB.out hb1)
      have HR1 := Aside0.mk (Kd.R_below HR.out hb1)
      clear hd hb1
      have HAT := Aside0.mk (atoi_calls (ba pr) (by rw [size_ba]; have := HPL.out; have := HSR.out; omega) w1 (HG.out.below HB1.out))
      rw [bl_ba] at HAT
      have HV := Aside0.mk (atv_range pr)
      obtain ⟨v, hv⟩ : ∃ v, atv pr = v := ⟨_, rfl⟩
      obtain ⟨ok, hok⟩ : ∃ ok, atOk pr = ok := ⟨_, rfl⟩
      rw [hv, hok] at HAT
      rw [hv] at HV
      have HVE := Aside0.mk hv
      have HOE := Aside0.mk hok
      clear hv hok
      go_wp2_with fail
      refine HAT.out.mono ?_
      rintro e w2 ⟨ev, rfl, hev, hb2⟩
      have HB2 := Aside0.mk (below_on' HB1.out hb2)
      have HR2 := Aside0.mk (Kd.R_below HR1.out hb2)
      clear hb2
      cases ci with
      | false =>
        have hbad : splG n (bl rest) = none := by
          obtain ⟨m, rfl⟩ : ∃ m, n = m + 1 := ⟨n - 1, by have := HN.out.1; omega⟩
          rw [splG, if_neg HNE.out, if_neg (by intro hh; have := HCI.out; simp [hh.1] at this)]
        have hsp : splR a0 = ([], 2) := by
          unfold splR
          rw [HN.out.2, hbad]
          rfl
        have HE : (([] : List ByteArray), (2 : Int)) = (r1, r2) := by rw [← hsp]; exact H.out
        simp only [Prod.mk.injEq] at HE
        obtain ⟨rfl, rfl⟩ := HE
        clear hbad hsp
        rcases hev with ⟨rfl, rfl⟩ | ⟨⟨t, p, rfl⟩, rfl⟩
        · go_wp2
          go_ret2
          exact ⟨_, rfl, Kd.R_nil _ _ _ _ _, HB2.out⟩
        · go_wp2
          go_ret2
          exact ⟨_, rfl, Kd.R_nil _ _ _ _ _, HB2.out⟩
      | true =>
      rcases hev with ⟨rfl, rfl⟩ | ⟨⟨t, p, rfl⟩, rfl⟩
      · by_cases hv0 : v < 0
        · have hq1 : decide (v < 0) = true := decide_eq_true hv0
          have HV0 := Aside0.mk hv0
          clear hv0
          have hbad : splG n (bl rest) = none := by
            obtain ⟨m, rfl⟩ : ∃ m, n = m + 1 := ⟨n - 1, by have := HN.out.1; omega⟩
            rw [splG, if_neg HNE.out, if_neg (by intro hh; rw [HPR.out, HVE.out] at hh; have := HV0.out; omega)]
          have hsp : splR a0 = ([], 2) := by
            unfold splR
            rw [HN.out.2, hbad]
            rfl
          have HE : (([] : List ByteArray), (2 : Int)) = (r1, r2) := by rw [← hsp]; exact H.out
          simp only [Prod.mk.injEq] at HE
          obtain ⟨rfl, rfl⟩ := HE
          clear hbad hsp
          go_wp2
          go_ret2
          exact ⟨_, rfl, Kd.R_nil _ _ _ _ _, HB2.out⟩
        by_cases hv1 : (po.length : Int) < v
        · have hq1 : decide (v < 0) = false := decide_eq_false hv0
          have hq2 : decide (v > (po.length : Int)) = true := decide_eq_true hv1
          have HV0 := Aside0.mk hv1
          clear hv0 hv1
          have hbad : splG n (bl rest) = none := by
            obtain ⟨m, rfl⟩ : ∃ m, n = m + 1 := ⟨n - 1, by have := HN.out.1; omega⟩
            rw [splG, if_neg HNE.out, if_neg (by intro hh; rw [HPR.out, HVE.out, HPO.out] at hh; have := HV0.out; omega)]
          have hsp : splR a0 = ([], 2) := by
            unfold splR
            rw [HN.out.2, hbad]
            rfl
          have HE : (([] : List ByteArray), (2 : Int)) = (r1, r2) := by rw [← hsp]; exact H.out
          simp only [Prod.mk.injEq] at HE
          obtain ⟨rfl, rfl⟩ := HE
          clear hbad hsp
          go_wp2
          go_ret2
          exact ⟨_, rfl, Kd.R_nil _ _ _ _ _, HB2.out⟩
        have hq1 : decide (v < 0) = false := decide_eq_false hv0
        have hq2 : decide (v > (po.length : Int)) = false := decide_eq_false hv1
        have hvp : 0 ≤ v := by omega
        have hvl : v ≤ (po.length : Int) := by omega
        have hvl2 : v ≤ ((ba po).size : Int) := by rw [size_ba]; exact hvl
        have HVP := Aside0.mk (show 0 ≤ v ∧ v ≤ (po.length : Int) from ⟨hvp, hvl⟩)
        clear hv0 hv1
        have HRA := Aside0.mk (Kd.R_below HR2.out (below_alloc (Below.refl _ w2) (.cells #[.string ((ba po).extract 0 v.toNat)] 9)))
        have HBA := Aside0.mk (below_alloc HB2.out (.cells #[.string ((ba po).extract 0 v.toNat)] 9))
        have HC1 := Aside0.mk (one_C w2 ((ba po).extract 0 v.toNat))
        have HAC := Aside0.mk (show (acc.length + 1) * 16 ≤ 140737488355328 by have := HL.out; have := HS.out; omega)
        go_wp2_with (at_builtin; refine Kd.R_append_row (α := ByteArray) Value.string ByteArray.empty (w0 := w) w.heap.size rfl (.tmp 41) (.tmp 45) 22 9 (.string ⟨#[]⟩) 16 rfl Tryd.underlying22 istr rfl (by decide) _ acc [(ba po).extract 0 v.toNat] (some ⟨w2.heap.size, 0, none⟩) 1 1 (fun _ => True) rfl rfl (fun _ _ => trivial) HRA.out HC1.out HBA.out HBA.out.size HAC.out ?_)
        intro v3 w3 r1' r2' r3' r4'
        have HR3 := Aside0.mk r1'
        have HB3 := Aside0.mk r2'
        have hpc : bl ((ba po).extract 0 v.toNat) = po.take v.toNat := by
          rw [show bl ((ba po).extract 0 v.toNat) = ((ba po).extract 0 v.toNat).data.toList from rfl, Lib.extract_eq]
          simp [ba]
        have hrs : bl ((ba po).extract v.toNat po.length) = po.drop v.toNat := by
          rw [show bl ((ba po).extract v.toNat po.length) = ((ba po).extract v.toNat po.length).data.toList from rfl, Lib.extract_eq]
          have e1 : (ba po).data.toList = po := by simp [ba]
          rw [e1]
          exact List.take_of_length_le (by rw [List.length_drop]; omega)
        have h1s : ((ba po).extract 0 v.toNat).size = v.toNat := by rw [← bl_length, hpc, List.length_take]; omega
        have h2s : ((ba po).extract v.toNat po.length).size = po.length - v.toNat := by rw [← bl_length, hrs, List.length_drop]
        have HSZ := Aside0.mk (And.intro h1s h2s)
        have HN2 := Aside0.mk (show ∃ m, ((ba po).extract v.toNat po.length).size + 1 ≤ m ∧ splG (a0.size + 1) (bl a0) = (splG m (bl ((ba po).extract v.toNat po.length))).map ((acc ++ [(ba po).extract 0 v.toNat]).map bl ++ ·) from by
          obtain ⟨m, hm⟩ : ∃ m, n = m + 1 := ⟨n - 1, by have := HN.out.1; omega⟩
          have hps := HPS.out (by trivial)
          refine ⟨m, by rw [h2s]; have := HN.out.1; omega, ?_⟩
          rw [HN.out.2, hm, splG, if_neg HNE.out, if_pos ⟨of_decide_eq_true HCI.out, by rw [HPR.out]; exact HOE.out, by rw [HPR.out, HVE.out]; exact HVP.out.1, by rw [HPR.out, HPO.out, HVE.out]; exact HVP.out.2⟩, HPR.out, HPO.out, HVE.out, Option.map_map, hrs]
          congr 1
          funext z
          simp [hpc])
        clear r1' r2' r3' r4' hpc hrs h1s h2s
        go_wp2
        go_roundw
        case rel =>
          obtain ⟨m, hm1, hm2⟩ := HN2.out
          refine ⟨acc ++ [(ba po).extract 0 v.toNat], (ba po).extract v.toNat po.length, m, ?_, HR3, ⟨hm1, hm2⟩, ⟨?_⟩, HB3⟩
          · first | rfl | simp
          · have h1 := HL.out
            have h2 := HPS.out (by trivial)
            have h3 := HSZ.out
            have h4 := HVP.out
            simp only [List.map_append, List.sum_append, List.map_cons, List.map_nil, List.sum_cons, List.sum_nil, List.length_append, List.length_cons, List.length_nil]
            omega
        case measure =>
          have h2 := HPS.out (by trivial)
          have h3 := HSZ.out
          simp only [sizeOfS]
          first | omega | (simp; omega)
      ·
        have hbad : splG n (bl rest) = none := by
          obtain ⟨m, rfl⟩ : ∃ m, n = m + 1 := ⟨n - 1, by have := HN.out.1; omega⟩
          rw [splG, if_neg HNE.out, if_neg (by intro hh; rw [HPR.out, HOE.out] at hh; exact absurd hh.2.1 (by simp))]
        have hsp : splR a0 = ([], 2) := by
          unfold splR
          rw [HN.out.2, hbad]
          rfl
        have HE : (([] : List ByteArray), (2 : Int)) = (r1, r2) := by rw [← hsp]; exact H.out
        simp only [Prod.mk.injEq] at HE
        obtain ⟨rfl, rfl⟩ := HE
        clear hbad hsp
        go_wp2
        go_ret2
        exact ⟨_, rfl, Kd.R_nil _ _ _ _ _, HB2.out⟩
end Go.Proofs.YtkjheoilidpckaaDoor.X
