/- Ours: the plain law of RowSplits: the reference finds the texts of one if there are any. -/
import Derived.Test.YtkjheoilidpckaaDoorHTexts
import Derived.Test.YtkjheoilidpckaaDoorX10
namespace Go.Proofs.YtkjheoilidpckaaDoor.X
open Go.RowKit Go.Proofs.YtkjheoilidpckaaDoorW.PrintWords Go.Proofs.YtkjheoilidpckaaDoor.Spec
set_option linter.unusedVariables false
set_option linter.unusedSimpArgs false

def dig (c : UInt8) : Prop := 48 ≤ c.toNat ∧ c.toNat ≤ 57
/-- the value of digits -/
def dv (l : List UInt8) : Nat := l.foldl (fun a c => a * 10 + (c.toNat - 48)) 0
theorem dv_snoc (l : List UInt8) (c : UInt8) : dv (l ++ [c]) = dv l * 10 + (c.toNat - 48) := by simp [dv]
theorem fold_ge (b : List UInt8) : ∀ a : Nat, a ≤ b.foldl (fun a c => a * 10 + (c.toNat - 48)) a := by
  induction b with
  | nil => intro a; exact Nat.le_refl _
  | cons c r ih => intro a; exact Nat.le_trans (show a ≤ a * 10 + (c.toNat - 48) by omega) (ih _)
theorem dv_prefix (a b : List UInt8) : dv a ≤ dv (a ++ b) := by
  unfold dv
  rw [List.foldl_append]
  exact fold_ge b _
theorem dv_dec (u : Nat) : dv (Lib.decDigits u) = u := by
  induction u using Nat.strongRecOn with
  | _ u ih =>
    have hd : ∀ d, d < 10 → (UInt8.ofNat (48 + d)).toNat = 48 + d := fun d hd => by rw [UInt8.toNat_ofNat']; omega
    rw [Lib.decDigits]
    split
    · rename_i h
      have := dv_snoc [] (UInt8.ofNat (48 + u))
      rw [hd u h] at this
      simp only [List.nil_append] at this
      rw [this]
      simp [dv]
    · rename_i h
      rw [dv_snoc, ih (u / 10) (by omega), hd (u % 10) (by omega)]
      omega
theorem dec_head (u : Nat) : 10 ≤ u → ∃ c r, Lib.decDigits u = c :: r ∧ c.toNat ≠ 48 := by
  induction u using Nat.strongRecOn with
  | _ u ih =>
    intro h
    rw [Lib.decDigits, dif_neg (by omega)]
    by_cases h2 : u / 10 < 10
    · rw [Lib.decDigits, dif_pos h2]
      exact ⟨_, _, rfl, by rw [UInt8.toNat_ofNat']; omega⟩
    · obtain ⟨c, r, e, hc⟩ := ih (u / 10) (by omega) (by omega)
      exact ⟨c, r ++ [_], by rw [e]; rfl, hc⟩
theorem dec_short (u : Nat) (h : u < 10) : (Lib.decDigits u).length = 1 := by rw [Lib.decDigits, dif_pos h]; rfl
theorem dv_pos (l : List UInt8) (c : UInt8) (h : 48 < c.toNat) : 1 ≤ dv (c :: l) := by
  have := dv_prefix [c] l
  have h2 : dv [c] = c.toNat - 48 := by simp [dv]
  simp only [List.singleton_append] at this
  omega
theorem canon : ∀ (n : Nat) (l : List UInt8), l.length = n → l ≠ [] → (∀ c ∈ l, dig c) → (∀ c r, l = c :: r → r ≠ [] → c.toNat ≠ 48) → Lib.decDigits (dv l) = l := by
  intro n
  induction n with
  | zero => intro l hl h; exact absurd (List.eq_nil_of_length_eq_zero hl) h
  | succ n ih =>
    intro l hl hne hd hz
    have e := List.dropLast_concat_getLast hne
    obtain ⟨a, ha⟩ : ∃ a, l.dropLast = a := ⟨_, rfl⟩
    obtain ⟨c, hc⟩ : ∃ c, l.getLast hne = c := ⟨_, rfl⟩
    rw [ha, hc] at e
    clear ha hc
    subst e
    have hdc : dig c := hd c (by simp)
    have hcr : UInt8.ofNat (48 + (c.toNat - 48)) = c := by
      rw [show 48 + (c.toNat - 48) = c.toNat from by have := hdc.1; omega]
      simp
    rw [dv_snoc]
    have h9 : c.toNat - 48 < 10 := by have := hdc.2; omega
    by_cases h0 : a = []
    · subst h0
      have : dv [] * 10 + (c.toNat - 48) = c.toNat - 48 := by simp [dv]
      rw [this, Lib.decDigits, dif_pos h9, hcr]
      rfl
    · obtain ⟨b, r, rfl⟩ := List.exists_cons_of_ne_nil h0
      have hb48 : b.toNat ≠ 48 := hz b (r ++ [c]) rfl (by simp)
      have hbd : dig b := hd b (by simp)
      have hp := dv_pos r b (by have := hbd.1; omega)
      rw [Lib.decDigits, dif_neg (by omega), show (dv (b :: r) * 10 + (c.toNat - 48)) / 10 = dv (b :: r) from by omega,
        show (dv (b :: r) * 10 + (c.toNat - 48)) % 10 = c.toNat - 48 from by omega, hcr,
        ih (b :: r) (by simp at hl ⊢; omega) (by simp) (fun x hx => hd x (by
          rcases List.mem_cons.1 hx with rfl | hx
          · simp
          · simp [hx])) (fun x t ht hne => hz x (t ++ [c]) (by rw [ht]; rfl) (by simp))]

/-- what comes behind the digits -/
def tailS (k : Nat) (x0 : ByteArray) (x4 : List ByteArray) (x5 x6 x7 : Int) : Option (List ByteArray × Bool) :=
  (if x7 = x5 then (some (([] : List ByteArray), false)) else (if x7 ≥ (x0.size : Int) then (some (([] : List ByteArray), false)) else (if (bt x0 x7) = 58 then (if (wrap64 (x7 - x5)) > 1 then (if 0 ≤ x5 then (if x5 < (x0.size : Int) then (if (bt x0 x5) = 48 then (some (([] : List ByteArray), false)) else (if x6 > (wrap64 ((wrap64 ((x0.size : Int) - x7)) - 1)) then (some (([] : List ByteArray), false)) else (if 0 ≤ (wrap64 (x7 + 1)) then (if (wrap64 (x7 + 1)) ≤ (wrap64 ((wrap64 (x7 + 1)) + x6)) then (if (wrap64 ((wrap64 (x7 + 1)) + x6)) ≤ (x0.size : Int) then (if x4.length < 8796093022208 then (exequaturref13_Split.l0 k x0 (x4 ++ [x0.extract ((wrap64 (x7 + 1)) : Int).toNat ((wrap64 ((wrap64 (x7 + 1)) + x6)) : Int).toNat]) (wrap64 ((wrap64 (x7 + 1)) + x6))) else (none)) else (none)) else (none)) else (none)))) else (none)) else (none)) else (if x6 > (wrap64 ((wrap64 ((x0.size : Int) - x7)) - 1)) then (some (([] : List ByteArray), false)) else (if 0 ≤ (wrap64 (x7 + 1)) then (if (wrap64 (x7 + 1)) ≤ (wrap64 ((wrap64 (x7 + 1)) + x6)) then (if (wrap64 ((wrap64 (x7 + 1)) + x6)) ≤ (x0.size : Int) then (if x4.length < 8796093022208 then (exequaturref13_Split.l0 k x0 (x4 ++ [x0.extract ((wrap64 (x7 + 1)) : Int).toNat ((wrap64 ((wrap64 (x7 + 1)) + x6)) : Int).toNat]) (wrap64 ((wrap64 (x7 + 1)) + x6))) else (none)) else (none)) else (none)) else (none)))) else (some (([] : List ByteArray), false)))))

/-- the digits from i to k -/
def dsn (s : ByteArray) (i k : Nat) : List UInt8 := ((bl s).drop i).take (k - i)
theorem dsn_snoc (s : ByteArray) (i k : Nat) (hi : i ≤ k) (hk : k < (bl s).length) : dsn s i (k + 1) = dsn s i k ++ [(bl s)[k]] := by
  unfold dsn
  rw [show k + 1 - i = (k - i) + 1 from by omega, List.take_succ_eq_append_getElem (by rw [List.length_drop]; omega), List.getElem_drop]
  congr 2
  congr 1
  omega
def Stop (s : ByteArray) (i k : Nat) : Prop := (∀ c ∈ dsn s i k, dig c) ∧ i ≤ k ∧ k ≤ s.size ∧ dv (dsn s i k) < 10995116277770 ∧ (∀ h : k < (bl s).length, dig (bl s)[k] → 1099511627776 ≤ dv (dsn s i k))
theorem w64_nat (n : Nat) (h : n ≤ 4611686018427387904) : wrap64 (n : Int) = (n : Int) := w64 (by omega) (by omega)
set_option maxHeartbeats 1000000 in
theorem tail_cases (s : ByteArray) (hs : s.size ≤ 3000) (acc : List ByteArray) (ha : acc.length ≤ 3000) (i k : Nat) (P : List ByteArray × Bool → Prop) (hst : Stop s i k)
    (hbad : (k = i ∨ s.size ≤ k ∨ (∃ h : k < (bl s).length, (bl s)[k].toNat ≠ 58) ∨ (1 < k - i ∧ ∃ h : i < (bl s).length, (bl s)[i].toNat = 48) ∨ s.size < k + 1 + dv (dsn s i k)) → P ([], false))
    (hgood : i < k → ∀ h : k < (bl s).length, (bl s)[k].toNat = 58 → (1 < k - i → ∀ h : i < (bl s).length, (bl s)[i].toNat ≠ 48) → k + 1 + dv (dsn s i k) ≤ s.size →
      ∃ res, Ev (fun q => exequaturref13_Split.l0 q s (acc ++ [s.extract (k + 1) (k + 1 + dv (dsn s i k))]) ((k + 1 + dv (dsn s i k) : Nat) : Int)) res ∧ P res) :
    k < s.size → ∃ res, Ev (fun q => tailS q s acc (i : Int) (dv (dsn s i k) : Int) (k : Int)) res ∧ P res := by
  intro hk
  obtain ⟨h1, h2, h3, h4, h5⟩ := hst
  obtain ⟨v, hv⟩ : ∃ v, dv (dsn s i k) = v := ⟨_, rfl⟩
  rw [hv] at hbad hgood h4 h5 ⊢
  clear h1 h5 hv
  have hkl : k < (bl s).length := by rw [bl_length]; exact hk
  unfold tailS
  by_cases c1 : k = i
  · refine ⟨_, ?_, hbad (.inl c1)⟩
    refine Ev.if_pos (by omega) ?_
    exact Ev.some _
  have hil : i < (bl s).length := by rw [bl_length]; omega
  have hbk := bt_get s k hk
  have hbi := bt_get s i (by omega)
  by_cases c2 : (bl s)[k].toNat = 58
  case neg => exact ⟨_, Ev.if_neg (by omega) (Ev.if_neg (by omega) (Ev.if_neg (by rw [hbk]; omega) (Ev.some _))), hbad (.inr (.inr (.inl ⟨hkl, c2⟩)))⟩
  obtain ⟨e1, e2, e3, e4⟩ : wrap64 ((k : Int) - i) = (k : Int) - i ∧ wrap64 (wrap64 ((s.size : Int) - k) - 1) = (s.size : Int) - k - 1 ∧ wrap64 ((k : Int) + 1) = ((k + 1 : Nat) : Int) ∧ wrap64 (((k + 1 : Nat) : Int) + (v : Int)) = ((k + 1 + v : Nat) : Int) := by
    refine ⟨w64 (by omega) (by omega), ?_, ?_, ?_⟩
    · rw [w64 (n := (s.size : Int) - k) (by omega) (by omega)]
      exact w64 (by omega) (by omega)
    · exact w64_nat (k + 1) (by omega)
    · exact w64_nat (k + 1 + v) (by omega)
  rw [e1, e2, e3, e4]
  clear e1 e2 e3 e4
  have rest : (1 < k - i → ∀ h : i < (bl s).length, (bl s)[i].toNat ≠ 48) → ∃ res, Ev (fun q => (if (v : Int) > ((s.size : Int) - k - 1) then (some (([] : List ByteArray), false)) else (if 0 ≤ ((k + 1 : Nat) : Int) then (if ((k + 1 : Nat) : Int) ≤ ((k + 1 + v : Nat) : Int) then (if ((k + 1 + v : Nat) : Int) ≤ (s.size : Int) then (if acc.length < 8796093022208 then (exequaturref13_Split.l0 q s (acc ++ [s.extract (((k + 1 : Nat) : Int)).toNat (((k + 1 + v : Nat) : Int)).toNat]) (((k + 1 + v : Nat) : Int))) else (none)) else (none)) else (none)) else (none)))) res ∧ P res := by
    intro hz
    by_cases c3 : s.size < k + 1 + v
    · refine ⟨_, ?_, hbad (.inr (.inr (.inr (.inr c3))))⟩
      refine Ev.if_pos (by omega) ?_
      exact Ev.some _
    · obtain ⟨res, hr, hp⟩ := hgood (by omega) hkl c2 hz (by omega)
      refine ⟨res, ?_, hp⟩
      refine Ev.if_neg (by omega) ?_
      refine Ev.if_pos (by omega) ?_
      refine Ev.if_pos (by omega) ?_
      refine Ev.if_pos (by omega) ?_
      refine Ev.if_pos (by omega) ?_
      simp only [Int.toNat_natCast]
      exact hr
  by_cases c4 : 1 < k - i
  · by_cases c5 : (bl s)[i].toNat = 48
    · refine ⟨_, ?_, hbad (.inr (.inr (.inr (.inl ⟨c4, hil, c5⟩))))⟩
      refine Ev.if_neg (by omega) ?_
      refine Ev.if_neg (by omega) ?_
      refine Ev.if_pos (by rw [hbk]; omega) ?_
      refine Ev.if_pos (by omega) ?_
      refine Ev.if_pos (by omega) ?_
      refine Ev.if_pos (by omega) ?_
      refine Ev.if_pos (by rw [hbi]; omega) ?_
      exact Ev.some _
    · obtain ⟨res, hr, hp⟩ := rest (fun _ _ => c5)
      refine ⟨res, ?_, hp⟩
      refine Ev.if_neg (by omega) ?_
      refine Ev.if_neg (by omega) ?_
      refine Ev.if_pos (by rw [hbk]; omega) ?_
      refine Ev.if_pos (by omega) ?_
      refine Ev.if_pos (by omega) ?_
      refine Ev.if_pos (by omega) ?_
      refine Ev.if_neg (by rw [hbi]; omega) ?_
      exact hr
  · obtain ⟨res, hr, hp⟩ := rest (fun h => absurd h c4)
    refine ⟨res, ?_, hp⟩
    refine Ev.if_neg (by omega) ?_
    refine Ev.if_neg (by omega) ?_
    refine Ev.if_pos (by rw [hbk]; omega) ?_
    refine Ev.if_neg (by omega) ?_
    exact hr

set_option maxHeartbeats 1000000 in
theorem scan (s : ByteArray) (hs : s.size ≤ 3000) (acc : List ByteArray) (ha : acc.length ≤ 3000) (i : Nat) (P : List ByteArray × Bool → Prop)
    (hbad : ∀ k, Stop s i k → (k = i ∨ s.size ≤ k ∨ (∃ h : k < (bl s).length, (bl s)[k].toNat ≠ 58) ∨ (1 < k - i ∧ ∃ h : i < (bl s).length, (bl s)[i].toNat = 48) ∨ s.size < k + 1 + dv (dsn s i k)) → P ([], false))
    (hgood : ∀ k, Stop s i k → i < k → ∀ h : k < (bl s).length, (bl s)[k].toNat = 58 → (1 < k - i → ∀ h : i < (bl s).length, (bl s)[i].toNat ≠ 48) → k + 1 + dv (dsn s i k) ≤ s.size →
      ∃ res, Ev (fun q => exequaturref13_Split.l0 q s (acc ++ [s.extract (k + 1) (k + 1 + dv (dsn s i k))]) ((k + 1 + dv (dsn s i k) : Nat) : Int)) res ∧ P res) :
    ∀ (d k : Nat), k + d = s.size → i ≤ k → (∀ c ∈ dsn s i k, dig c) → dv (dsn s i k) < 10995116277770 → ∃ res, Ev (fun q => exequaturref13_Split.l1 q s acc (i : Int) (dv (dsn s i k) : Int) (k : Int)) res ∧ P res := by
  intro d
  induction d with
  | zero =>
    intro k hk hik hdig hv
    have hst : Stop s i k := ⟨hdig, hik, by omega, hv, fun h => absurd h (by rw [bl_length]; omega)⟩
    refine ⟨_, ?_, hbad k hst (.inr (.inl (by omega)))⟩
    refine Ev.step (fun q => by rw [exequaturref13_Split.l1]) ?_
    refine Ev.if_neg (by omega) ?_
    by_cases c1 : k = i
    · exact Ev.if_pos (by omega) (Ev.some _)
    · exact Ev.if_neg (by omega) (Ev.if_pos (by omega) (Ev.some _))
  | succ d ih =>
    intro k hk hik hdig hv
    have hkl : k < (bl s).length := by rw [bl_length]; omega
    have hbk := bt_get s k (by omega)
    have stop : Stop s i k → ∃ res, Ev (fun q => tailS q s acc (i : Int) (dv (dsn s i k) : Int) (k : Int)) res ∧ P res := fun hst =>
      tail_cases s hs acc ha i k P hst (hbad k hst) (hgood k hst) (by omega)
    by_cases c1 : 48 ≤ (bl s)[k].toNat
    case neg =>
      obtain ⟨res, hr, hp⟩ := stop ⟨hdig, hik, by omega, hv, fun h hd => absurd hd.1 c1⟩
      refine ⟨res, ?_, hp⟩
      refine Ev.step (fun q => by rw [exequaturref13_Split.l1]) ?_
      refine Ev.if_pos (by omega) ?_
      refine Ev.if_pos (by omega) ?_
      refine Ev.if_neg (by rw [hbk]; omega) ?_
      exact hr
    by_cases c2 : (bl s)[k].toNat ≤ 57
    case neg =>
      obtain ⟨res, hr, hp⟩ := stop ⟨hdig, hik, by omega, hv, fun h hd => absurd hd.2 c2⟩
      refine ⟨res, ?_, hp⟩
      refine Ev.step (fun q => by rw [exequaturref13_Split.l1]) ?_
      refine Ev.if_pos (by omega) ?_
      refine Ev.if_pos (by omega) ?_
      refine Ev.if_pos (by rw [hbk]; omega) ?_
      refine Ev.if_neg (by rw [hbk]; omega) ?_
      exact hr
    by_cases c3 : dv (dsn s i k) < 1099511627776
    case neg =>
      obtain ⟨res, hr, hp⟩ := stop ⟨hdig, hik, by omega, hv, fun h hd => by omega⟩
      refine ⟨res, ?_, hp⟩
      refine Ev.step (fun q => by rw [exequaturref13_Split.l1]) ?_
      refine Ev.if_pos (by omega) ?_
      refine Ev.if_pos (by omega) ?_
      refine Ev.if_pos (by rw [hbk]; omega) ?_
      refine Ev.if_pos (by rw [hbk]; omega) ?_
      refine Ev.if_neg (by omega) ?_
      exact hr
    have hsn := dsn_snoc s i k hik hkl
    have hvn : dv (dsn s i (k + 1)) = dv (dsn s i k) * 10 + ((bl s)[k].toNat - 48) := by rw [hsn, dv_snoc]
    obtain ⟨res, hr, hp⟩ := ih (k + 1) (by omega) (by omega) (fun c hc => by
      rw [hsn] at hc
      rcases List.mem_append.1 hc with hc | hc
      · exact hdig c hc
      · rw [List.mem_singleton.1 hc]; exact ⟨c1, c2⟩) (by rw [hvn]; omega)
    refine ⟨res, ?_, hp⟩
    refine Ev.step (fun q => by rw [exequaturref13_Split.l1]) ?_
    refine Ev.if_pos (by omega) ?_
    refine Ev.if_pos (by omega) ?_
    refine Ev.if_pos (by rw [hbk]; omega) ?_
    refine Ev.if_pos (by rw [hbk]; omega) ?_
    refine Ev.if_pos (by omega) ?_
    have e1 : wrap64 (wrap64 ((dv (dsn s i k) : Int) * 10) + (bt s (k : Int) - 48) % 256) = (dv (dsn s i (k + 1)) : Int) := by
      rw [hbk, hvn, w64 (n := (dv (dsn s i k) : Int) * 10) (by omega) (by omega), w64 (by omega) (by omega)]
      omega
    rw [e1, w64 (n := (k : Int) + 1) (by omega) (by omega)]
    exact hr

theorem scan_tx (s : ByteArray) (i k : Nat) (hs : s.size ≤ 3000) (hst : Stop s i k) (x : ByteArray) (r : List ByteArray) (h : txL (x :: r) = (bl s).drop i) :
    dsn s i k = Lib.decDigits x.size ∧ i < k ∧ (∃ h : k < (bl s).length, (bl s)[k].toNat = 58) ∧ k + 1 + x.size ≤ s.size := by
  obtain ⟨h1, h2, h3, h4, h5⟩ := hst
  rw [show txL (x :: r) = tx1 x ++ txL r from rfl, tx1_form, itoa_nat] at h
  have hdd := dec_digits x.size
  have hdv := dv_dec x.size
  have hne := dec_ne x.size
  obtain ⟨ds, hds⟩ : ∃ ds, Lib.decDigits x.size = ds := ⟨_, rfl⟩
  rw [hds] at h hdd hdv hne ⊢
  have hlen := congrArg List.length h
  rw [List.length_append, List.length_cons, List.length_append, List.length_drop, bl_length, bl_length] at hlen
  have hpos : 0 < ds.length := List.length_pos_iff.2 hne
  have hget : ∀ j (hj : j < ds.length) (hk : i + j < (bl s).length), (bl s)[i + j] = ds[j] := by
    intro j hj hk
    have e := congrArg (fun l : List UInt8 => l[j]?) h
    simp only [List.getElem?_drop] at e
    rw [List.getElem?_append_left hj, List.getElem?_eq_getElem hj, List.getElem?_eq_getElem hk] at e
    exact (Option.some.inj e).symm
  have hget58 : ∀ (hk : i + ds.length < (bl s).length), (bl s)[i + ds.length] = 58 := by
    intro hk
    have e := congrArg (fun l : List UInt8 => l[ds.length]?) h
    simp only [List.getElem?_drop] at e
    rw [List.getElem?_append_right (Nat.le_refl _), List.getElem?_eq_getElem hk] at e
    simp only [Nat.sub_self, List.getElem?_cons_zero] at e
    exact (Option.some.inj e).symm
  have htake : ∀ j, j ≤ ds.length → ((bl s).drop i).take j = ds.take j := by
    intro j hj
    rw [← h, List.take_append_of_le_length hj]
  have hbl := bl_length s
  have hkm : k - i = ds.length := by
    rcases Nat.lt_trichotomy (k - i) ds.length with hlt | heq | hgt
    · exfalso
      have hk : k < (bl s).length := by omega
      have e1 := hget (k - i) hlt (by omega)
      have e2 : (bl s)[k] = (bl s)[i + (k - i)]'(by omega) := by congr 1; omega
      have hd : dig (bl s)[k] := by
        rw [e2, e1]
        exact hdd _ (List.getElem_mem hlt)
      have h6 := h5 hk hd
      have e3 : dsn s i k = ds.take (k - i) := htake (k - i) (by omega)
      have h7 := dv_prefix (ds.take (k - i)) (ds.drop (k - i))
      rw [List.take_append_drop, hdv, ← e3] at h7
      omega
    · exact heq
    · exfalso
      have hk : i + ds.length < (bl s).length := by omega
      have h8 : (58 : UInt8) ∈ dsn s i k := by
        have hj : ds.length < (dsn s i k).length := by
          unfold dsn
          rw [List.length_take, List.length_drop]
          omega
        have : (dsn s i k)[ds.length] = 58 := by
          have e0 : (dsn s i k)[ds.length]? = some 58 := by
            unfold dsn
            rw [List.getElem?_take, if_pos hgt, List.getElem?_drop, List.getElem?_eq_getElem hk, hget58 hk]
          rw [List.getElem?_eq_getElem hj] at e0
          exact Option.some.inj e0
        rw [← this]
        exact List.getElem_mem hj
      have := (h1 _ h8).2
      simp at this
  refine ⟨?_, by omega, ⟨by omega, ?_⟩, by omega⟩
  · have := htake (k - i) (by omega)
    unfold dsn
    rw [this, hkm, List.take_length]
  · have hk : i + ds.length < (bl s).length := by omega
    have e2 : (bl s)[k]'(by omega) = (bl s)[i + ds.length]'hk := by congr 1; omega
    rw [e2, hget58 hk]
    rfl

theorem drop_at (s : ByteArray) (i k : Nat) (hi : i ≤ k) (h : k < (bl s).length) : (bl s).drop i = dsn s i k ++ (bl s)[k] :: (bl s).drop (k + 1) := by
  have e := (List.take_append_drop (k - i) ((bl s).drop i)).symm
  rw [List.drop_drop, show i + (k - i) = k from by omega, List.drop_eq_getElem_cons h] at e
  exact e
theorem ref_split_from (s : ByteArray) (hs : s.size ≤ 3000) : ∀ (d i : Nat) (acc : List ByteArray), i + d = s.size → acc.length + d ≤ 3000 →
    ∃ res, Ev (fun q => exequaturref13_Split.l0 q s acc (i : Int)) res ∧ ((∃ l, txL l = (bl s).drop i ∧ res = (acc ++ l, true)) ∨ (res = ([], false) ∧ ∀ l, txL l ≠ (bl s).drop i)) := by
  intro d
  induction d using Nat.strongRecOn with
  | _ d ih =>
    intro i acc hi ha
    have hbl := bl_length s
    by_cases hd0 : d = 0
    · subst hd0
      refine ⟨(acc, true), ?_, .inl ⟨[], ?_, by simp⟩⟩
      · refine Ev.step (fun q => by rw [exequaturref13_Split.l0]) ?_
        refine Ev.if_neg (by omega) ?_
        exact Ev.some _
      · rw [List.drop_of_length_le (by omega)]
        rfl
    · have hD : (bl s).drop i ≠ [] := by
        intro e
        have := congrArg List.length e
        rw [List.length_drop] at this
        simp at this
        omega
      obtain ⟨res, hr, hp⟩ := scan s hs acc (by omega) i (fun res => (∃ l, txL l = (bl s).drop i ∧ res = (acc ++ l, true)) ∨ (res = ([], false) ∧ ∀ l, txL l ≠ (bl s).drop i))
        (fun k hst hbad => by
          refine .inr ⟨rfl, fun l hl => ?_⟩
          cases l with
          | nil => exact hD hl.symm
          | cons x r =>
            obtain ⟨e1, e2, ⟨e3, e4⟩, e5⟩ := scan_tx s i k hs hst x r hl
            rw [e1, dv_dec] at hbad
            rcases hbad with h | h | ⟨h, h'⟩ | ⟨h, h', h''⟩ | h
            · omega
            · omega
            · exact h' e4
            · have hlen : (Lib.decDigits x.size).length = k - i := by
                rw [← e1]
                unfold dsn
                rw [List.length_take, List.length_drop]
                omega
              have hx : 10 ≤ x.size := by
                by_cases hx : x.size < 10
                · rw [dec_short x.size hx] at hlen; omega
                · omega
              obtain ⟨c, t, he, hc⟩ := dec_head x.size hx
              have hdr := drop_at s i k (by omega) e3
              rw [e1, he, List.drop_eq_getElem_cons h'] at hdr
              have := (List.cons.inj hdr).1
              rw [this] at h''
              exact hc h''
            · omega)
        (fun k hst hik hk h58 hz hle => by
          obtain ⟨v, hv⟩ : ∃ v, dv (dsn s i k) = v := ⟨_, rfl⟩
          have hdr := drop_at s i k (by omega) hk
          have hc : Lib.decDigits v = dsn s i k := by
            rw [← hv]
            refine canon _ (dsn s i k) rfl ?_ hst.1 ?_
            · intro e
              have := congrArg List.length e
              unfold dsn at this
              rw [List.length_take, List.length_drop] at this
              simp at this
              omega
            · intro c r he hr
              have h2 : 1 < k - i := by
                have := congrArg List.length he
                unfold dsn at this
                rw [List.length_take, List.length_drop, List.length_cons] at this
                have := List.length_pos_iff.2 hr
                omega
              have h3 := hz h2 (by omega)
              rw [he, List.drop_eq_getElem_cons (show i < (bl s).length by omega)] at hdr
              have := (List.cons.inj hdr).1
              rw [this] at h3
              exact h3
          have h58' : (bl s)[k] = 58 := UInt8.toNat_inj.1 h58
          rw [hv] at hle ⊢
          rw [h58', ← hc] at hdr
          obtain ⟨p, hpp⟩ : ∃ p, s.extract (k + 1) (k + 1 + v) = p := ⟨_, rfl⟩
          have hpb : bl p = ((bl s).drop (k + 1)).take v := by
            rw [← hpp, show bl (s.extract (k + 1) (k + 1 + v)) = (s.extract (k + 1) (k + 1 + v)).data.toList from rfl, Lib.extract_eq]
            rw [show k + 1 + v - (k + 1) = v from by omega]
            rfl
          have hps : p.size = v := by
            rw [← bl_length, hpb, List.length_take, List.length_drop]
            omega
          have hsplit : (bl s).drop (k + 1) = bl p ++ (bl s).drop (k + 1 + v) := by
            have e0 := (List.take_append_drop v ((bl s).drop (k + 1))).symm
            rw [List.drop_drop] at e0
            rw [hpb]
            exact e0
          rw [hpp]
          rw [hsplit] at hdr
          have hIt : Lib.decDigits v = Lib.itoa (p.size : Int) := by rw [hps, itoa_nat]
          have hlk : (dsn s i k).length = k - i := by
            unfold dsn
            rw [List.length_take, List.length_drop]
            omega
          obtain ⟨res, hr, hp⟩ := ih (s.size - (k + 1 + v)) (by omega) (k + 1 + v) (acc ++ [p]) (by omega) (by rw [List.length_append, List.length_singleton]; omega)
          refine ⟨res, hr, ?_⟩
          rcases hp with ⟨l, hl, rfl⟩ | ⟨rfl, hno⟩
          · refine .inl ⟨p :: l, ?_, by simp⟩
            rw [hdr, ← hl, hIt, ← tx1_form]
            rfl
          · refine .inr ⟨rfl, fun l hl => ?_⟩
            cases l with
            | nil => exact hD hl.symm
            | cons x r =>
              obtain ⟨e1, e2, e3, e5⟩ := scan_tx s i k hs hst x r hl
              have hxv : x.size = v := by rw [← hv, e1, dv_dec]
              have e6 : tx1 x ++ txL r = Lib.decDigits v ++ 58 :: (bl p ++ (bl s).drop (k + 1 + v)) := hl.trans hdr
              rw [tx1_form, hxv, itoa_nat] at e6
              have e7 := (List.append_inj e6 rfl).2
              have e8 := (List.cons.inj e7).2
              have e9 := (List.append_inj e8 (by rw [bl_length, bl_length, hxv, hps])).2
              exact hno r e9)
        d i hi (Nat.le_refl _) (fun c hc => by simp [dsn] at hc) (by simp [dsn, dv])
      have h0 : dv (dsn s i i) = 0 := by simp [dsn, dv]
      rw [h0] at hr
      refine ⟨res, ?_, hp⟩
      refine Ev.step (fun q => by rw [exequaturref13_Split.l0]) ?_
      refine Ev.if_pos (by omega) ?_
      exact hr
theorem ref_split (s : ByteArray) (hs : s.size ≤ 3000) : ∃ res, Ev (fun q => exequaturref13_Split.f q s) res ∧ ((∃ l, txL l = bl s ∧ res = (l, true)) ∨ (res = ([], false) ∧ ∀ l, txL l ≠ bl s)) := by
  obtain ⟨res, h1, h2⟩ := ref_split_from s hs s.size 0 [] (by omega) (by simp; omega)
  simp only [List.drop_zero, List.nil_append] at h2
  exact ⟨res, h1, h2⟩
theorem splR_no (s : ByteArray) (h : ∀ l, txL l ≠ bl s) : splR s = ([], 2) := by
  unfold splR
  split
  · rw [if_neg (h _)]
  · rfl
theorem tx_mem (l : List ByteArray) : ∀ x ∈ l, x.size ≤ (txL l).length := by
  induction l with
  | nil => intro x hx; cases hx
  | cons y r ih =>
    intro x hx
    simp only [txL, tx1, List.length_append, List.length_cons, bl_length]
    rcases List.mem_cons.1 hx with rfl | hx
    · omega
    · have := ih x hx; omega
end Go.Proofs.YtkjheoilidpckaaDoor.X
