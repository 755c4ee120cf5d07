/- json.unlike: are keys unlike? -/
import Derived.Test.YtifejhbochkifaaGreatDoorHSeq
import Derived.Sort.OwnSorted
import Derived.Lib.SlicesCompact
namespace Go.Proofs.YtifejhbochkifaaGreatDoor.X
open Go.RowKit Go.Sort Go.Proofs.YtifejhbochkifaaGreatDoorW.PrintWords Go.Proofs.YtifejhbochkifaaGreatDoorW.PrintLast Go.Proofs.YtifejhbochkifaaGreatDoorW.PrintMore Go.Proofs.YtifejhbochkifaaGreatDoor.Spec
set_option linter.unusedVariables false
set_option linter.unusedSimpArgs false
/-! ### plain: a sorted list, compacted, is as long as it was just if nothing is in it twice -/
theorem filter_range_len (p : Nat → Bool) : ∀ n, ((List.range n).filter p).length ≤ n ∧ (((List.range n).filter p).length = n ↔ ∀ j, j < n → p j = true) := by
 intro n
 induction n with
 | zero => simp
 | succ n ih =>
  rw [List.range_succ, List.filter_append, List.length_append]
  obtain ⟨h1, h2⟩ := ih
  cases hp : p n with
  | true =>
   simp only [List.filter_cons, hp, if_true, List.filter_nil, List.length_cons, List.length_nil]
   refine ⟨by omega, ⟨fun h j hj => ?_, fun h => ?_⟩⟩
   ·rcases Nat.lt_or_ge j n with hj' | hj'
    ·exact (h2.1 (by omega)) j hj'
    ·rw [show j = n by omega]; exact hp
   ·have := h2.2 (fun j hj => h j (by omega))
    omega
  | false =>
   simp only [List.filter_cons, hp, List.filter_nil, List.length_nil, Bool.false_eq_true, if_false]
   refine ⟨by omega, ⟨fun h => by omega, fun h => ?_⟩⟩
   have := h n (by omega)
   rw [hp] at this; cases this
theorem compact_nodup (zs : List (List UInt8)) (hs : zs.Pairwise (fun a b => a ≤ b)) : (Lib.compact zs).length = zs.length ↔ zs.Nodup := by
 unfold Lib.compact Lib.compactUpTo
 rw [List.length_map, (filter_range_len _ _).2]
 have hg : ∀ j, ∀ h : j < zs.length, zs.toArray[j]! = zs[j] := fun j h => by simp [h]
 constructor
 ·intro hk
  rw [List.nodup_iff_pairwise_ne, List.pairwise_iff_getElem]
  intro i j hi hj hij he
  have hk1 := hk (i + 1) (by omega)
  have hne : zs[i + 1]'(by omega) ≠ zs[i] := by
   unfold Lib.keeps at hk1
   simp only [Bool.or_eq_true, decide_eq_true_eq, Nat.add_sub_cancel, bne_iff_ne, ne_eq] at hk1
   rcases hk1 with h | h
   ·simp at h
   ·rw [hg (i + 1) (by omega), hg i hi] at h; exact h
  rw [List.pairwise_iff_getElem] at hs
  have h1 := hs i (i + 1) hi (by omega) (by omega)
  rcases Nat.lt_or_ge (i + 1) j with h | h
  ·have h2 := hs (i + 1) j (by omega) hj h
   rw [← he] at h2
   exact hne (List.le_antisymm h2 h1)
  ·have : j = i + 1 := by omega
   subst this
   exact hne he.symm
 ·intro hn j hj
  unfold Lib.keeps
  rcases Nat.eq_zero_or_pos j with h0 | h0
  ·subst h0; simp
  ·have : zs.toArray[j]! ≠ zs.toArray[j - 1]! := by
    rw [hg j hj, hg (j - 1) (by omega)]
    intro e
    rw [List.nodup_iff_pairwise_ne, List.pairwise_iff_getElem] at hn
    exact hn (j - 1) j (by omega) hj (by omega) e.symm
   simp only [Bool.or_eq_true, decide_eq_true_eq, bne_iff_ne, ne_eq]
   exact Or.inr this
theorem nodup_bl (l : List ByteArray) : (l.map bl).Nodup ↔ l.Nodup := by
 induction l with
 | nil => simp
 | cons x r ih =>
  rw [List.map_cons, List.nodup_cons, List.nodup_cons, ih]
  have : bl x ∈ r.map bl ↔ x ∈ r := by
   rw [List.mem_map]
   exact ⟨fun ⟨y, hy, e⟩ => bl_inj e ▸ hy, fun h => ⟨x, h, rfl⟩⟩
  rw [this]
theorem sorted_nodup (l : List ByteArray) : (Lib.compact ((l.map bl).mergeSort fun x y => decide (x ≤ y))).length = l.length ↔ l.Nodup := by
 have hp := List.mergeSort_perm (l.map bl) (fun x y => decide (x ≤ y))
 have hs : ((l.map bl).mergeSort fun x y => decide (x ≤ y)).Pairwise (fun a b => a ≤ b) := by
  have := List.pairwise_mergeSort (le := fun x y : List UInt8 => decide (x ≤ y)) (fun a b c h1 h2 => by simp only [decide_eq_true_eq] at *; exact List.le_trans h1 h2) (fun a b => by simp only [Bool.or_eq_true, decide_eq_true_eq]; exact List.le_total a b) (l.map bl)
  exact this.imp (fun h => by simpa using h)
 have h := compact_nodup _ hs
 rw [hp.length_eq, List.length_map] at h
 rw [h, hp.nodup_iff, nodup_bl]

/-! ### the walks -/
theorem below_put {B : Nat} {w0 w : World} (h : Below B w0 w) {g : Nat} (hg : B ≤ g) (n : Nat) (d : Array (List UInt8)) : Below B w0 (putRow encStr (Sort.ahead w n) g 0 d) := by
 have h2 : w.grownBy (putRow encStr (Sort.ahead w n) g 0 d) (some g) := by
  refine ⟨rfl, rfl, rfl, by simp [putRow, mapBlock, Sort.ahead], fun k hk hne => ?_⟩
  have : g ≠ k := fun e => hne (by rw [e])
  simp [putRow, mapBlock, Sort.ahead, Array.getElem?_modify, this]
 refine ⟨h2.os.trans h.os, h2.tape.trans h.tape, h2.output.trans h.output, Nat.le_trans h.size h2.size, fun i hi => ?_⟩
 have : i ≠ g := by omega
 rw [← h.block i hi]
 simp [putRow, mapBlock, Sort.ahead, Array.getElem?_modify, Ne.symm this]
theorem map_enc (l : List ByteArray) : (l.map bl).map encStr = l.map Value.string := by
 rw [List.map_map]
 apply List.map_congr_left
 intro x _
 simp [encStr, bl]
theorem values_calls (A0 : Option Addr) (n c : Nat) (w : World) : Calls Tryz.prog 67 #[.slice A0 n c] w fun e w' => e = .returned (.func (.func 87) #[] #[.pointer (some ⟨w.heap.size, 0, none⟩)]) ∧ w' = w.alloc (.cells #[.slice A0 n c] 23) := by
 go_enter Tryz.func67, Tryz.ntmps67
 go_wp2
 go_ret
 exact ⟨rfl, rfl⟩
def SrtOut (W1 : World) (n : Nat) (l : List ByteArray) (e : Ending) (w' : World) : Prop := ∃ A q, e = .returned (.slice A n q) ∧ n ≤ q ∧ Below W1.heap.size W1 w' ∧ (n = 0 ∨ ∃ g, A = some ⟨g, 0, none⟩ ∧ W1.heap.size ≤ g ∧ Holds encStr w' g 0 ((l.map bl).mergeSort fun x y => decide (x ≤ y)).toArray)
set_option maxHeartbeats 2000000 in
set_option maxRecDepth 100000 in
theorem unlike_calls (A0 : Option Addr) (l : List ByteArray) (c : Nat) (w : World) (hl : l.length ≤ 1000000) (hc : l.length ≤ c) (hC : Kd.C Kd.string w A0 l.length l) :
  Calls Tryz.prog 44 #[.slice A0 l.length c] w fun e w' => e = .returned (.bool (decide l.Nodup)) ∧ Below w.heap.size w w' := by
 obtain ⟨n, hn⟩ : ∃ n, l.length = n := ⟨_, rfl⟩
 have HSN := Aside0.mk (sorted_nodup l)
 have HCL := Aside0.mk (collect_calls (w.alloc (.cells #[.slice A0 l.length c] 23)) w.heap.size A0 l c hl (heap_alloc_new w _) (Kd.C_alloc hC _))
 rw [hn] at HCL ⊢
 have HN := Aside0.mk hn
 have hn6 : n ≤ 1000000 := by omega
 clear hC hc hl hn
 have HSRT := Aside0.mk (show ∀ W1, W1 = w.alloc (.cells #[.slice A0 n c] 23) → Calls Tryz.prog 66 #[.func (.func 87) #[] #[.pointer (some ⟨w.heap.size, 0, none⟩)]] W1 (SrtOut W1 n l) by
  intro W1 hW1
  rw [← hW1] at HCL
  clear hW1
  go_enter Tryz.func66, Tryz.ntmps66
  go_wp2_with fail
  refine HCL.out.mono ?_
  rintro e w2 ⟨v, rfl, ho, hb⟩
  have HB2 := Aside0.mk hb
  clear hb
  rcases ho.2 with ⟨rfl, hz⟩ | ⟨gb, cap, cur, rfl, hbase, hgb, r1, r2, r3, r4⟩
  ·obtain rfl := hz
   clear ho
   go_wp2_with fail
   refine (Tryz.slices_Sort_string_none none 0 w2).mono ?_
   rintro e w3 ⟨rfl, rfl⟩
   go_wp2
   go_ret
   exact ⟨none, 0, rfl, Nat.le_refl _, HB2.out, .inl rfl⟩
  ·have hH : Holds encStr w2 gb 0 (l.map bl).toArray := holds_of_block hgb (by rw [map_enc]; simpa [HN.out] using r4)
   have hgl : gb < w2.heap.size := (Array.getElem?_eq_some_iff.1 hgb).1
   have hlm : (l.map bl).length = n := by rw [List.length_map]; exact HN.out
   have hcS := Tryz.slices_Sort_string gb 0 cap (l.map bl) w2 hH hgl (by omega)
   rw [hlm] at hcS
   have HS := Aside0.mk hcS
   have HH := Aside0.mk hH
   have HR1 := Aside0.mk r1
   have HLM := Aside0.mk hlm
   have HOS := Aside0.mk (fun (k : Nat) (os : Array Obj) => ownsRow_sorted (w := w2) (base := W1.heap.size) (g := gb) (cap := cap) (n := k) (os := os) (ss := l.map bl) (ts := (l.map bl).mergeSort fun x y => decide (x ≤ y)) (by rw [List.length_mergeSort]) hbase hgb (by omega) r2 r3)
   have HBS := Aside0.mk hbase
   clear hcS hH r1 r2 r3 r4 ho hlm
   go_wp2_with fail
   refine HS.out.mono ?_
   rintro e w3 ⟨rfl, k, os, rfl⟩
   have hb3 : Below W1.heap.size W1 (grow (putRow encStr (Sort.ahead w2 k) gb 0 ((l.map bl).mergeSort fun x y => decide (x ≤ y)).toArray) os) := HB2.out.grown (grownBy_sorted _) HB2.out.size (fun j hj => by cases hj; exact HBS.out)
   have ho3 := HOS.out k os
   generalize grow (putRow encStr (Sort.ahead w2 k) gb 0 ((l.map bl).mergeSort fun x y => decide (x ≤ y)).toArray) os = w3 at hb3 ho3 ⊢
   have HB3 := Aside0.mk hb3
   have HO3 := Aside0.mk ho3
   clear hb3 ho3
   go_wp2
   go_ret
   refine ⟨_, _, rfl, HR1.out, HB3.out, .inr ⟨gb, rfl, HBS.out, ?_⟩⟩
   rcases HO3.out.2 with ⟨h0, _⟩ | ⟨g2, cap2, cur2, he, _, hg2, _, _, _, h4⟩
   ·cases h0
   ·injection he with he _ _
    injection he with he
    injection he with he _ _
    subst he
    refine holds_of_block hg2 ?_
    rw [List.length_mergeSort]
    simpa using h4)
 go_enter Tryz.func44, Tryz.ntmps44
 go_wp2_with fail
 refine (values_calls A0 n c w).mono ?_
 rintro e w1 ⟨rfl, rfl⟩
 go_wp2_with fail
 refine (HSRT.out _ rfl).mono ?_
 rintro e w2 ⟨A, q, rfl, hq, hb, hcase⟩
 have HB2 := Aside0.mk (below_then (below_alloc (Below.refl _ w) (.cells #[.slice A0 n c] 23)) (below_alloc (Below.refl _ w) (.cells #[.slice A0 n c] 23)).size hb)
 clear hb
 rcases hcase with h0 | ⟨g, rfl, hg, hH⟩
 ·subst h0
  have hnil : l = [] := List.eq_nil_of_length_eq_zero HN.out
  subst hnil
  go_wp2_with fail
  refine (Tryz.slices_Compact_string_empty A q w2).mono ?_
  rintro e w3 ⟨rfl, rfl⟩
  go_wp2
  go_ret
  exact ⟨rfl, HB2.out⟩
 ·have hlm : ((l.map bl).mergeSort fun x y => decide (x ≤ y)).length = n := by rw [List.length_mergeSort, List.length_map]; exact HN.out
  have hcC := Tryz.slices_Compact_string g 0 q ((l.map bl).mergeSort fun x y => decide (x ≤ y)) w2 hH (by omega) (by omega)
  rw [hlm] at hcC
  obtain ⟨m, hm⟩ : ∃ m, (Lib.compact ((l.map bl).mergeSort fun x y => decide (x ≤ y))).length = m := ⟨_, rfl⟩
  have hsn := HSN.out
  rw [hm, HN.out] at hsn
  have HCC := Aside0.mk hcC
  have HM := Aside0.mk hm
  have HSN2 := Aside0.mk hsn
  have HG := Aside0.mk hg
  clear hcC hH hlm hm hsn hg
  go_wp2_with fail
  refine HCC.out.mono ?_
  rw [HM.out]
  rintro e w3 ⟨rfl, k, rfl⟩
  have HB3 := Aside0.mk (below_put HB2.out (show w.heap.size ≤ g by have := HG.out; simp at this; omega) k (Lib.compact ((l.map bl).mergeSort fun x y => decide (x ≤ y)) ++ List.replicate (n - m) []).toArray)
  generalize putRow encStr (Sort.ahead w2 k) g 0 _ = w4 at HB3 ⊢
  by_cases hmn : m = n
  ·have hd : ((m : Int) == (n : Int)) = true := by rw [hmn]; exact beq_self_eq_true _
   have HD := Aside0.mk (show decide l.Nodup = true from decide_eq_true (HSN2.out.1 hmn))
   go_wp2
   go_ret
   exact ⟨by rw [HD.out]; first | rfl | (simp [hmn]; done), HB3.out⟩
  ·have hd : ((m : Int) == (n : Int)) = false := by rw [beq_eq_false_iff_ne]; omega
   have HD := Aside0.mk (show decide l.Nodup = false from decide_eq_false (fun h => hmn (HSN2.out.2 h)))
   go_wp2
   go_ret
   exact ⟨by rw [HD.out]; first | rfl | (simp [hmn]; done), HB3.out⟩
end Go.Proofs.YtifejhbochkifaaGreatDoor.X
