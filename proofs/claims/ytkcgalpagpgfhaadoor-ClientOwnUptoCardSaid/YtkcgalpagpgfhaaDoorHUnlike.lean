/- client.unlike: are names unlike? Over a map of the call's own. -/
import Derived.Test.YtkcgalpagpgfhaaDoorX0
import Derived.Test.YtkcgalpagpgfhaaDoorHSpec
import Derived.WalkKit
import Derived.Deep.LoopGhost
import Derived.Maps.Own
import Derived.Maps.OwnOps
import Derived.Maps.OwnSet
import Derived.Maps.Views
namespace Go.Proofs.YtkcgalpagpgfhaaDoor.X
open Go.RowKit Go.WideMaps Go.Maps Go.Proofs.YtkcgalpagpgfhaaDoorW.PrintWords Go.Proofs.YtkcgalpagpgfhaaDoorW.PrintLast Go.Proofs.YtkcgalpagpgfhaaDoorW.PrintMore Go.Proofs.YtkcgalpagpgfhaaDoor.Spec
set_option linter.unusedVariables false
set_option linter.unusedSimpArgs false

def addNew {α : Type} [BEq α] (acc : List α) (x : α) : List α := if acc.contains x then acc else acc ++ [x]
def distinct {α : Type} [BEq α] (l : List α) : List α := l.foldl addNew []
theorem distinct_snoc {α : Type} [BEq α] (l : List α) (x : α) : distinct (l ++ [x]) = addNew (distinct l) x := by simp [distinct, List.foldl_append]

theorem tw_law : Maps.Keyed Tryd.prog 9 := Maps.string_keyed Tryd.underlying9
theorem tw_zero (w : World) : (zeroValue 3).run Tryd.prog w = .ok (.int .i64 0) w := by kernel_rfl

/-- what the map reads as behind the first rounds -/
structure TwMap (keys : List (List UInt8)) (D : DataW Unit) : Prop where
  tidy : Maps.Tidy D
  has : ∀ b : List UInt8, Maps.has D (.string b) = (distinct keys).contains b
  size : Maps.size D = (distinct keys).length
theorem TwMap.nil : TwMap [] (.map []) := ⟨Maps.tidy_empty, fun b => by simp [Maps.has, distinct], rfl⟩
theorem TwMap.snoc {keys : List (List UInt8)} {D : DataW Unit} (h : TwMap keys D) (x : List UInt8) (d : DataW Unit) : TwMap (keys ++ [x]) (D.put (.string x) d) := by
  refine ⟨h.tidy.put (by exact trivial) d, fun b => ?_, ?_⟩
  · rw [distinct_snoc]
    by_cases hb : b = x
    · subst hb
      rw [Maps.has_put_same h.tidy.isMap (by exact trivial)]
      unfold addNew
      split
      · rename_i hc; rw [hc]
      · simp
    · rw [Maps.has_put_other (by simpa using hb), h.has]
      unfold addNew
      split
      · rfl
      · simp [hb]
  · rw [Maps.size_put h.tidy, h.has, h.size, distinct_snoc]
    unfold addNew
    split
    · rfl
    · simp

set_option maxHeartbeats 1000000 in
theorem id_Client (x : S25) (A : Option Addr) (c : Nat) (w : World) : Calls Tryd.prog 30 #[.agg #[.string x.f0, .string x.f1, .slice A x.f2.length c]] w fun e w' => e = .returned (.string x.f0) ∧ w' = w.alloc (.cells #[.string x.f0, .string x.f1, .slice A x.f2.length c] 25) := by
  have hu := Tryd.underlying25
  go_enter Tryd.func30, Tryd.ntmps30
  go_wp2
  go_ret
  exact ⟨rfl, rfl⟩
def unlClient (l : List S25) : Bool := decide ((distinct (l.map (fun x => bl x.f0))).length = l.length)
set_option maxHeartbeats 4000000 in
set_option maxRecDepth 100000 in
theorem unlike_Client (A0 : Option Addr) (c0 : Nat) (l0 : List S25) (w : World) (hr0 : Kd.C k25 w A0 l0.length l0) (hc0 : l0.length ≤ c0) (hs : ∀ x ∈ l0, x.f0.size ≤ 1000000000000) (hmax : l0.length ≤ 1000000000000) :
    Calls Tryd.prog 29 #[.slice A0 l0.length c0, .func (.func 30) #[] #[]] w fun e w' => e = .returned (.bool (unlClient l0)) ∧ Below w.heap.size w w' := by
  have hu := Tryd.underlying25
  have HS := Aside0.mk hs
  have HR := Aside0.mk hr0
  clear hs hr0
  have hmm := @run_makeMap Tryd.prog
  go_enter Tryd.func29, Tryd.ntmps29
  go_wp2
  go_loopw [11] (fun i wr => ∃ (k : Nat) (D : DataW Unit), k ≤ l0.length ∧ i = .int .i64 k ∧ Aside0 (TwMap ((l0.map (fun x => bl x.f0)).take k) D) ∧ Aside0 (wr.ownsMap Tryd.prog 9 (plainElem Tryd.prog 3) w.heap.size k D) ∧ Aside0 (Below w.heap.size w wr)) (fun i _ => l0.length - (intOf i).toNat)
  case atStart => exact ⟨0, .map [], Nat.zero_le _, rfl, ⟨by simpa using TwMap.nil⟩, ⟨World.ownsMap_made _ _ _ _⟩, ⟨(Below.refl _ _).alloc (Nat.le_refl _) _⟩⟩
  case round =>
    obtain ⟨k, D, hkl, rfl, HT, HO, HB⟩ := hrel
    by_cases hlt : k < l0.length
    · have p0 : (0 : Int) ≤ (k : Int) := by omega
      have q0 : (k : Int) < (l0.length : Int) := by omega
      obtain ⟨ad, A2, c2, rfl, hx0, hx1, hx2, hl2, hg2⟩ := at_T25 (Kd.C_below HR.out HB.out) (k : Int) p0 q0
      have hrd : rd_T25 l0 (k : Int) = l0[k]'hlt := by simp [rd_T25, List.getD_eq_getElem?_getD, List.getElem?_eq_getElem hlt]
      rw [hrd] at hx0 hx1 hx2
      simp only [Int.toNat_natCast] at hx0 hx1 hx2
      obtain ⟨x, hx⟩ : ∃ x, l0[k]'hlt = x := ⟨_, rfl⟩
      rw [hx] at hx0 hx1 hx2
      have hxs := HS.out x (hx ▸ List.getElem_mem hlt)
      have HKey := Aside0.mk (keyOf_string_mk Tryd.underlying9 (s := x.f0) (by unfold maxLen; omega))
      have HTK := Aside0.mk (show (l0.map (fun x => bl x.f0)).take (k + 1) = (l0.map (fun x => bl x.f0)).take k ++ [x.f0.data.toList] by
        rw [List.take_succ_eq_append_getElem (by simpa using hlt)]; simp [bl, hx])
      clear hrd hx hxs
      have HO2 := Aside0.mk ((HO.out.alloc (.cells #[.string x.f0, .string x.f1, .slice A2 x.f2.length c2] 25)).alloc (.cells #[.string x.f0, .string x.f1, .slice A2 x.f2.length c2] 25))
      have HB2 := Aside0.mk (below_alloc (below_alloc HB.out (.cells #[.string x.f0, .string x.f1, .slice A2 x.f2.length c2] 25)) (.cells #[.string x.f0, .string x.f1, .slice A2 x.f2.length c2] 25))
      go_wp2_with fail
      refine (id_Client x A2 c2 _).mono ?_
      rintro e w' ⟨rfl, rfl⟩
      go_wp2_with (first
        | (at_lookup; refine wpList_lookup_own_int _ rfl _ _ 68 rfl 9 3 .i64 tw_law Tryd.underlying68 Tryd.underlying3 (tw_zero _) w.heap.size k D rfl HO2.out _ _ rfl HKey.out ?_; intro c hat hwc)
        | (at_mapUpdate; refine wpList_mapUpdate_own _ rfl _ _ _ 68 rfl 9 3 tw_law Tryd.underlying68 _ w.heap.size k D rfl HO2.out (by unfold maxLen; omega) _ _ _ rfl rfl HKey.out _ [] (plainElem_int Tryd.underlying3 (wrap64_wf _)) ?_; intro w1 hown1 hgrow1))
      have HO1 := Aside0.mk hown1
      have HB1 := Aside0.mk (HB2.out.grown hgrow1 (by have := HB.out.size; simp; omega) (fun j hj => by cases hj; exact Nat.le_refl _))
      have HT1 := Aside0.mk (HT.out.snoc x.f0.data.toList (.lit (.int .i64 (wrap64 (c + 1)))))
      clear hown1 hgrow1 hat
      go_wp2
      go_roundw
      case rel => exact ⟨k + 1, _, by omega, by go_num, ⟨by rw [HTK.out]; exact HT1.out⟩, HO1, HB1⟩
      case measure => simp [intOf]; omega
    · have hk : k = l0.length := by omega
      have hsz := HT.out.size
      rw [List.take_of_length_le (by simp; omega)] at hsz
      have HSZ := Aside0.mk hsz
      clear hsz hk
      have hlen := HO.out.len Tryd.underlying68 3
      go_wp2
      go_ret
      refine ⟨?_, HB.out⟩
      show Ending.returned (Value.bool _) = _
      rw [HSZ.out]
      refine congrArg (fun b => Ending.returned (Value.bool b)) ?_
      unfold unlClient
      rw [Bool.eq_iff_iff, beq_iff_eq, decide_eq_true_iff]
      omega
set_option maxHeartbeats 1000000 in
theorem id_Conn (x : S40) (w : World) : Calls Tryd.prog 35 #[.agg #[.string x.f0, .string x.f1, .string x.f2, .string x.f3, .string x.f4, .bool x.f5, .string x.f6]] w fun e w' => e = .returned (.string x.f0) ∧ w' = w.alloc (.cells #[.string x.f0, .string x.f1, .string x.f2, .string x.f3, .string x.f4, .bool x.f5, .string x.f6] 40) := by
  have hu := Tryd.underlying40
  go_enter Tryd.func35, Tryd.ntmps35
  go_wp2
  go_ret
  exact ⟨rfl, rfl⟩
def unlConn (l : List S40) : Bool := decide ((distinct (l.map (fun x => bl x.f0))).length = l.length)
set_option maxHeartbeats 4000000 in
set_option maxRecDepth 100000 in
theorem unlike_Conn (A0 : Option Addr) (c0 : Nat) (l0 : List S40) (w : World) (hr0 : Kd.C k40 w A0 l0.length l0) (hc0 : l0.length ≤ c0) (hs : ∀ x ∈ l0, x.f0.size ≤ 1000000000000) (hmax : l0.length ≤ 1000000000000) :
    Calls Tryd.prog 34 #[.slice A0 l0.length c0, .func (.func 35) #[] #[]] w fun e w' => e = .returned (.bool (unlConn l0)) ∧ Below w.heap.size w w' := by
  have hu := Tryd.underlying40
  have HS := Aside0.mk hs
  have HR := Aside0.mk hr0
  clear hs hr0
  have hmm := @run_makeMap Tryd.prog
  go_enter Tryd.func34, Tryd.ntmps34
  go_wp2
  go_loopw [11] (fun i wr => ∃ (k : Nat) (D : DataW Unit), k ≤ l0.length ∧ i = .int .i64 k ∧ Aside0 (TwMap ((l0.map (fun x => bl x.f0)).take k) D) ∧ Aside0 (wr.ownsMap Tryd.prog 9 (plainElem Tryd.prog 3) w.heap.size k D) ∧ Aside0 (Below w.heap.size w wr)) (fun i _ => l0.length - (intOf i).toNat)
  case atStart => exact ⟨0, .map [], Nat.zero_le _, rfl, ⟨by simpa using TwMap.nil⟩, ⟨World.ownsMap_made _ _ _ _⟩, ⟨(Below.refl _ _).alloc (Nat.le_refl _) _⟩⟩
  case round =>
    obtain ⟨k, D, hkl, rfl, HT, HO, HB⟩ := hrel
    by_cases hlt : k < l0.length
    · have p0 : (0 : Int) ≤ (k : Int) := by omega
      have q0 : (k : Int) < (l0.length : Int) := by omega
      obtain ⟨ad, rfl, hx0, hx1, hx2, hx3, hx4, hx5, hx6⟩ := at_T40 (Kd.C_below HR.out HB.out) (k : Int) p0 q0
      have hrd : rd_T40 l0 (k : Int) = l0[k]'hlt := by simp [rd_T40, List.getD_eq_getElem?_getD, List.getElem?_eq_getElem hlt]
      rw [hrd] at hx0 hx1 hx2 hx3 hx4 hx5 hx6
      simp only [Int.toNat_natCast] at hx0 hx1 hx2 hx3 hx4 hx5 hx6
      obtain ⟨x, hx⟩ : ∃ x, l0[k]'hlt = x := ⟨_, rfl⟩
      rw [hx] at hx0 hx1 hx2 hx3 hx4 hx5 hx6
      have hxs := HS.out x (hx ▸ List.getElem_mem hlt)
      have HKey := Aside0.mk (keyOf_string_mk Tryd.underlying9 (s := x.f0) (by unfold maxLen; omega))
      have HTK := Aside0.mk (show (l0.map (fun x => bl x.f0)).take (k + 1) = (l0.map (fun x => bl x.f0)).take k ++ [x.f0.data.toList] by
        rw [List.take_succ_eq_append_getElem (by simpa using hlt)]; simp [bl, hx])
      clear hrd hx hxs
      have HO2 := Aside0.mk ((HO.out.alloc (.cells #[.string x.f0, .string x.f1, .string x.f2, .string x.f3, .string x.f4, .bool x.f5, .string x.f6] 40)).alloc (.cells #[.string x.f0, .string x.f1, .string x.f2, .string x.f3, .string x.f4, .bool x.f5, .string x.f6] 40))
      have HB2 := Aside0.mk (below_alloc (below_alloc HB.out (.cells #[.string x.f0, .string x.f1, .string x.f2, .string x.f3, .string x.f4, .bool x.f5, .string x.f6] 40)) (.cells #[.string x.f0, .string x.f1, .string x.f2, .string x.f3, .string x.f4, .bool x.f5, .string x.f6] 40))
      go_wp2_with fail
      refine (id_Conn x _).mono ?_
      rintro e w' ⟨rfl, rfl⟩
      go_wp2_with (first
        | (at_lookup; refine wpList_lookup_own_int _ rfl _ _ 68 rfl 9 3 .i64 tw_law Tryd.underlying68 Tryd.underlying3 (tw_zero _) w.heap.size k D rfl HO2.out _ _ rfl HKey.out ?_; intro c hat hwc)
        | (at_mapUpdate; refine wpList_mapUpdate_own _ rfl _ _ _ 68 rfl 9 3 tw_law Tryd.underlying68 _ w.heap.size k D rfl HO2.out (by unfold maxLen; omega) _ _ _ rfl rfl HKey.out _ [] (plainElem_int Tryd.underlying3 (wrap64_wf _)) ?_; intro w1 hown1 hgrow1))
      have HO1 := Aside0.mk hown1
      have HB1 := Aside0.mk (HB2.out.grown hgrow1 (by have := HB.out.size; simp; omega) (fun j hj => by cases hj; exact Nat.le_refl _))
      have HT1 := Aside0.mk (HT.out.snoc x.f0.data.toList (.lit (.int .i64 (wrap64 (c + 1)))))
      clear hown1 hgrow1 hat
      go_wp2
      go_roundw
      case rel => exact ⟨k + 1, _, by omega, by go_num, ⟨by rw [HTK.out]; exact HT1.out⟩, HO1, HB1⟩
      case measure => simp [intOf]; omega
    · have hk : k = l0.length := by omega
      have hsz := HT.out.size
      rw [List.take_of_length_le (by simp; omega)] at hsz
      have HSZ := Aside0.mk hsz
      clear hsz hk
      have hlen := HO.out.len Tryd.underlying68 3
      go_wp2
      go_ret
      refine ⟨?_, HB.out⟩
      show Ending.returned (Value.bool _) = _
      rw [HSZ.out]
      refine congrArg (fun b => Ending.returned (Value.bool b)) ?_
      unfold unlConn
      rw [Bool.eq_iff_iff, beq_iff_eq, decide_eq_true_iff]
      omega
end Go.Proofs.YtkcgalpagpgfhaaDoor.X
