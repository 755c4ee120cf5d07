/- pairs.Twice: does a key stand twice? Over a map of the call's own. -/
import Derived.Test.YtibfhaekomflpaaDoorX0
import Derived.Test.YtibfhaekomflpaaDoorHSpec
import Derived.WalkKit
import Derived.Deep.LoopGhost
import Derived.Maps.Own
import Derived.Maps.OwnOps
import Derived.Maps.OwnSet
import Derived.Maps.Views
namespace Go.Proofs.YtibfhaekomflpaaDoor.X
open Go.RowKit Go.WideMaps Go.Maps Go.Proofs.YtibfhaekomflpaaDoorW.PrintWords Go.Proofs.YtibfhaekomflpaaDoorW.PrintLast Go.Proofs.YtibfhaekomflpaaDoorW.PrintMore Go.Proofs.YtibfhaekomflpaaDoor.Spec
set_option linter.unusedVariables false
set_option linter.unusedSimpArgs false

def addNew {α : Type} [BEq α] (acc : List α) (x : α) : List α := if acc.contains x then acc else acc ++ [x]
def distinct {α : Type} [BEq α] (l : List α) : List α := l.foldl addNew []
theorem distinct_snoc {α : Type} [BEq α] (l : List α) (x : α) : distinct (l ++ [x]) = addNew (distinct l) x := by simp [distinct, List.foldl_append]

theorem tw_law : Maps.Keyed Tryd.prog 9 := Maps.string_keyed Tryd.underlying9
theorem tw_zero (w : World) : (zeroValue 3).run Tryd.prog w = .ok (.int .i64 0) w := by kernel_rfl

/-- what the map reads as behind the first rounds -/
structure TwMap (keys : List (List UInt8)) (D : DataW Unit) : Prop where
  tidy : Maps.Tidy D
  has : ∀ b : List UInt8, Maps.has D (.string b) = (distinct keys).contains b
  size : Maps.size D = (distinct keys).length
theorem TwMap.nil : TwMap [] (.map []) := ⟨Maps.tidy_empty, fun b => by simp [Maps.has, distinct], rfl⟩
theorem TwMap.snoc {keys : List (List UInt8)} {D : DataW Unit} (h : TwMap keys D) (x : List UInt8) (d : DataW Unit) : TwMap (keys ++ [x]) (D.put (.string x) d) := by
  refine ⟨h.tidy.put (by exact trivial) d, fun b => ?_, ?_⟩
  · rw [distinct_snoc]
    by_cases hb : b = x
    · subst hb
      rw [Maps.has_put_same h.tidy.isMap (by exact trivial)]
      unfold addNew
      split
      · rename_i hc; rw [hc]
      · simp
    · rw [Maps.has_put_other (by simpa using hb), h.has]
      unfold addNew
      split
      · rfl
      · simp [hb]
  · rw [Maps.size_put h.tidy, h.has, h.size, distinct_snoc]
    unfold addNew
    split
    · rfl
    · simp

def pairs_Twice.f (l0 : List S30) : Option Bool := if (∀ x ∈ l0, x.f0.size ≤ maxLen) ∧ l0.length < maxLen then some ((distinct (l0.map (fun x => bl x.f0))).length != l0.length) else none

set_option maxHeartbeats 2000000 in
set_option maxRecDepth 100000 in
theorem pairs_Twice.calls (A0 : Option Addr) (c0 : Nat) (l0 : List (S30)) (r : Bool) (w : World) (hr0 : Kd.C k30 w A0 l0.length l0) (hc0 : l0.length ≤ c0) (h : pairs_Twice.f l0 = some r) :
    Calls Tryd.prog 16 #[.slice A0 l0.length c0] w fun e w' => e = .returned (.bool r) ∧ Below w.heap.size w w' := by
  have hu := Tryd.underlying30
  unfold pairs_Twice.f at h
  split at h
  case isFalse => cases h
  rename_i hs
  obtain rfl := Option.some.inj h
  clear h
  have HS := Aside0.mk hs.1
  have hmax : l0.length < maxLen := hs.2
  have HR := Aside0.mk hr0
  clear hs hr0
  unfold maxLen at hmax
  have hmm := @run_makeMap Tryd.prog
  go_enter Tryd.func16, Tryd.ntmps16
  go_wp2
  go_loopw [9] (fun i wr => ∃ (k : Nat) (D : DataW Unit), k ≤ l0.length ∧ i = .int .i64 k ∧ Aside0 (TwMap ((l0.map (fun x => bl x.f0)).take k) D) ∧ Aside0 (wr.ownsMap Tryd.prog 9 (plainElem Tryd.prog 3) w.heap.size k D) ∧ Aside0 (Below w.heap.size w wr)) (fun i _ => l0.length - (intOf i).toNat)
  case atStart => exact ⟨0, .map [], Nat.zero_le _, rfl, ⟨by simpa using TwMap.nil⟩, ⟨World.ownsMap_made _ _ _ _⟩, ⟨(Below.refl _ _).alloc (Nat.le_refl _) _⟩⟩
  case round =>
    obtain ⟨k, D, hkl, rfl, HT, HO, HB⟩ := hrel
    by_cases hlt : k < l0.length
    · have p0 : (0 : Int) ≤ (k : Int) := by omega
      have q0 : (k : Int) < (l0.length : Int) := by omega
      obtain ⟨ad, rfl, hx0, hx1⟩ := at_T30 (Kd.C_below HR.out HB.out) (k : Int) p0 q0
      have hrd : rd_T30 l0 (k : Int) = l0[k]'hlt := by simp [rd_T30, List.getD_eq_getElem?_getD, List.getElem?_eq_getElem hlt]
      rw [hrd] at hx0 hx1
      simp only [Int.toNat_natCast] at hx0 hx1
      clear hrd
      have HKey := Aside0.mk (keyOf_string_mk Tryd.underlying9 (s := (l0[k]'hlt).f0) (HS.out _ (List.getElem_mem hlt)))
      go_wp2_with (first
        | (at_lookup; refine wpList_lookup_own_int _ rfl _ _ 55 rfl 9 3 .i64 tw_law Tryd.underlying55 Tryd.underlying3 (tw_zero _) w.heap.size k D rfl (HO.out.alloc _) _ _ rfl HKey.out ?_; intro c hat hwc)
        | (at_mapUpdate; refine wpList_mapUpdate_own _ rfl _ _ _ 55 rfl 9 3 tw_law Tryd.underlying55 _ w.heap.size k D rfl (HO.out.alloc _) (by unfold maxLen; omega) _ _ _ rfl rfl HKey.out _ [] (plainElem_int Tryd.underlying3 (wrap64_wf _)) ?_; intro w1 hown1 hgrow1))
      have HO1 := Aside0.mk hown1
      have HB1 := Aside0.mk ((below_alloc HB.out _).grown hgrow1 (by have := HB.out.size; simp; omega) (fun j hj => by cases hj; exact Nat.le_refl _))
      have HT1 := Aside0.mk (HT.out.snoc (l0[k]'hlt).f0.data.toList (.lit (.int .i64 (wrap64 (c + 1)))))
      have htk : (l0.map (fun x => bl x.f0)).take (k + 1) = (l0.map (fun x => bl x.f0)).take k ++ [(l0[k]'hlt).f0.data.toList] := by
        rw [List.take_succ_eq_append_getElem (by simpa using hlt)]; simp [bl]
      have HTK := Aside0.mk htk
      clear hown1 hgrow1 htk hat
      go_wp2
      go_roundw
      case rel => exact ⟨k + 1, _, by omega, by go_num, ⟨by rw [HTK.out]; exact HT1.out⟩, HO1, HB1⟩
      case measure => simp [intOf]; omega
    · have hk : k = l0.length := by omega
      have hsz := HT.out.size
      rw [List.take_of_length_le (by simp; omega)] at hsz
      have HSZ := Aside0.mk hsz
      clear hsz hk
      have hlen := HO.out.len Tryd.underlying55 3
      go_wp2
      go_ret
      refine ⟨?_, HB.out⟩
      show Ending.returned (Value.bool _) = _
      rw [HSZ.out]
      refine congrArg (fun b => Ending.returned (Value.bool b)) ?_
      rw [Bool.eq_iff_iff, bne_iff_ne, bne_iff_ne]
      omega
end Go.Proofs.YtibfhaekomflpaaDoor.X
