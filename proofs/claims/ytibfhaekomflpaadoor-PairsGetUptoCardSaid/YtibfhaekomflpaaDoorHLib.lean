/- The library's IndexByte, Cut at a separator of one byte, and Join, in the printer's form. -/
import Derived.Test.YtibfhaekomflpaaDoorX0
import Derived.Test.YtibfhaekomflpaaDoorShelf
import Derived.Test.YtibfhaekomflpaaDoorSh
import Derived.Test.YtibfhaekomflpaaDoorHSpec
import Derived.Lib.CutLaws
namespace Go.Proofs.YtibfhaekomflpaaDoor.X
open Go.RowKit Go.Proofs.YtibfhaekomflpaaDoorW.PrintWords Go.Proofs.YtibfhaekomflpaaDoorW.PrintLast Go.Proofs.YtibfhaekomflpaaDoorW.PrintMore Go.Proofs.YtibfhaekomflpaaDoor.Spec
set_option linter.unusedVariables false
set_option linter.unusedSimpArgs false

theorem drawn0_of_eq {w w' : World} (h : w' = w) : Drawn0 w w' := h ▸ Drawn0.refl w
theorem drawn0_of_n {w w' : World} (h : ∃ n, w' = w.drewN n) : Drawn0 w w' := ⟨h⟩

def strings_IndexByte.f (a0 : ByteArray) (a1 : Int) : Option Int := some (Lib.indexByte (bl a0) a1.toNat.toUInt8)
theorem strings_IndexByte.calls (a0 : ByteArray) (a1 : Int) (r : Int) (w : World) (h : strings_IndexByte.f a0 a1 = some r) :
    Calls Tryd.prog 44 #[.string a0, .int .u8 a1] w fun e w' => e = .returned (.int .i64 r) ∧ Drawn0 w w' := by
  obtain rfl := Option.some.inj h
  exact (Tryd.strings_IndexByte a0 a1 w).mono fun e w' ⟨he, hw⟩ => ⟨he, drawn0_of_eq hw⟩

set_option maxHeartbeats 2000000 in
set_option maxRecDepth 100000 in
theorem stringslite_Index_one (s : ByteArray) (c : UInt8) (w : World) :
    Calls Tryd.prog 49 #[.string s, .string ⟨#[c]⟩] w fun e w' => e = .returned (.int .i64 (Lib.indexByte s.data.toList c)) ∧ w' = w := by
  go_enter Tryd.func49, Tryd.ntmps49
  go_wp2_with (go_at_call 50; refine (Tryd.stringslite_IndexByte _ _ _).mono ?_; rintro e w' ⟨rfl, rfl⟩)
  · go_ret
    refine ⟨?_, rfl⟩
    have h : ([c] == s.toList) = true := by assumption
    have e : s.data.toList = [c] := by rw [← Lib.toList_data]; exact (beq_iff_eq.1 h).symm
    rw [e]
    simp [Lib.indexByte]
  · go_ret
    exact ⟨rfl, rfl⟩

theorem pre_extract (s : ByteArray) (c : UInt8) (hc : c ∈ bl s) : ba (pre c (bl s)) = s.extract 0 (pre c (bl s)).length := by
  apply bl_inj
  rw [bl_ba, show bl (s.extract 0 (pre c (bl s)).length) = (s.extract 0 (pre c (bl s)).length).data.toList from rfl, Lib.extract_eq]
  simp only [Nat.sub_zero, List.drop_zero]
  rw [show s.data.toList = bl s from rfl]
  conv => rhs; rw [show List.take (pre c (bl s)).length (bl s) = List.take (pre c (bl s)).length (pre c (bl s) ++ c :: post c (bl s)) from by rw [← pre_post hc]]
  simp
theorem post_extract (s : ByteArray) (c : UInt8) (hc : c ∈ bl s) : ba (post c (bl s)) = s.extract ((pre c (bl s)).length + 1) s.size := by
  have hp := congrArg List.length (pre_post hc)
  rw [List.length_append, List.length_cons, bl_length] at hp
  apply bl_inj
  rw [bl_ba, show bl (s.extract ((pre c (bl s)).length + 1) s.size) = (s.extract ((pre c (bl s)).length + 1) s.size).data.toList from rfl, Lib.extract_eq]
  rw [show s.data.toList = bl s from rfl]
  have : List.drop ((pre c (bl s)).length + 1) (bl s) = List.drop ((pre c (bl s)).length + 1) (pre c (bl s) ++ c :: post c (bl s)) := by rw [← pre_post hc]
  rw [this]
  simp
  rw [List.take_of_length_le (by omega)]

def strings_Cut.f (a0 a1 : ByteArray) : Option (ByteArray × ByteArray × Bool) :=
  match bl a1 with
  | [c] => if a0.size ≤ 140737488355328 then some (ba (pre c (bl a0)), ba (post c (bl a0)), decide (c ∈ bl a0)) else none
  | _ => none
set_option maxHeartbeats 2000000 in
set_option maxRecDepth 100000 in
theorem stringslite_Cut_one (s : ByteArray) (c : UInt8) (w : World) (hs : s.size ≤ 140737488355328) :
    Calls Tryd.prog 41 #[.string s, .string ⟨#[c]⟩] w fun e w' => e = .returned (.tuple #[.string (ba (pre c (bl s))), .string (ba (post c (bl s))), .bool (decide (c ∈ bl s))]) ∧ Drawn0 w w' := by
  by_cases hc : c ∈ bl s
  · have hi : Lib.indexByte s.data.toList c = ((pre c (bl s)).length : Int) := by
      rw [show s.data.toList = bl s from rfl, indexByte_eq, if_pos hc]
    have hp := congrArg List.length (pre_post hc)
    rw [List.length_append, List.length_cons, bl_length] at hp
    have e1 := pre_extract s c hc
    have e2 := post_extract s c hc
    rw [e1, e2]
    generalize hi' : (pre c (bl s)).length = i at *
    have c1 : (0 : Int) ≤ ↑i := by omega
    have c2 : (↑i : Int) ≤ ↑s.size := by omega
    have c3 : (0 : Int) ≤ ↑i + 1 := by omega
    have c4 : (↑i + 1 : Int) ≤ ↑s.size := by omega
    have hd : decide (c ∈ bl s) = true := decide_eq_true hc
    rw [hd]
    have HI := Aside0.mk hi
    clear hp e1 e2 hi hi' hd hc
    go_enter Tryd.func41, Tryd.ntmps41
    go_wp2_with (go_at_call 49; refine (stringslite_Index_one _ _ _).mono ?_; rintro e w' ⟨rfl, rfl⟩; rw [HI.out])
    go_region
    go_wp2
    go_ret3
    exact ⟨rfl, ⟨1, rfl⟩⟩
  · have hi : Lib.indexByte s.data.toList c = -1 := by
      rw [show s.data.toList = bl s from rfl, indexByte_eq, if_neg hc]
    rw [pre_of_not_mem hc, post_of_not_mem hc, ba_bl, decide_eq_false hc]
    have HI := Aside0.mk hi
    clear hi hc
    go_enter Tryd.func41, Tryd.ntmps41
    go_wp2_with (go_at_call 49; refine (stringslite_Index_one _ _ _).mono ?_; rintro e w' ⟨rfl, rfl⟩; rw [HI.out])
    go_ret3
    exact ⟨rfl, Drawn0.refl _⟩
theorem strings_Cut.calls (a0 : ByteArray) (a1 : ByteArray) (r1 : ByteArray) (r2 : ByteArray) (r3 : Bool) (w : World) (h : strings_Cut.f a0 a1 = some (r1, r2, r3)) :
    Calls Tryd.prog 29 #[.string a0, .string a1] w fun e w' => e = .returned (.tuple #[.string r1, .string r2, .bool r3]) ∧ Drawn0 w w' := by
  unfold strings_Cut.f at h
  split at h
  · rename_i c hc
    split at h
    case isFalse => cases h
    rename_i hs
    simp only [Option.some.injEq, Prod.mk.injEq] at h
    obtain ⟨rfl, rfl, rfl⟩ := h
    obtain rfl : a1 = ⟨#[c]⟩ := bl_inj (by rw [hc]; rfl)
    go_enter Tryd.func29, Tryd.ntmps29
    go_wp2_with (go_at_call 41; refine (stringslite_Cut_one _ _ _ hs).mono ?_; rintro e w' ⟨rfl, hd⟩)
    go_ret3
    exact ⟨rfl, by assumption⟩
  · cases h

def strings_Join.f (l0 : List ByteArray) (a1 : ByteArray) : Option ByteArray :=
  if (Lib.join (l0.map bl) (bl a1)).length ≤ 140737488355328 ∧ l0.length ≤ 140737488355328 then some (ba (Lib.join (l0.map bl) (bl a1))) else none
theorem strings_Join.calls (A0 : Option Addr) (c0 : Nat) (l0 : List ByteArray) (a1 : ByteArray) (r : ByteArray) (w : World) (hr0 : Kd.C Kd.string w A0 l0.length l0) (hc0 : l0.length ≤ c0) (h : strings_Join.f l0 a1 = some r) :
    Calls Tryd.prog 24 #[.slice A0 l0.length c0, .string a1] w fun e w' => e = .returned (.string r) ∧ Below w.heap.size w w' := by
  unfold strings_Join.f at h
  split at h
  · rename_i hl
    obtain rfl := Option.some.inj h
    cases hx : l0 with
    | nil =>
      refine (Sh.strings_Join_none A0 c0 a1 w).mono fun e w' ⟨he, hw⟩ => ⟨?_, hw ▸ Below.refl _ _⟩
      rw [he]; rfl
    | cons x0 rest =>
      rw [← hx]
      have hpos : 0 < l0.length := by rw [hx]; simp
      obtain ⟨⟨bk, o, sp⟩, rfl, hcell⟩ := hr0.2.2 hpos
      have hcells : ∀ (j : Nat) x, l0[j]? = some x → w.cell? ((⟨bk, o, sp⟩ : Addr).add j) = some (.string x) := by
        intro j x hj
        obtain ⟨c, hlen, hK, hc⟩ := hcell j x hj
        obtain ⟨rfl, _⟩ : c = [.string x] ∧ True := ⟨hK, trivial⟩
        have := hc 0 _ rfl
        rw [show Kd.string.sz = 1 from rfl] at this
        simpa using this
      have hc00 := hcells 0 x0 (by rw [hx]; rfl)
      have hsp : sp = none := by
        cases sp with
        | none => rfl
        | some s =>
          have h0 : (⟨bk, o, some s⟩ : Addr).add 0 = ⟨bk, o, some s⟩ := rfl
          rw [h0] at hc00
          simp only [World.cell?] at hc00
          split at hc00 <;> simp at hc00
      subst hsp
      have hadd : ∀ j, (⟨bk, o, none⟩ : Addr).add j = ⟨bk, o + j, none⟩ := by
        intro j; unfold Addr.add; split <;> simp_all
      have hbk : bk < w.heap.size := World.block_lt_of_cell? w ⟨bk, o + 0, none⟩ (by rw [← hadd]; exact hc00)
      exact (Sh.strings_Join bk o c0 l0 a1 w (fun j x hj => by rw [← hadd]; exact hcells j x hj) hbk hl.2 hc0 hl.1).mono fun e w' ⟨he, hb⟩ => ⟨he, hb⟩
  · cases h
end Go.Proofs.YtibfhaekomflpaaDoor.X
