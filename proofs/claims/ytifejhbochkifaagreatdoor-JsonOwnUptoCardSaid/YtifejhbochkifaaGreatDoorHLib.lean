/- The library's IndexByte, Cut at a separator of one byte, and Join, in the printer's form. -/
import Derived.Test.YtifejhbochkifaaGreatDoorX0
import Derived.Test.YtifejhbochkifaaGreatDoorShelf
import Derived.Test.YtifejhbochkifaaGreatDoorSh
import Derived.Test.YtifejhbochkifaaGreatDoorHSpec
import Derived.Lib.CutLaws
namespace Go.Proofs.YtifejhbochkifaaGreatDoor.X
open Go.RowKit Go.Proofs.YtifejhbochkifaaGreatDoorW.PrintWords Go.Proofs.YtifejhbochkifaaGreatDoorW.PrintLast Go.Proofs.YtifejhbochkifaaGreatDoorW.PrintMore Go.Proofs.YtifejhbochkifaaGreatDoor.Spec
set_option linter.unusedVariables false
set_option linter.unusedSimpArgs false

theorem drawn0_of_eq {w w' : World} (h : w' = w) : Drawn0 w w' := h ▸ Drawn0.refl w
theorem drawn0_of_n {w w' : World} (h : ∃ n, w' = w.drewN n) : Drawn0 w w' := ⟨h⟩

def strings_IndexByte.f (a0 : ByteArray) (a1 : Int) : Option Int := some (Lib.indexByte (bl a0) a1.toNat.toUInt8)
theorem strings_IndexByte.calls (a0 : ByteArray) (a1 : Int) (r : Int) (w : World) (h : strings_IndexByte.f a0 a1 = some r) :
  Calls Tryz.prog 78 #[.string a0, .int .u8 a1] w fun e w' => e = .returned (.int .i64 r) ∧ Drawn0 w w' := by
 obtain rfl := Option.some.inj h
 exact (Tryz.strings_IndexByte a0 a1 w).mono fun e w' ⟨he, hw⟩ => ⟨he, drawn0_of_eq hw⟩


theorem pre_extract (s : ByteArray) (c : UInt8) (hc : c ∈ bl s) : ba (pre c (bl s)) = s.extract 0 (pre c (bl s)).length := by
 apply bl_inj
 rw [bl_ba, show bl (s.extract 0 (pre c (bl s)).length) = (s.extract 0 (pre c (bl s)).length).data.toList from rfl, Lib.extract_eq]
 simp only [Nat.sub_zero, List.drop_zero]
 rw [show s.data.toList = bl s from rfl]
 conv => rhs; rw [show List.take (pre c (bl s)).length (bl s) = List.take (pre c (bl s)).length (pre c (bl s) ++ c :: post c (bl s)) from by rw [← pre_post hc]]
 simp
theorem post_extract (s : ByteArray) (c : UInt8) (hc : c ∈ bl s) : ba (post c (bl s)) = s.extract ((pre c (bl s)).length + 1) s.size := by
 have hp := congrArg List.length (pre_post hc)
 rw [List.length_append, List.length_cons, bl_length] at hp
 apply bl_inj
 rw [bl_ba, show bl (s.extract ((pre c (bl s)).length + 1) s.size) = (s.extract ((pre c (bl s)).length + 1) s.size).data.toList from rfl, Lib.extract_eq]
 rw [show s.data.toList = bl s from rfl]
 have : List.drop ((pre c (bl s)).length + 1) (bl s) = List.drop ((pre c (bl s)).length + 1) (pre c (bl s) ++ c :: post c (bl s)) := by rw [← pre_post hc]
 rw [this]
 simp
 rw [List.take_of_length_le (by omega)]

def strings_Join.f (l0 : List ByteArray) (a1 : ByteArray) : Option ByteArray :=
  if (Lib.join (l0.map bl) (bl a1)).length ≤ 140737488355328 ∧ l0.length ≤ 140737488355328 then some (ba (Lib.join (l0.map bl) (bl a1))) else none
theorem strings_Join.calls (A0 : Option Addr) (c0 : Nat) (l0 : List ByteArray) (a1 : ByteArray) (r : ByteArray) (w : World) (hr0 : Kd.C Kd.string w A0 l0.length l0) (hc0 : l0.length ≤ c0) (h : strings_Join.f l0 a1 = some r) :
  Calls Tryz.prog 50 #[.slice A0 l0.length c0, .string a1] w fun e w' => e = .returned (.string r) ∧ Below w.heap.size w w' := by
 unfold strings_Join.f at h
 split at h
 ·rename_i hl
  obtain rfl := Option.some.inj h
  cases hx : l0 with
  | nil =>
   refine (Sh.strings_Join_none A0 c0 a1 w).mono fun e w' ⟨he, hw⟩ => ⟨?_, hw ▸ Below.refl _ _⟩
   rw [he]; rfl
  | cons x0 rest =>
   rw [← hx]
   have hpos : 0 < l0.length := by rw [hx]; simp
   obtain ⟨⟨bk, o, sp⟩, rfl, hcell⟩ := hr0.2.2 hpos
   have hcells : ∀ (j : Nat) x, l0[j]? = some x → w.cell? ((⟨bk, o, sp⟩ : Addr).add j) = some (.string x) := by
    intro j x hj
    obtain ⟨c, hlen, hK, hc⟩ := hcell j x hj
    obtain ⟨rfl, _⟩ : c = [.string x] ∧ True := ⟨hK, trivial⟩
    have := hc 0 _ rfl
    rw [show Kd.string.sz = 1 from rfl] at this
    simpa using this
   have hc00 := hcells 0 x0 (by rw [hx]; rfl)
   have hsp : sp = none := by
    cases sp with
    | none => rfl
    | some s =>
     have h0 : (⟨bk, o, some s⟩ : Addr).add 0 = ⟨bk, o, some s⟩ := rfl
     rw [h0] at hc00
     simp only [World.cell?] at hc00
     split at hc00 <;> simp at hc00
   subst hsp
   have hadd : ∀ j, (⟨bk, o, none⟩ : Addr).add j = ⟨bk, o + j, none⟩ := by
    intro j; unfold Addr.add; split <;> simp_all
   have hbk : bk < w.heap.size := World.block_lt_of_cell? w ⟨bk, o + 0, none⟩ (by rw [← hadd]; exact hc00)
   exact (Sh.strings_Join bk o c0 l0 a1 w (fun j x hj => by rw [← hadd]; exact hcells j x hj) hbk hl.2 hc0 hl.1).mono fun e w' ⟨he, hb⟩ => ⟨he, hb⟩
 ·cases h
end Go.Proofs.YtifejhbochkifaaGreatDoor.X
