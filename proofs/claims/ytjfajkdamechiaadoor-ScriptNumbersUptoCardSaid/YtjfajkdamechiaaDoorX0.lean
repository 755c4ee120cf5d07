-- Lean text made by xprint.py (ours) out of the seat's translation. Lean checks it.
import Derived.Test.YtjfajkdamechiaaDoorProg
import Derived.Below
import Derived.Deep.Draws
import Derived.Deep.AppendLies
import Derived.Maps.AppendAt
import Derived.OwnWalk
import Derived.Laws.BytesArg
import Derived.Laws.MakeOwn
import Derived.Laws.OwnMore
import Derived.Deep.OwnRows
import Derived.Tactics
import Derived.Lib.ConvBytes
import Derived.Laws.Slices
import Derived.WalkKit
import Derived.KernelRfl
import Derived.RowKit3
import Derived.Deep.LoopGhost
import Derived.Deep.QuietTactic
import Derived.BigQuiet
import Derived.WideLaws
import Derived.Deep.DeepCutAuto
import Derived.Deep.CutBlock
import Derived.Deep.RegionHeld3
import Derived.Laws.Rows
import Derived.Lib.AppendStr
import Derived.ArgAppend
import Derived.Laws.IdiomCopy
import Derived.OrdersHeld
import Derived.Laws.BitsLemmas
import Derived.RowKit
import Derived.Test.YtjfajkdamechiaaDoorWWords
import Derived.Test.YtjfajkdamechiaaDoorWLast
import Derived.Test.YtjfajkdamechiaaDoorWTab
import Derived.Test.YtjfajkdamechiaaDoorWFour
import Derived.Test.YtjfajkdamechiaaDoorWQPut
import Derived.Test.YtjfajkdamechiaaDoorWApart
import Derived.Test.YtjfajkdamechiaaDoorWArr
import Derived.Test.YtjfajkdamechiaaDoorWZeros
import Derived.Test.YtjfajkdamechiaaDoorWFoot
import Derived.Test.YtjfajkdamechiaaDoorWKept
import Derived.Test.YtjfajkdamechiaaDoorWShare
import Derived.Test.YtjfajkdamechiaaDoorWN
import Derived.Test.YtjfajkdamechiaaDoorWFootNe
import Derived.Test.YtjfajkdamechiaaDoorWAt
import Derived.Test.YtjfajkdamechiaaDoorWEqStruct
import Derived.Test.YtjfajkdamechiaaDoorWRepsOne
import Derived.Test.YtjfajkdamechiaaDoorWInv
import Derived.Test.YtjfajkdamechiaaDoorWInvWords
import Derived.Test.YtjfajkdamechiaaDoorWGuard
import Derived.Test.YtjfajkdamechiaaDoorWNEv
import Derived.Test.YtjfajkdamechiaaDoorWMore
namespace Go.Proofs.YtjfajkdamechiaaDoor.X
open Go.RowKit Go.Proofs.YtjfajkdamechiaaDoorW.PrintWords Go.Proofs.YtjfajkdamechiaaDoorW.PrintLast Go.Proofs.YtjfajkdamechiaaDoorW.PrintMore
attribute [local go_sem] max2_int min2_int max_two min_two max_three min_three max_four min_four   -- for this text's walks alone
set_option linter.unusedVariables false
set_option linter.unusedSimpArgs false



def errW : Option Int → Value
  | none => .nilIface
  | some c => .iface 0 (.int .i64 c)
theorem errW_none : errW none = .nilIface := rfl
theorem errW_some (c : Int) : errW (some c) = .iface 0 (.int .i64 c) := rfl

theorem info5 : (Tryd.prog.info? 5).map (fun i => (i.zero, i.size, i.bytes)) = some (some (.int .u8 0), 1, 1) := by kernel_rfl
theorem info9 : (Tryd.prog.info? 9).map (fun i => (i.zero, i.size, i.bytes)) = some (some (.string ⟨#[]⟩), 1, 16) := by kernel_rfl
theorem info36 : (Tryd.prog.info? 36).map (fun i => (i.zero, i.size, i.bytes)) = some (some (.agg #[(.int .i64 0), (.int .i64 0), (.string ⟨#[]⟩), (.string ⟨#[]⟩), (.string ⟨#[]⟩), (.string ⟨#[]⟩), (.string ⟨#[]⟩), (.string ⟨#[]⟩), (.string ⟨#[]⟩), (.string ⟨#[]⟩), (.string ⟨#[]⟩), (.string ⟨#[]⟩), (.slice none 0 0)]), 13, 200) := by kernel_rfl
-- the values' own types
/-! #### struct type 34 -/
structure S34 where
  f0 : ByteArray
  f1 : ByteArray
  f2 : ByteArray
  f3 : ByteArray
  f4 : ByteArray
  f5 : ByteArray
def z34 : S34 := ⟨(⟨#[]⟩ : ByteArray), (⟨#[]⟩ : ByteArray), (⟨#[]⟩ : ByteArray), (⟨#[]⟩ : ByteArray), (⟨#[]⟩ : ByteArray), (⟨#[]⟩ : ByteArray)⟩
def k34 : Kd S34 := Kd.iso (Kd.pair Kd.string (Kd.pair Kd.string (Kd.pair Kd.string (Kd.pair Kd.string (Kd.pair Kd.string Kd.string))))) (fun x : S34 => (x.f0, x.f1, x.f2, x.f3, x.f4, x.f5))
theorem k34_open {w : World} {x : S34} {cs : List Value} (h : k34.K w x cs) : cs = [.string x.f0, .string x.f1, .string x.f2, .string x.f3, .string x.f4, .string x.f5] := by
  obtain ⟨_, _, rfl, rfl, ⟨_, _, rfl, rfl, ⟨_, _, rfl, rfl, ⟨_, _, rfl, rfl, ⟨_, _, rfl, rfl, rfl⟩⟩⟩⟩⟩ := h
  exact rfl
theorem k34_openM {w : World} {base : Nat} {ok : Nat → Prop} {x : S34} {cs : List Value} (h : k34.M w base ok x cs) : cs = [.string x.f0, .string x.f1, .string x.f2, .string x.f3, .string x.f4, .string x.f5] := by
  obtain ⟨_, _, rfl, rfl, ⟨_, _, rfl, rfl, ⟨_, _, rfl, rfl, ⟨_, _, rfl, rfl, ⟨_, _, rfl, rfl, rfl⟩⟩⟩⟩⟩ := h
  exact rfl
theorem k34_mk (w : World) (x : S34)  : k34.K w x [.string x.f0, .string x.f1, .string x.f2, .string x.f3, .string x.f4, .string x.f5] := ⟨[.string x.f0], [.string x.f1, .string x.f2, .string x.f3, .string x.f4, .string x.f5], rfl, rfl, ⟨[.string x.f1], [.string x.f2, .string x.f3, .string x.f4, .string x.f5], rfl, rfl, ⟨[.string x.f2], [.string x.f3, .string x.f4, .string x.f5], rfl, rfl, ⟨[.string x.f3], [.string x.f4, .string x.f5], rfl, rfl, ⟨[.string x.f4], [.string x.f5], rfl, rfl, rfl⟩⟩⟩⟩⟩
theorem k34_mkM (w : World) (base : Nat) (ok : Nat → Prop) (x : S34)  : k34.M w base ok x [.string x.f0, .string x.f1, .string x.f2, .string x.f3, .string x.f4, .string x.f5] := ⟨[.string x.f0], [.string x.f1, .string x.f2, .string x.f3, .string x.f4, .string x.f5], rfl, rfl, ⟨[.string x.f1], [.string x.f2, .string x.f3, .string x.f4, .string x.f5], rfl, rfl, ⟨[.string x.f2], [.string x.f3, .string x.f4, .string x.f5], rfl, rfl, ⟨[.string x.f3], [.string x.f4, .string x.f5], rfl, rfl, ⟨[.string x.f4], [.string x.f5], rfl, rfl, rfl⟩⟩⟩⟩⟩
theorem k34_mkF (W : World) (ok : Nat → Prop) (x : S34) : Kd.FK k34 W ok x [.string x.f0, .string x.f1, .string x.f2, .string x.f3, .string x.f4, .string x.f5] := fun W2 _ => k34_mk W2 x
def rd_T34 (xs : List S34) (i : Int) : S34 := xs.getD i.toNat z34
theorem at_T34 {w : World} {A : Option Addr} {n : Nat} {xs : List S34} (h : Kd.C k34 w A n xs) (i : Int) (h0 : 0 ≤ i) (h1 : i < n) : ∃ ad , A = some ad ∧ w.cell? (ad.add (i.toNat * 6)) = some (.string (rd_T34 xs i).f0) ∧ w.cell? ⟨(ad.add (i.toNat * 6)).block, (ad.add (i.toNat * 6)).off + 1, none⟩ = some (.string (rd_T34 xs i).f1) ∧ w.cell? ⟨(ad.add (i.toNat * 6)).block, (ad.add (i.toNat * 6)).off + 2, none⟩ = some (.string (rd_T34 xs i).f2) ∧ w.cell? ⟨(ad.add (i.toNat * 6)).block, (ad.add (i.toNat * 6)).off + 3, none⟩ = some (.string (rd_T34 xs i).f3) ∧ w.cell? ⟨(ad.add (i.toNat * 6)).block, (ad.add (i.toNat * 6)).off + 4, none⟩ = some (.string (rd_T34 xs i).f4) ∧ w.cell? ⟨(ad.add (i.toNat * 6)).block, (ad.add (i.toNat * 6)).off + 5, none⟩ = some (.string (rd_T34 xs i).f5) := by
  obtain ⟨ad, c, e, _, hK, hc0⟩ := Kd.C_get h z34 i h0 h1
  have hc : ∀ j u, c[j]? = some u → w.cell? (ad.add (i.toNat * 6 + j)) = some u := hc0
  obtain rfl := k34_open hK
  exact ⟨ad, e, hc 0 _ rfl, by rw [← add_field _ _ 1 (by omega)]; exact hc 1 _ rfl, by rw [← add_field _ _ 2 (by omega)]; exact hc 2 _ rfl, by rw [← add_field _ _ 3 (by omega)]; exact hc 3 _ rfl, by rw [← add_field _ _ 4 (by omega)]; exact hc 4 _ rfl, by rw [← add_field _ _ 5 (by omega)]; exact hc 5 _ rfl⟩

def rd_L3 (xs : List (List ByteArray)) (i : Int) : (List ByteArray) := xs.getD i.toNat ([] : List ByteArray)
theorem at_L3 {w : World} {A : Option Addr} {n : Nat} {xs : List (List ByteArray)} (h : Kd.C (Kd.slice 9 Kd.string) w A n xs) (i : Int) (h0 : 0 ≤ i) (h1 : i < n) : ∃ ad A0 c0, A = some ad ∧ w.cell? (ad.add i.toNat) = some (.slice A0 (rd_L3 xs i).length c0) ∧ (rd_L3 xs i).length ≤ c0 ∧ Kd.string.C w A0 (rd_L3 xs i).length (rd_L3 xs i) := by
  obtain ⟨ad, c, e, _, hK, hc0⟩ := Kd.C_get h ([] : List ByteArray) i h0 h1
  have hc : ∀ j u, c[j]? = some u → w.cell? (ad.add (i.toNat * 1 + j)) = some u := hc0
  obtain ⟨A0, c0, rfl, l0, g0⟩ := hK
  exact ⟨ad, A0, c0, e, by have hq := hc 0 _ rfl; rwa [Nat.mul_one, Nat.add_zero] at hq, l0, g0⟩

/-! #### struct type 36 -/
structure S36 where
  f0 : Int
  f1 : Int
  f2 : S34
  f3 : ByteArray
  f4 : ByteArray
  f5 : ByteArray
  f6 : ByteArray
  f7 : (List ByteArray)
def z36 : S36 := ⟨(0 : Int), (0 : Int), z34, (⟨#[]⟩ : ByteArray), (⟨#[]⟩ : ByteArray), (⟨#[]⟩ : ByteArray), (⟨#[]⟩ : ByteArray), ([] : List ByteArray)⟩
def k36 : Kd S36 := Kd.iso (Kd.pair (Kd.int .i64) (Kd.pair (Kd.int .i64) (Kd.pair k34 (Kd.pair Kd.string (Kd.pair Kd.string (Kd.pair Kd.string (Kd.pair Kd.string (Kd.slice 9 Kd.string)))))))) (fun x : S36 => (x.f0, x.f1, x.f2, x.f3, x.f4, x.f5, x.f6, x.f7))
theorem k36_open {w : World} {x : S36} {cs : List Value} (h : k36.K w x cs) : ∃ A12 c12, cs = [.int .i64 x.f0, .int .i64 x.f1, .string x.f2.f0, .string x.f2.f1, .string x.f2.f2, .string x.f2.f3, .string x.f2.f4, .string x.f2.f5, .string x.f3, .string x.f4, .string x.f5, .string x.f6, .slice A12 x.f7.length c12] ∧ x.f7.length ≤ c12 ∧ Kd.string.C w A12 x.f7.length x.f7 := by
  obtain ⟨_, _, rfl, rfl, ⟨_, _, rfl, rfl, ⟨_, _, rfl, s2, ⟨_, _, rfl, rfl, ⟨_, _, rfl, rfl, ⟨_, _, rfl, rfl, ⟨_, _, rfl, rfl, ⟨A12, c12, rfl, l12, g12⟩⟩⟩⟩⟩⟩⟩⟩ := h
  obtain rfl := k34_open s2
  exact ⟨A12, c12, rfl, l12, g12⟩
theorem k36_openM {w : World} {base : Nat} {ok : Nat → Prop} {x : S36} {cs : List Value} (h : k36.M w base ok x cs) : ∃ v12, cs = [.int .i64 x.f0, .int .i64 x.f1, .string x.f2.f0, .string x.f2.f1, .string x.f2.f2, .string x.f2.f3, .string x.f2.f4, .string x.f2.f5, .string x.f3, .string x.f4, .string x.f5, .string x.f6, v12] ∧ Kd.string.R 9 w base ok v12 x.f7 := by
  obtain ⟨_, _, rfl, rfl, ⟨_, _, rfl, rfl, ⟨_, _, rfl, s2, ⟨_, _, rfl, rfl, ⟨_, _, rfl, rfl, ⟨_, _, rfl, rfl, ⟨_, _, rfl, rfl, ⟨v12, rfl, g12⟩⟩⟩⟩⟩⟩⟩⟩ := h
  obtain rfl := k34_openM s2
  exact ⟨v12, rfl, g12⟩
theorem k36_mk (w : World) (x : S36) {A12 : Option Addr} {c12 : Nat} (l12 : x.f7.length ≤ c12) (g12 : Kd.string.C w A12 x.f7.length x.f7) : k36.K w x [.int .i64 x.f0, .int .i64 x.f1, .string x.f2.f0, .string x.f2.f1, .string x.f2.f2, .string x.f2.f3, .string x.f2.f4, .string x.f2.f5, .string x.f3, .string x.f4, .string x.f5, .string x.f6, .slice A12 x.f7.length c12] := ⟨[.int .i64 x.f0], [.int .i64 x.f1, .string x.f2.f0, .string x.f2.f1, .string x.f2.f2, .string x.f2.f3, .string x.f2.f4, .string x.f2.f5, .string x.f3, .string x.f4, .string x.f5, .string x.f6, .slice A12 x.f7.length c12], rfl, rfl, ⟨[.int .i64 x.f1], [.string x.f2.f0, .string x.f2.f1, .string x.f2.f2, .string x.f2.f3, .string x.f2.f4, .string x.f2.f5, .string x.f3, .string x.f4, .string x.f5, .string x.f6, .slice A12 x.f7.length c12], rfl, rfl, ⟨[.string x.f2.f0, .string x.f2.f1, .string x.f2.f2, .string x.f2.f3, .string x.f2.f4, .string x.f2.f5], [.string x.f3, .string x.f4, .string x.f5, .string x.f6, .slice A12 x.f7.length c12], rfl, (k34_mk w x.f2 ), ⟨[.string x.f3], [.string x.f4, .string x.f5, .string x.f6, .slice A12 x.f7.length c12], rfl, rfl, ⟨[.string x.f4], [.string x.f5, .string x.f6, .slice A12 x.f7.length c12], rfl, rfl, ⟨[.string x.f5], [.string x.f6, .slice A12 x.f7.length c12], rfl, rfl, ⟨[.string x.f6], [.slice A12 x.f7.length c12], rfl, rfl, ⟨A12, c12, rfl, l12, g12⟩⟩⟩⟩⟩⟩⟩⟩
theorem k36_mkM (w : World) (base : Nat) (ok : Nat → Prop) (x : S36) {v12 : Value} (g12 : Kd.string.R 9 w base ok v12 x.f7) : k36.M w base ok x [.int .i64 x.f0, .int .i64 x.f1, .string x.f2.f0, .string x.f2.f1, .string x.f2.f2, .string x.f2.f3, .string x.f2.f4, .string x.f2.f5, .string x.f3, .string x.f4, .string x.f5, .string x.f6, v12] := ⟨[.int .i64 x.f0], [.int .i64 x.f1, .string x.f2.f0, .string x.f2.f1, .string x.f2.f2, .string x.f2.f3, .string x.f2.f4, .string x.f2.f5, .string x.f3, .string x.f4, .string x.f5, .string x.f6, v12], rfl, rfl, ⟨[.int .i64 x.f1], [.string x.f2.f0, .string x.f2.f1, .string x.f2.f2, .string x.f2.f3, .string x.f2.f4, .string x.f2.f5, .string x.f3, .string x.f4, .string x.f5, .string x.f6, v12], rfl, rfl, ⟨[.string x.f2.f0, .string x.f2.f1, .string x.f2.f2, .string x.f2.f3, .string x.f2.f4, .string x.f2.f5], [.string x.f3, .string x.f4, .string x.f5, .string x.f6, v12], rfl, (k34_mkM w base ok x.f2 ), ⟨[.string x.f3], [.string x.f4, .string x.f5, .string x.f6, v12], rfl, rfl, ⟨[.string x.f4], [.string x.f5, .string x.f6, v12], rfl, rfl, ⟨[.string x.f5], [.string x.f6, v12], rfl, rfl, ⟨[.string x.f6], [v12], rfl, rfl, ⟨v12, rfl, g12⟩⟩⟩⟩⟩⟩⟩⟩
theorem k36_openF {W : World} {ok : Nat → Prop} {x : S36} {cs : List Value} (h : Kd.FK k36 W ok x cs) : ∃ A12 c12, cs = [.int .i64 x.f0, .int .i64 x.f1, .string x.f2.f0, .string x.f2.f1, .string x.f2.f2, .string x.f2.f3, .string x.f2.f4, .string x.f2.f5, .string x.f3, .string x.f4, .string x.f5, .string x.f6, .slice A12 x.f7.length c12] ∧ x.f7.length ≤ c12 ∧ Kd.F Kd.string W ok A12 x.f7.length x.f7 := by
  obtain ⟨A12, c12, rfl, l12, _⟩ := k36_open (Kd.FK_now h)
  exact ⟨A12, c12, rfl, l12, (fun W' hW => by obtain ⟨A12_, c12_, he, l12_, g12_⟩ := k36_open (h W' hW); injection (Option.some.inj (show some (Value.slice A12 x.f7.length c12) = some (Value.slice A12_ x.f7.length c12_) from congrArg (fun l => l[12]?) he)) with ha_ _ _; rw [ha_]; exact g12_)⟩
theorem k36_mkF (W : World) (ok : Nat → Prop) (x : S36) {A12 : Option Addr} {c12 : Nat} (l12 : x.f7.length ≤ c12) (g12 : Kd.F Kd.string W ok A12 x.f7.length x.f7) : Kd.FK k36 W ok x [.int .i64 x.f0, .int .i64 x.f1, .string x.f2.f0, .string x.f2.f1, .string x.f2.f2, .string x.f2.f3, .string x.f2.f4, .string x.f2.f5, .string x.f3, .string x.f4, .string x.f5, .string x.f6, .slice A12 x.f7.length c12] := fun W2 hW => k36_mk W2 x l12 (g12 W2 hW)
def rd_T36 (xs : List S36) (i : Int) : S36 := xs.getD i.toNat z36
theorem at_T36 {w : World} {A : Option Addr} {n : Nat} {xs : List S36} (h : Kd.C k36 w A n xs) (i : Int) (h0 : 0 ≤ i) (h1 : i < n) : ∃ ad A12 c12, A = some ad ∧ w.cell? (ad.add (i.toNat * 13)) = some (.int .i64 (rd_T36 xs i).f0) ∧ w.cell? ⟨(ad.add (i.toNat * 13)).block, (ad.add (i.toNat * 13)).off + 1, none⟩ = some (.int .i64 (rd_T36 xs i).f1) ∧ w.cell? ⟨(ad.add (i.toNat * 13)).block, (ad.add (i.toNat * 13)).off + 2, none⟩ = some (.string (rd_T36 xs i).f2.f0) ∧ w.cell? ⟨(ad.add (i.toNat * 13)).block, (ad.add (i.toNat * 13)).off + 3, none⟩ = some (.string (rd_T36 xs i).f2.f1) ∧ w.cell? ⟨(ad.add (i.toNat * 13)).block, (ad.add (i.toNat * 13)).off + 4, none⟩ = some (.string (rd_T36 xs i).f2.f2) ∧ w.cell? ⟨(ad.add (i.toNat * 13)).block, (ad.add (i.toNat * 13)).off + 5, none⟩ = some (.string (rd_T36 xs i).f2.f3) ∧ w.cell? ⟨(ad.add (i.toNat * 13)).block, (ad.add (i.toNat * 13)).off + 6, none⟩ = some (.string (rd_T36 xs i).f2.f4) ∧ w.cell? ⟨(ad.add (i.toNat * 13)).block, (ad.add (i.toNat * 13)).off + 7, none⟩ = some (.string (rd_T36 xs i).f2.f5) ∧ w.cell? ⟨(ad.add (i.toNat * 13)).block, (ad.add (i.toNat * 13)).off + 8, none⟩ = some (.string (rd_T36 xs i).f3) ∧ w.cell? ⟨(ad.add (i.toNat * 13)).block, (ad.add (i.toNat * 13)).off + 9, none⟩ = some (.string (rd_T36 xs i).f4) ∧ w.cell? ⟨(ad.add (i.toNat * 13)).block, (ad.add (i.toNat * 13)).off + 10, none⟩ = some (.string (rd_T36 xs i).f5) ∧ w.cell? ⟨(ad.add (i.toNat * 13)).block, (ad.add (i.toNat * 13)).off + 11, none⟩ = some (.string (rd_T36 xs i).f6) ∧ w.cell? ⟨(ad.add (i.toNat * 13)).block, (ad.add (i.toNat * 13)).off + 12, none⟩ = some (.slice A12 (rd_T36 xs i).f7.length c12) ∧ (rd_T36 xs i).f7.length ≤ c12 ∧ Kd.string.C w A12 (rd_T36 xs i).f7.length (rd_T36 xs i).f7 := by
  obtain ⟨ad, c, e, _, hK, hc0⟩ := Kd.C_get h z36 i h0 h1
  have hc : ∀ j u, c[j]? = some u → w.cell? (ad.add (i.toNat * 13 + j)) = some u := hc0
  obtain ⟨A12, c12, rfl, l12, g12⟩ := k36_open hK
  exact ⟨ad, A12, c12, e, hc 0 _ rfl, by rw [← add_field _ _ 1 (by omega)]; exact hc 1 _ rfl, by rw [← add_field _ _ 2 (by omega)]; exact hc 2 _ rfl, by rw [← add_field _ _ 3 (by omega)]; exact hc 3 _ rfl, by rw [← add_field _ _ 4 (by omega)]; exact hc 4 _ rfl, by rw [← add_field _ _ 5 (by omega)]; exact hc 5 _ rfl, by rw [← add_field _ _ 6 (by omega)]; exact hc 6 _ rfl, by rw [← add_field _ _ 7 (by omega)]; exact hc 7 _ rfl, by rw [← add_field _ _ 8 (by omega)]; exact hc 8 _ rfl, by rw [← add_field _ _ 9 (by omega)]; exact hc 9 _ rfl, by rw [← add_field _ _ 10 (by omega)]; exact hc 10 _ rfl, by rw [← add_field _ _ 11 (by omega)]; exact hc 11 _ rfl, by rw [← add_field _ _ 12 (by omega)]; exact hc 12 _ rfl, l12, g12⟩

def rd_L5 (xs : List (List S36)) (i : Int) : (List S36) := xs.getD i.toNat ([] : List S36)
theorem at_L5 {w : World} {A : Option Addr} {n : Nat} {xs : List (List S36)} (h : Kd.C (Kd.slice 36 k36) w A n xs) (i : Int) (h0 : 0 ≤ i) (h1 : i < n) : ∃ ad A0 c0, A = some ad ∧ w.cell? (ad.add i.toNat) = some (.slice A0 (rd_L5 xs i).length c0) ∧ (rd_L5 xs i).length ≤ c0 ∧ k36.C w A0 (rd_L5 xs i).length (rd_L5 xs i) := by
  obtain ⟨ad, c, e, _, hK, hc0⟩ := Kd.C_get h ([] : List S36) i h0 h1
  have hc : ∀ j u, c[j]? = some u → w.cell? (ad.add (i.toNat * 1 + j)) = some u := hc0
  obtain ⟨A0, c0, rfl, l0, g0⟩ := hK
  exact ⟨ad, A0, c0, e, by have hq := hc 0 _ rfl; rwa [Nat.mul_one, Nat.add_zero] at hq, l0, g0⟩

theorem cfar {W : World} {a : Addr} {g j : Nat} {u : Value} {r : Option Value} (hk : W.cell? a = r) (h : a.block ≠ g) : (W.setCell ⟨g, j, none⟩ u).cell? a = r := (cell_far h u).trans hk
theorem blk_belowB {w0 w w1 : World} {g : Nat} {o : Obj} (_ : w0.heap[g]? = some o) (h : w.heap[g]? = some o) (hb : Below w.heap.size w w1) : w1.heap[g]? = some o := blk_below h hb
def setAll : World → Nat → Nat → List Value → World
  | w, _, _, [] => w
  | w, g, i, u :: r => setAll (w.setCell ⟨g, i, none⟩ u) g (i + 1) r
theorem fill_from (g t : Nat) : ∀ (us pre rest : List Value) (w : World), w.heap[g]? = some (.cells (pre ++ rest).toArray t (0, 0)) → rest.length = us.length → (setAll w g pre.length us).heap[g]? = some (.cells (pre ++ us).toArray t (0, 0))
  | [], pre, rest, w, h, hl => by
    obtain rfl := List.length_eq_zero_iff.1 hl
    exact h
  | u :: r, pre, [], w, h, hl => by cases hl
  | u :: r, pre, x :: rest, w, h, hl => by
    have h1 := blk_put h pre.length u (cs' := ((pre ++ [u]) ++ rest).toArray) (by
      rw [List.setIfInBounds_toArray]
      congr 1
      rw [List.set_append_right _ _ (Nat.le_refl _), Nat.sub_self]
      simp)
    have h2 := fill_from g t r (pre ++ [u]) rest _ h1 (by simpa using hl)
    rw [List.length_append, List.append_assoc] at h2
    exact h2
theorem fillR {g t : Nat} {us cs : List Value} {w w1 : World} {R : Option Obj} (hR : R = some (.cells us.toArray t (0, 0))) (hw : w1 = setAll w g 0 us) (h : w.heap[g]? = some (.cells cs.toArray t (0, 0))) (hl : cs.length = us.length) : w1.heap[g]? = R := by
  rw [hR, hw]
  exact fill_from g t us [] cs w h hl
theorem cells6 {w : World} {g t : Nat} {u0 u1 u2 u3 u4 u5 : Value} (h : w.heap[g]? = some (.cells #[u0, u1, u2, u3, u4, u5] t (0, 0))) : w.cell? ⟨g, 0, none⟩ = some u0 ∧ w.cell? ⟨g, 1, none⟩ = some u1 ∧ w.cell? ⟨g, 2, none⟩ = some u2 ∧ w.cell? ⟨g, 3, none⟩ = some u3 ∧ w.cell? ⟨g, 4, none⟩ = some u4 ∧ w.cell? ⟨g, 5, none⟩ = some u5 := ⟨(blk_cell h 0).trans rfl, (blk_cell h 1).trans rfl, (blk_cell h 2).trans rfl, (blk_cell h 3).trans rfl, (blk_cell h 4).trans rfl, (blk_cell h 5).trans rfl⟩
theorem froz6 {w : World} {g t : Nat} {u0 u1 u2 u3 u4 u5 : Value} (h : w.heap[g]? = some (.cells #[u0, u1, u2, u3, u4, u5] t (0, 0))) : w.frozen? ⟨g, 0, none⟩ = false ∧ w.frozen? ⟨g, 1, none⟩ = false ∧ w.frozen? ⟨g, 2, none⟩ = false ∧ w.frozen? ⟨g, 3, none⟩ = false ∧ w.frozen? ⟨g, 4, none⟩ = false ∧ w.frozen? ⟨g, 5, none⟩ = false := ⟨blk_frozen h 0, blk_frozen h 1, blk_frozen h 2, blk_frozen h 3, blk_frozen h 4, blk_frozen h 5⟩
theorem cells13 {w : World} {g t : Nat} {u0 u1 u2 u3 u4 u5 u6 u7 u8 u9 u10 u11 u12 : Value} (h : w.heap[g]? = some (.cells #[u0, u1, u2, u3, u4, u5, u6, u7, u8, u9, u10, u11, u12] t (0, 0))) : w.cell? ⟨g, 0, none⟩ = some u0 ∧ w.cell? ⟨g, 1, none⟩ = some u1 ∧ w.cell? ⟨g, 2, none⟩ = some u2 ∧ w.cell? ⟨g, 3, none⟩ = some u3 ∧ w.cell? ⟨g, 4, none⟩ = some u4 ∧ w.cell? ⟨g, 5, none⟩ = some u5 ∧ w.cell? ⟨g, 6, none⟩ = some u6 ∧ w.cell? ⟨g, 7, none⟩ = some u7 ∧ w.cell? ⟨g, 8, none⟩ = some u8 ∧ w.cell? ⟨g, 9, none⟩ = some u9 ∧ w.cell? ⟨g, 10, none⟩ = some u10 ∧ w.cell? ⟨g, 11, none⟩ = some u11 ∧ w.cell? ⟨g, 12, none⟩ = some u12 := ⟨(blk_cell h 0).trans rfl, (blk_cell h 1).trans rfl, (blk_cell h 2).trans rfl, (blk_cell h 3).trans rfl, (blk_cell h 4).trans rfl, (blk_cell h 5).trans rfl, (blk_cell h 6).trans rfl, (blk_cell h 7).trans rfl, (blk_cell h 8).trans rfl, (blk_cell h 9).trans rfl, (blk_cell h 10).trans rfl, (blk_cell h 11).trans rfl, (blk_cell h 12).trans rfl⟩
theorem froz13 {w : World} {g t : Nat} {u0 u1 u2 u3 u4 u5 u6 u7 u8 u9 u10 u11 u12 : Value} (h : w.heap[g]? = some (.cells #[u0, u1, u2, u3, u4, u5, u6, u7, u8, u9, u10, u11, u12] t (0, 0))) : w.frozen? ⟨g, 0, none⟩ = false ∧ w.frozen? ⟨g, 1, none⟩ = false ∧ w.frozen? ⟨g, 2, none⟩ = false ∧ w.frozen? ⟨g, 3, none⟩ = false ∧ w.frozen? ⟨g, 4, none⟩ = false ∧ w.frozen? ⟨g, 5, none⟩ = false ∧ w.frozen? ⟨g, 6, none⟩ = false ∧ w.frozen? ⟨g, 7, none⟩ = false ∧ w.frozen? ⟨g, 8, none⟩ = false ∧ w.frozen? ⟨g, 9, none⟩ = false ∧ w.frozen? ⟨g, 10, none⟩ = false ∧ w.frozen? ⟨g, 11, none⟩ = false ∧ w.frozen? ⟨g, 12, none⟩ = false := ⟨blk_frozen h 0, blk_frozen h 1, blk_frozen h 2, blk_frozen h 3, blk_frozen h 4, blk_frozen h 5, blk_frozen h 6, blk_frozen h 7, blk_frozen h 8, blk_frozen h 9, blk_frozen h 10, blk_frozen h 11, blk_frozen h 12⟩
end Go.Proofs.YtjfajkdamechiaaDoor.X
