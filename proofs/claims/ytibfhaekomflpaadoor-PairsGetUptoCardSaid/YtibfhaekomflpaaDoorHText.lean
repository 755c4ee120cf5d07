/- Quote and Unquote: the program's two texts over a strings.Builder. -/
import Derived.Test.YtibfhaekomflpaaDoorX8
import Derived.Test.YtibfhaekomflpaaDoorX4
import Derived.Test.YtibfhaekomflpaaDoorSh
import Derived.Test.YtibfhaekomflpaaDoorHSpec
import Derived.Test.YtibfhaekomflpaaDoorHLib
import Derived.WalkKit
import Derived.Deep.LoopGhost
import Derived.StillTailTactics
import Derived.IntWalk
namespace Go.Proofs.YtibfhaekomflpaaDoor.X
open Go.RowKit Go.Proofs.YtibfhaekomflpaaDoorW.PrintWords Go.Proofs.YtibfhaekomflpaaDoorW.PrintLast Go.Proofs.YtibfhaekomflpaaDoorW.PrintMore Go.Proofs.YtibfhaekomflpaaDoor.Spec
set_option linter.unusedVariables false
set_option linter.unusedSimpArgs false

theorem plain_fin : ∀ n : Fin 256, text_Plain.f (n.val : Int) = some (plainc (UInt8.ofNat n.val)) := by decide +kernel
theorem plain_byte (c : UInt8) : text_Plain.f (c.toNat : Int) = some (plainc c) := by
  have := plain_fin ⟨c.toNat, c.toNat_lt⟩
  simpa using this
theorem plain_call (c : UInt8) (w : World) : Calls Tryd.prog 32 #[.int .u8 (c.toNat : Int)] w fun e w' => e = .returned (.bool (plainc c)) ∧ Drawn0 w w' :=
  text_Plain.calls _ _ w (plain_byte c)

theorem great_fin : ∀ n : Fin 16, ((⟨#[48, 49, 50, 51, 52, 53, 54, 55, 56, 57, 65, 66, 67, 68, 69, 70]⟩ : ByteArray)[n.val]'n.isLt) = greatc n.val := by decide +kernel
theorem great_at (n : Nat) (h : n < (⟨#[48, 49, 50, 51, 52, 53, 54, 55, 56, 57, 65, 66, 67, 68, 69, 70]⟩ : ByteArray).size) : ((⟨#[48, 49, 50, 51, 52, 53, 54, 55, 56, 57, 65, 66, 67, 68, 69, 70]⟩ : ByteArray)[n]'h) = greatc n := great_fin ⟨n, h⟩
def text_Quote.f (a0 : ByteArray) : Option ByteArray := if a0.size ≤ 35184372088832 then some (ba (quoteL (bl a0))) else none

theorem take_snoc (l : List UInt8) (k : Nat) (h : k < l.length) : l.take (k + 1) = l.take k ++ [l[k]] := by
  rw [List.take_succ_eq_append_getElem h]

set_option maxHeartbeats 4000000 in
set_option maxRecDepth 100000 in
theorem text_Quote.calls (a0 : ByteArray) (r : ByteArray) (w : World) (h : text_Quote.f a0 = some r) :
    Calls Tryd.prog 23 #[.string a0] w fun e w' => e = .returned (.string r) ∧ Below w.heap.size w w' := by
  unfold text_Quote.f at h
  split at h
  case isFalse => cases h
  rename_i hs
  obtain rfl := Option.some.inj h
  clear h
  go_enter Tryd.func23, Tryd.ntmps23
  go_wp2
  go_loopw [8] (fun i wr => ∃ k : Nat, k ≤ a0.size ∧ i = .int .i64 k ∧ Aside0 (Lib.IsBuilder 64 5 w.heap.size w.heap.size (Lib.byteCells (quoteL ((bl a0).take k))) wr) ∧ Aside0 (Below w.heap.size w wr)) (fun i _ => a0.size - (intOf i).toNat)
  case atStart =>
    exact ⟨0, Nat.zero_le _, rfl, ⟨Lib.fresh_isBuilder 64 5 w⟩, ⟨(Below.refl _ w).alloc (Nat.le_refl _) _⟩⟩
  case round =>
    obtain ⟨k, hk, rfl, HI, HB⟩ := hrel
    have hl3 : (Lib.byteCells (quoteL ((bl a0).take k))).length ≤ 3 * k := by
      rw [Lib.byteCells_length]
      refine Nat.le_trans (quoteL_length _) ?_
      have := List.length_take_le k (bl a0)
      omega
    have hBw : w.heap.size ≤ wr.heap.size := HB.out.size
    by_cases hlt : k < a0.size
    · have hts : quoteL ((bl a0).take (k + 1)) = quoteL ((bl a0).take k) ++ quote1 (a0[k]'hlt) := by
        rw [take_snoc _ _ (by rw [bl_length]; exact hlt), quoteL_snoc]
        rfl
      have HT := Aside0.mk hts
      clear hts
      by_cases hp : plainc (a0[k]'hlt) = true
      · have h1 : quote1 (a0[k]'hlt) = [a0[k]'hlt] := by unfold quote1; rw [if_pos hp]
        rw [h1] at HT
        have HP := Aside0.mk hp
        clear h1 hp
        go_wp2_with fail
        refine (plain_call _ _).mono ?_
        rw [HP.out]
        rintro e w1 ⟨rfl, ⟨n, rfl⟩⟩
        go_wp2_with fail
        refine (Sh.Builder_WriteByte w.heap.size w.heap.size (Lib.byteCells (quoteL ((bl a0).take k))) ((a0[k]'hlt).toNat : Int) (wr.drewN n) HI.out (by omega) hBw).mono ?_
        rintro e w2 ⟨rfl, h2, hb2⟩
        have H2 := Aside0.mk h2
        have HB2 := Aside0.mk ((pw_below_drewN HB.out n).trans hb2)
        clear h2 hb2
        go_wp2
        go_roundw
        case rel => exact ⟨k + 1, by omega, by go_num, ⟨by rw [HT.out, Lib.byteCells_append]; exact Or.inr H2.out⟩, HB2⟩
        case measure => simp [intOf]; omega
      · have h1 : quote1 (a0[k]'hlt) = [37, greatc ((a0[k]'hlt).toNat / 16), greatc ((a0[k]'hlt).toNat % 16)] := by unfold quote1; rw [if_neg hp]
        rw [h1] at HT
        have HP := Aside0.mk (Bool.eq_false_iff.2 hp)
        clear h1 hp
        go_wp2_with fail
        refine (plain_call _ _).mono ?_
        rw [HP.out]
        rintro e w1 ⟨rfl, ⟨n, rfl⟩⟩
        go_wp2_with fail
        refine (Sh.Builder_WriteString w.heap.size w.heap.size (Lib.byteCells (quoteL ((bl a0).take k))) (⟨#[37]⟩ : ByteArray) (wr.drewN n) HI.out (by have : ByteArray.size ⟨#[37]⟩ = 1 := rfl; omega) hBw).mono ?_
        rintro e w2 ⟨rfl, h2, hb2⟩
        have H2 := Aside0.mk h2
        have HB2 := Aside0.mk ((pw_below_drewN HB.out n).trans hb2)
        clear h2 hb2
        have hl4 : (Lib.byteCells (quoteL ((bl a0).take k)) ++ Lib.strCells (⟨#[37]⟩ : ByteArray)).length ≤ 3 * k + 1 := by
          rw [List.length_append, Lib.strCells_length]
          have : ByteArray.size ⟨#[37]⟩ = 1 := rfl
          omega
        have hBw2 : w.heap.size ≤ w2.heap.size := HB2.out.size
        have b0 : (0 : Int) ≤ ((a0[k]'hlt).toNat : Int) / 16 := by omega
        have b1 : ((a0[k]'hlt).toNat : Int) / 16 < 16 := by have := (a0[k]'hlt).toNat_lt; omega
        go_wp2_with fail
        refine (Sh.Builder_WriteByte w.heap.size w.heap.size _ _ w2 (Or.inr H2.out) (by omega) hBw2).mono ?_
        rintro e w3 ⟨rfl, h3, hb3⟩
        have H3 := Aside0.mk h3
        have HB3 := Aside0.mk (HB2.out.trans hb3)
        clear h3 hb3
        have hBw3 : w.heap.size ≤ w3.heap.size := HB3.out.size
        go_wp2_with fail
        refine (Sh.Builder_WriteByte w.heap.size w.heap.size _ _ w3 (Or.inr H3.out) (by rw [List.length_append]; simp only [List.length_cons, List.length_nil]; omega) hBw3).mono ?_
        rintro e w4 ⟨rfl, h4, hb4⟩
        have H4 := Aside0.mk h4
        have HB4 := Aside0.mk (HB3.out.trans hb4)
        clear h4 hb4
        go_wp2
        go_roundw
        case rel =>
          refine ⟨k + 1, by omega, by go_num, ⟨?_⟩, HB4⟩
          have h5 := H4.out
          rw [great_at, great_at] at h5
          rw [HT.out, Lib.byteCells_append]
          refine Or.inr ?_
          simpa [Lib.byteCells, Lib.strCells] using h5
        case measure => simp [intOf]; omega
    · go_wp2_with fail
      refine (Sh.Builder_String_any w.heap.size w.heap.size _ _ HI.out hBw).mono ?_
      rintro e w1 ⟨rfl, hb1⟩
      have HB1 := Aside0.mk (HB.out.trans hb1)
      clear hb1
      have hke : k = a0.size := by omega
      have ht : (bl a0).take k = bl a0 := List.take_of_length_le (by rw [bl_length]; omega)
      have HT := Aside0.mk ht
      clear hke ht
      go_wp2
      go_ret
      exact ⟨by rw [HT.out]; rfl, HB1.out⟩

theorem digit_fin : ∀ n : Fin 256, text_digit.f (n.val : Int) = some (digv (UInt8.ofNat n.val)) := by decide +kernel
set_option maxHeartbeats 1000000 in
theorem digit_same (c : UInt8) (w : World) : Calls Tryd.prog 42 #[.int .u8 (c.toNat : Int)] w fun e w' => e = .returned (.int .i64 (digv c)) ∧ w' = w := by
  have hd := digit_fin ⟨c.toNat, c.toNat_lt⟩
  have hlt := c.toNat_lt
  simp only [UInt8.ofNat_toNat] at hd
  unfold text_digit.f strings_IndexByte.f at hd
  have fin : ∀ x : Int, (x % 256 = if 97 ≤ (c.toNat : Int) ∧ (c.toNat : Int) ≤ 102 then (c.toNat : Int) - 32 else (c.toNat : Int)) → 0 ≤ x → x < 256 → Lib.indexByte (⟨#[48, 49, 50, 51, 52, 53, 54, 55, 56, 57, 65, 66, 67, 68, 69, 70]⟩ : ByteArray).data.toList x.toNat.toUInt8 = digv c := by
    intro x hx h0 h1
    have hx' : x = if 97 ≤ (c.toNat : Int) ∧ (c.toNat : Int) ≤ 102 then (c.toNat : Int) - 32 else (c.toNat : Int) := by omega
    by_cases h1 : (97 : Int) ≤ (c.toNat : Int)
    · by_cases h2 : (c.toNat : Int) ≤ 102
      · rw [if_pos h1, if_pos h2] at hd
        rw [if_pos ⟨h1, h2⟩] at hx'
        subst hx'
        rw [show ((c.toNat : Int) - 32) % 256 = (c.toNat : Int) - 32 from by omega] at hd
        exact Option.some.inj hd
      · rw [if_pos h1, if_neg h2] at hd
        rw [if_neg (fun h => h2 h.2)] at hx'
        subst hx'
        exact Option.some.inj hd
    · rw [if_neg h1] at hd
      rw [if_neg (fun h => h1 h.1)] at hx'
      subst hx'
      exact Option.some.inj hd
  clear hd
  by_cases h1 : (97 : Int) ≤ (c.toNat : Int)
  · by_cases h2 : (c.toNat : Int) ≤ 102
    · have HD := Aside0.mk (fin ((c.toNat : Int) - 32) (by rw [if_pos ⟨h1, h2⟩]; omega) (by omega) (by omega))
      clear fin
      go_enter Tryd.func42, Tryd.ntmps42
      go_wp2_with fail
      refine (Tryd.strings_IndexByte _ _ _).mono ?_
      rw [HD.out]
      rintro e w' ⟨rfl, rfl⟩
      go_wp2
      go_ret
      exact ⟨rfl, rfl⟩
    · have HD := Aside0.mk (fin (c.toNat : Int) (by rw [if_neg (fun h => h2 h.2)]; omega) (by omega) (by omega))
      clear fin
      have h2' : decide ((c.toNat : Int) ≤ 102) = false := decide_eq_false h2
      go_enter Tryd.func42, Tryd.ntmps42
      go_wp2_with fail
      refine (Tryd.strings_IndexByte _ _ _).mono ?_
      rw [HD.out]
      rintro e w' ⟨rfl, rfl⟩
      go_wp2
      go_ret
      exact ⟨rfl, rfl⟩
  · have HD := Aside0.mk (fin (c.toNat : Int) (by rw [if_neg (fun h => h1 h.1)]; omega) (by omega) (by omega))
    clear fin
    have h1' : decide ((97 : Int) ≤ (c.toNat : Int)) = false := decide_eq_false h1
    go_enter Tryd.func42, Tryd.ntmps42
    go_wp2_with fail
    refine (Tryd.strings_IndexByte _ _ _).mono ?_
    rw [HD.out]
    rintro e w' ⟨rfl, rfl⟩
    go_wp2
    go_ret
    exact ⟨rfl, rfl⟩
theorem digit_call (c : UInt8) (w : World) : Calls Tryd.prog 42 #[.int .u8 (c.toNat : Int)] w fun e w' => e = .returned (.int .i64 (digv c)) ∧ Drawn0 w w' := by
  refine text_digit.calls _ _ w ?_
  have := digit_fin ⟨c.toNat, c.toNat_lt⟩
  simpa using this

theorem or_fin : ∀ a b : Fin 16, bits BinOp.or IntKind.i64 ((a.val : Int) * 16) (b.val : Int) % 256 = ((16 * a.val + b.val).toUInt8.toNat : Int) := by decide +kernel
theorem or_hex (x y : Int) (h0 : 0 ≤ x) (h1 : x < 16) (g0 : 0 ≤ y) (g1 : y < 16) : bits BinOp.or IntKind.i64 (x * 16) y % 256 = ((16 * x.toNat + y.toNat).toUInt8.toNat : Int) := by
  have := or_fin ⟨x.toNat, by omega⟩ ⟨y.toNat, by omega⟩
  simp only [Int.toNat_of_nonneg h0, Int.toNat_of_nonneg g0] at this
  exact this
def text_Unquote.f (a0 : ByteArray) : Option (ByteArray × Int) :=
  if a0.size ≤ 140737488355328 then some (match unquoteL (bl a0) with | some l => (ba l, 0) | none => (ba [], 2)) else none

set_option maxHeartbeats 4000000 in
set_option maxRecDepth 100000 in
theorem text_Unquote.calls (a0 : ByteArray) (r1 : ByteArray) (r2 : Int) (w : World) (h : text_Unquote.f a0 = some (r1, r2)) :
    Calls Tryd.prog 30 #[.string a0] w fun e w' => e = .returned (.tuple #[.string r1, .int .i64 r2]) ∧ Below w.heap.size w w' := by
  unfold text_Unquote.f at h
  split at h
  case isFalse => cases h
  rename_i hs
  have H := Aside0.mk (Option.some.inj h)
  clear h
  go_enter Tryd.func30, Tryd.ntmps30
  go_wp2
  go_loopw [5] (fun i wr => ∃ (k : Nat) (acc : List UInt8), k ≤ a0.size ∧ i = .int .i64 k ∧ acc.length ≤ k ∧ Aside0 (unquoteL (bl a0) = (unquoteL ((bl a0).drop k)).map (acc ++ ·)) ∧ Aside0 (Lib.IsBuilder 64 5 w.heap.size w.heap.size (Lib.byteCells acc) wr) ∧ Aside0 (Below w.heap.size w wr)) (fun i _ => a0.size - (intOf i).toNat)
  case atStart =>
    exact ⟨0, [], Nat.zero_le _, rfl, Nat.le_refl _, ⟨by simp⟩, ⟨Lib.fresh_isBuilder 64 5 w⟩, ⟨(Below.refl _ w).alloc (Nat.le_refl _) _⟩⟩
  case round =>
    obtain ⟨k, acc, hk, rfl, hal, HU, HI, HB⟩ := hrel
    have hl3 : (Lib.byteCells acc).length ≤ k := by rw [Lib.byteCells_length]; exact hal
    have hBw : w.heap.size ≤ wr.heap.size := HB.out.size
    by_cases hlt : k < a0.size
    · have hbk : k < (bl a0).length := by rw [bl_length]; exact hlt
      have hdr : (bl a0).drop k = (a0[k]'hlt) :: (bl a0).drop (k + 1) := by
        rw [List.drop_eq_getElem_cons hbk]; rfl
      have HD := Aside0.mk hdr
      clear hdr
      by_cases h37 : (a0[k]'hlt).toNat = 37
      · have e37 : a0[k]'hlt = 37 := UInt8.toNat_inj.1 h37
        have H37 := Aside0.mk e37
        have t43 : (((a0[k]'hlt).toNat : Int) == 43) = false := by rw [beq_eq_false_iff_ne]; omega
        have t37 : (((a0[k]'hlt).toNat : Int) != 37) = false := by rw [bne_eq_false_iff_eq]; omega
        clear e37
        by_cases hroom : k + 2 < a0.size
        · have tge : decide ((a0.size : Int) ≤ (k : Int) + 2) = false := decide_eq_false (by omega)
          have hdr2 : (bl a0).drop (k + 1) = (a0[k + 1]'(by omega)) :: (a0[k + 2]'hroom) :: (bl a0).drop (k + 3) := by
            rw [List.drop_eq_getElem_cons (by rw [bl_length]; omega), List.drop_eq_getElem_cons (i := k + 2) (by rw [bl_length]; omega)]; rfl
          have HD2 := Aside0.mk hdr2
          clear hdr2
          have i1 : (0 : Int) ≤ (k : Int) + 1 := by omega
          have i2 : (k : Int) + 1 < (a0.size : Int) := by omega
          have i3 : (0 : Int) ≤ (k : Int) + 2 := by omega
          have i4 : (k : Int) + 2 < (a0.size : Int) := by omega
          have n1 : ((k : Int) + 1).toNat = k + 1 := by omega
          have n2 : ((k : Int) + 2).toNat = k + 2 := by omega
          by_cases hd1 : digv (a0[k + 1]'(by omega)) < 0
          · have hnone : unquoteL (bl a0) = none := by
              rw [HU.out, HD.out, H37.out, HD2.out, unq_bad _ _ _ (Or.inl hd1)]; rfl
            have HN := Aside0.mk hnone
            clear hnone
            go_wp2_with (go_at_call 42; refine (digit_same _ _).mono ?_; rintro e w' ⟨rfl, rfl⟩)
            go_ret2
            exact ⟨by have := H.out; rw [HN.out] at this; simp only [Prod.mk.injEq] at this; obtain ⟨rfl, rfl⟩ := this; rfl, HB.out⟩
          · by_cases hd2 : digv (a0[k + 2]'hroom) < 0
            · have hnone : unquoteL (bl a0) = none := by
                rw [HU.out, HD.out, H37.out, HD2.out, unq_bad _ _ _ (Or.inr hd2)]; rfl
              have HN := Aside0.mk hnone
              clear hnone
              go_wp2_with fail
              refine (digit_same _ _).mono ?_
              rintro e w' ⟨rfl, rfl⟩
              go_wp2_with fail
              refine (digit_same _ _).mono ?_
              rintro e w' ⟨rfl, rfl⟩
              go_wp2
              go_ret2
              exact ⟨by have := H.out; rw [HN.out] at this; simp only [Prod.mk.injEq] at this; obtain ⟨rfl, rfl⟩ := this; rfl, HB.out⟩
            · have hun : unquoteL (bl a0) = (unquoteL ((bl a0).drop (k + 3))).map ((acc ++ [(16 * (digv (a0[k + 1]'(by omega))).toNat + (digv (a0[k + 2]'hroom)).toNat).toUInt8]) ++ ·) := by
                rw [HU.out, HD.out, H37.out, HD2.out, unq_ok _ _ _ (by omega) (by omega), Option.map_map]
                congr 1
                funext x
                simp
              have HN := Aside0.mk hun
              clear hun
              have m1 := @digv_lt (a0[k + 1]'(by omega))
              have m2 := @digv_lt (a0[k + 2]'hroom)
              go_wp2_with fail
              refine (digit_same _ _).mono ?_
              rintro e w' ⟨rfl, rfl⟩
              go_wp2_with fail
              refine (digit_same _ _).mono ?_
              rintro e w' ⟨rfl, rfl⟩
              go_wp2_with fail
              have s1 : IntKind.i64.wrap ((k : Int) + 1) = (k : Int) + 1 := IntWalk.i64_in _ (by omega)
              have s2 : IntKind.i64.wrap ((k : Int) + 2) = (k : Int) + 2 := IntWalk.i64_in _ (by omega)
              refine wp_region_still_tail 13 (by kernel_rfl) (by kernel_rfl) ?_
              simp only [List.take_succ_cons, List.take_zero, List.drop_succ_cons, List.drop_zero]
              repeat (first | still_call (digit_same _ _) | still_step)
              refine wpStill_nil ?_
              clear s1 s2
              go_wp2_with fail
              refine (Sh.Builder_WriteByte w.heap.size w.heap.size (Lib.byteCells acc) _ w'.drew HI.out (by omega) hBw).mono ?_
              rintro e w2 ⟨rfl, h2, hb2⟩
              have h3 : Lib.byteCells acc ++ [Value.int .u8 (bits BinOp.or IntKind.i64 (digv (a0[k + 1]'(by omega)) * 16) (digv (a0[k + 2]'hroom)) % 256)] = Lib.byteCells (acc ++ [(16 * (digv (a0[k + 1]'(by omega))).toNat + (digv (a0[k + 2]'hroom)).toNat).toUInt8]) := by
                rw [or_hex _ _ (by omega) m1.1 (by omega) m2.1, Lib.byteCells_append]
                rfl
              rw [h3] at h2
              have H2 := Aside0.mk h2
              have HB2 := Aside0.mk ((below_drew HB.out).trans hb2)
              clear h2 hb2 h3
              have hbig : ((k : Int) + 3) ≤ (a0.size : Int) := by omega
              go_wp2
              go_roundw
              case rel => exact ⟨k + 3, acc ++ [(16 * (digv (a0[k + 1]'(by omega))).toNat + (digv (a0[k + 2]'hroom)).toNat).toUInt8], by omega, by go_num, by simp; omega, HN, ⟨Or.inr H2.out⟩, HB2⟩
              case measure => simp [intOf]; omega
        · have tge : decide ((a0.size : Int) ≤ (k : Int) + 2) = true := decide_eq_true (by omega)
          have hnone : unquoteL (bl a0) = none := by
            rw [HU.out, HD.out, H37.out, unq_short _ (by rw [List.length_drop, bl_length]; omega)]; rfl
          have HN := Aside0.mk hnone
          clear hnone
          go_wp2
          go_ret2
          exact ⟨by have := H.out; rw [HN.out] at this; simp only [Prod.mk.injEq] at this; obtain ⟨rfl, rfl⟩ := this; rfl, HB.out⟩
      · have hne : (a0[k]'hlt) ≠ 37 := fun e => h37 (by rw [e]; rfl)
        have hun : unquoteL (bl a0) = (unquoteL ((bl a0).drop (k + 1))).map ((acc ++ [if (a0[k]'hlt) = 43 then 32 else (a0[k]'hlt)]) ++ ·) := by
          rw [HU.out, HD.out, unq_plain _ _ hne, Option.map_map]
          congr 1
          funext x
          simp
        have HN := Aside0.mk hun
        clear hun
        have t37 : (((a0[k]'hlt).toNat : Int) != 37) = true := by rw [bne_iff_ne]; omega
        by_cases h43 : (a0[k]'hlt).toNat = 43
        · have H43 := Aside0.mk (UInt8.toNat_inj.1 h43 : a0[k]'hlt = 43)
          have t43 : (((a0[k]'hlt).toNat : Int) == 43) = true := by rw [beq_iff_eq]; omega
          go_wp2_with fail
          refine (Sh.Builder_WriteByte w.heap.size w.heap.size (Lib.byteCells acc) _ wr HI.out (by omega) hBw).mono ?_
          rintro e w2 ⟨rfl, h2, hb2⟩
          have H2 := Aside0.mk h2
          have HB2 := Aside0.mk (HB.out.trans hb2)
          clear h2 hb2
          go_wp2
          go_roundw
          case rel => exact ⟨k + 1, acc ++ [32], by omega, by go_num, by simp; omega, ⟨by rw [HN.out, H43.out]; rfl⟩, ⟨by rw [Lib.byteCells_append]; exact Or.inr H2.out⟩, HB2⟩
          case measure => simp [intOf]; omega
        · have H43 := Aside0.mk (fun e => h43 (by rw [e]; rfl) : a0[k]'hlt ≠ 43)
          have t43 : (((a0[k]'hlt).toNat : Int) == 43) = false := by rw [beq_eq_false_iff_ne]; omega
          go_wp2_with fail
          refine (Sh.Builder_WriteByte w.heap.size w.heap.size (Lib.byteCells acc) _ wr HI.out (by omega) hBw).mono ?_
          rintro e w2 ⟨rfl, h2, hb2⟩
          have H2 := Aside0.mk h2
          have HB2 := Aside0.mk (HB.out.trans hb2)
          clear h2 hb2
          go_wp2
          go_roundw
          case rel => exact ⟨k + 1, acc ++ [a0[k]'hlt], by omega, by go_num, by simp; omega, ⟨by rw [HN.out, if_neg H43.out]⟩, ⟨by rw [Lib.byteCells_append]; exact Or.inr H2.out⟩, HB2⟩
          case measure => simp [intOf]; omega
    · go_wp2_with fail
      refine (Sh.Builder_String_any w.heap.size w.heap.size acc wr HI.out hBw).mono ?_
      rintro e w1 ⟨rfl, hb1⟩
      have HB1 := Aside0.mk (HB.out.trans hb1)
      clear hb1
      have hsome : unquoteL (bl a0) = some acc := by
        rw [HU.out, List.drop_of_length_le (by rw [bl_length]; omega)]; simp [unquoteL]
      have HS := Aside0.mk hsome
      clear hsome
      go_wp2
      go_ret2
      exact ⟨by have := H.out; rw [HS.out] at this; simp only [Prod.mk.injEq] at this; obtain ⟨rfl, rfl⟩ := this; rfl, HB1.out⟩

end Go.Proofs.YtibfhaekomflpaaDoor.X
