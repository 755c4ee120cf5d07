/- text.Encode and text.Decode: base64url over a strings.Builder. -/
import Derived.Test.YtjfajkdamechiaaDoorHLib
import Derived.Test.YtjfajkdamechiaaDoorHB64S
import Derived.Test.YtjfajkdamechiaaDoorShF
import Derived.WalkKit
import Derived.Deep.LoopGhost
import Derived.StillTailTactics
import Derived.IntWalk
namespace Go.Proofs.YtjfajkdamechiaaDoor.X
open Go.RowKit Go.Proofs.YtjfajkdamechiaaDoorW.PrintWords Go.Proofs.YtjfajkdamechiaaDoorW.PrintLast Go.Proofs.YtjfajkdamechiaaDoorW.PrintMore Go.Proofs.YtjfajkdamechiaaDoor.Spec
set_option linter.unusedVariables false
set_option linter.unusedSimpArgs false

theorem alpha_at (n : Nat) (h : n < alphaB.size) : (alphaB[n]'h) = alpha n := by
  have h2 : n < 64 := h
  have : ∀ m : Fin 64, alphaB[m.val]'m.isLt = alpha m.val := by decide +kernel
  exact this ⟨n, h2⟩
theorem alpha_lit (n : Nat) (h : n < (⟨#[65, 66, 67, 68, 69, 70, 71, 72, 73, 74, 75, 76, 77, 78, 79, 80, 81, 82, 83, 84, 85, 86, 87, 88, 89, 90, 97, 98, 99, 100, 101, 102, 103, 104, 105, 106, 107, 108, 109, 110, 111, 112, 113, 114, 115, 116, 117, 118, 119, 120, 121, 122, 48, 49, 50, 51, 52, 53, 54, 55, 56, 57, 45, 95]⟩ : ByteArray).size) : ((⟨#[65, 66, 67, 68, 69, 70, 71, 72, 73, 74, 75, 76, 77, 78, 79, 80, 81, 82, 83, 84, 85, 86, 87, 88, 89, 90, 97, 98, 99, 100, 101, 102, 103, 104, 105, 106, 107, 108, 109, 110, 111, 112, 113, 114, 115, 116, 117, 118, 119, 120, 121, 122, 48, 49, 50, 51, 52, 53, 54, 55, 56, 57, 45, 95]⟩ : ByteArray)[n]'h) = alpha n := alpha_at n h
theorem wraps_u32 (n : Int) (h₀ : 0 ≤ n) (h₁ : n < 2 ^ 32) : IntKind.u32.wrap n = n := by rw [IntKind.wrap_u32]; omega
theorem u32_and63 (x : Nat) (h : x < 4294967296) : bits .and .u32 (x : Int) 63 = ((x % 64 : Nat) : Int) := by
  have := bits_mask .u32 32 (by decide) wraps_u32 6 (by decide) (x : Int) (by omega) (by omega)
  rw [show ((2 : Int) ^ 6 - 1) = 63 from rfl] at this
  rw [this]
  omega
theorem u32_or8 (x y : Nat) (hx : x < 4294967296) (h : x % 256 = 0) (hy : y < 256) : bits .or .u32 (x : Int) (y : Int) = ((x + y : Nat) : Int) := by
  have := bits_join .u32 32 (by decide) wraps_u32 8 (x : Int) (y : Int) (by omega) (by omega) (by omega) (by omega) (by omega) (by omega)
  rw [this]
  omega
def text_Encode.f (a0 : ByteArray) : Option ByteArray := if a0.size ≤ 35184372088832 then some (ba (encL (bl a0))) else none

set_option maxHeartbeats 8000000 in
set_option maxRecDepth 100000 in
theorem text_Encode.calls (a0 : ByteArray) (r : ByteArray) (w : World) (h : text_Encode.f a0 = some r) :
    Calls Tryd.prog 34 #[.string a0] w fun e w' => e = .returned (.string r) ∧ Below w.heap.size w w' := by
  unfold text_Encode.f at h
  split at h
  case isFalse => cases h
  rename_i hs
  obtain rfl := Option.some.inj h
  clear h
  go_enter Tryd.func34, Tryd.ntmps34
  go_wp2
  go_loopw [4, 5, 9] (fun vb vh vi wr => ∃ (k B : Nat) (s : ES), k ≤ a0.size ∧ vi = .int .i64 k ∧ vb = .int .u32 B ∧ vh = .int .i64 s.have_ ∧ Aside0 (s = eSt ((bl a0).take k)) ∧ Aside0 (B < 4294967296 ∧ (s.have_ = 2 → B % 4 = s.v) ∧ (s.have_ = 4 → B % 16 = s.v)) ∧
    Aside0 (Lib.IsBuilder 41 5 w.heap.size w.heap.size (Lib.byteCells s.out) wr) ∧ Aside0 (Below w.heap.size w wr)) (fun _ _ i _ => a0.size - (intOf i).toNat)
  case atStart =>
    exact ⟨0, 0, ⟨[], 0, 0⟩, Nat.zero_le _, rfl, rfl, rfl, ⟨rfl⟩, ⟨by decide, fun h => (by cases h), fun h => (by cases h)⟩, ⟨Lib.fresh_isBuilder 41 5 w⟩, ⟨(Below.refl _ w).alloc (Nat.le_refl _) _⟩⟩
  case round =>
    obtain ⟨k, B, s, hk, rfl, rfl, rfl, HS, HV, HI, HB⟩ := hrel
    have hok : EOk s k := by rw [HS.out]; exact eOk_take _ k (by rw [bl_length]; exact hk)
    have hlen := hok.len
    have hBw : w.heap.size ≤ wr.heap.size := HB.out.size
    have hhv : s.have_ ≤ 4 := by have := hok.st; omega
    by_cases hlt : k < a0.size
    · have hltd : decide ((k : Int) < (a0.size : Int)) = true := decide_eq_true (by omega)
      have hts : eSt ((bl a0).take (k + 1)) = eStep s (a0[k]'hlt) := by
        rw [List.take_succ_eq_append_getElem (by rw [bl_length]; exact hlt), eSt_snoc, ← HS.out]
        rfl
      have HT := Aside0.mk hts
      clear hts
      generalize hc : a0[k]'hlt = c at HT
      have hcb := c.toNat_lt
      have HD := Aside0.mk (drain_step c hok HV.out.2.1 HV.out.2.2)
      have HKp := Aside0.mk (keep_step c hok HV.out.2.1 HV.out.2.2)
      have HOk2 := Aside0.mk (hok.step c)
      obtain ⟨M, hM⟩ : ∃ M : Nat, M = B * 256 % 4294967296 := ⟨_, rfl⟩
      have hMi : (B : Int) * 256 % 4294967296 = (M : Int) := by omega
      have hor := u32_or8 M c.toNat (by omega) (by omega) (by omega)
      rw [← hM] at HD HKp
      obtain ⟨B', hB'⟩ : ∃ B' : Nat, B' = M + c.toNat := ⟨_, rfl⟩
      have hB2 : B' < 4294967296 := by omega
      rw [← hB'] at hor HD HKp
      clear hB' hM
      obtain ⟨hv, hhv2⟩ : ∃ hv : Nat, hv = s.have_ + 8 := ⟨_, rfl⟩
      have hw8 : (s.have_ : Int) + 8 = (hv : Int) := by omega
      rw [← hhv2] at HD
      have HH := Aside0.mk (show hv = 8 ∨ hv = 10 ∨ hv = 12 from by have := hok.st; omega)
      clear hhv2
      generalize eStep s c = t at HT HD HKp HOk2
      go_wp2
      go_loopw [5] (fun vh wr => ∃ (n h : Nat) (o : List UInt8), n ≤ 2 ∧ vh = .int .i64 h ∧ Aside0 (h = 0 ∨ h = 2 ∨ h = 4 ∨ h = 6 ∨ h = 8 ∨ h = 10 ∨ h = 12) ∧ Aside0 (h ≤ 6 * n + 5) ∧ Aside0 (drain n h B' o = (t.out, t.have_)) ∧ Aside0 (o.length + n ≤ 2 * k + 2) ∧
        Aside0 (Lib.IsBuilder 41 5 w.heap.size w.heap.size (Lib.byteCells o) wr) ∧ Aside0 (Below w.heap.size w wr)) (fun vh _ => (intOf vh).toNat)
      case atStart => exact ⟨2, hv, s.out, Nat.le_refl _, rfl, ⟨by have := HH.out; omega⟩, ⟨by have := HH.out; omega⟩, HD, ⟨by omega⟩, HI, HB⟩
      case round =>
        clear HD HI HB HH hw8 hBw hMi hor
        obtain ⟨n, h, o, hn, rfl, HH, HN, HD, HL, HI, HB⟩ := hrel
        have hBw : w.heap.size ≤ wr.heap.size := HB.out.size
        have hol := HL.out
        have hbl : (Lib.byteCells o).length ≤ 2 * k + 2 := by rw [Lib.byteCells_length]; omega
        by_cases h6 : 6 ≤ h
        · obtain ⟨n, rfl⟩ : ∃ m, n = m + 1 := ⟨n - 1, by have := HN.out; omega⟩
          have hd := HD.out
          rw [drain_go h6] at hd
          have HD2 := Aside0.mk hd
          have hcase : h = 6 ∨ h = 8 ∨ h = 10 ∨ h = 12 := by have := HH.out; omega
          clear hd HD HH
          rcases hcase with rfl | rfl | rfl | rfl
          · obtain ⟨D, hD⟩ : ∃ D : Nat, D = B' % 64 := ⟨_, rfl⟩
            have hand : bits .and .u32 (B' : Int) 63 = (D : Int) := by have := u32_and63 (B') (by omega); rw [hD, ← this]; try congr 1
            have hD64 : D < 64 := by omega
            have hx : B' / 2 ^ (6 - 6) % 64 = D := by rw [hD] <;> first | rfl | simp
            rw [hx] at HD2
            have HX := Aside0.mk hx
            clear hx hD
            go_wp2_with fail
            refine (Sh.Builder_WriteByte w.heap.size w.heap.size (Lib.byteCells o) _ wr HI.out (by omega) hBw).mono ?_
            rintro e w2 ⟨rfl, h2, hb2⟩
            have H2 := Aside0.mk h2
            have HB2 := Aside0.mk (HB.out.trans hb2)
            clear h2 hb2
            go_wp2
            go_roundw
            case rel => exact ⟨n, 0, o ++ [alpha D], by omega, rfl, ⟨by omega⟩, ⟨by have := HN.out; omega⟩, HD2, ⟨by rw [List.length_append]; simp only [List.length_cons, List.length_nil]; omega⟩, ⟨by have h5 := H2.out; rw [alpha_lit] at h5; rw [Lib.byteCells_append]; exact Or.inr (by simpa [Lib.byteCells] using h5)⟩, HB2⟩
            case measure => simp [intOf] <;> omega
          · obtain ⟨D, hD⟩ : ∃ D : Nat, D = B' / 4 % 64 := ⟨_, rfl⟩
            have hand : bits .and .u32 ((B' : Int) / 4) 63 = (D : Int) := by have := u32_and63 (B' / 4) (by omega); rw [hD, ← this]; try congr 1
            have hD64 : D < 64 := by omega
            have hx : B' / 2 ^ (8 - 6) % 64 = D := by rw [hD] <;> first | rfl | simp
            rw [hx] at HD2
            have HX := Aside0.mk hx
            clear hx hD
            go_wp2_with fail
            refine (Sh.Builder_WriteByte w.heap.size w.heap.size (Lib.byteCells o) _ wr HI.out (by omega) hBw).mono ?_
            rintro e w2 ⟨rfl, h2, hb2⟩
            have H2 := Aside0.mk h2
            have HB2 := Aside0.mk (HB.out.trans hb2)
            clear h2 hb2
            go_wp2
            go_roundw
            case rel => exact ⟨n, 2, o ++ [alpha D], by omega, rfl, ⟨by omega⟩, ⟨by have := HN.out; omega⟩, HD2, ⟨by rw [List.length_append]; simp only [List.length_cons, List.length_nil]; omega⟩, ⟨by have h5 := H2.out; rw [alpha_lit] at h5; rw [Lib.byteCells_append]; exact Or.inr (by simpa [Lib.byteCells] using h5)⟩, HB2⟩
            case measure => simp [intOf] <;> omega
          · obtain ⟨D, hD⟩ : ∃ D : Nat, D = B' / 16 % 64 := ⟨_, rfl⟩
            have hand : bits .and .u32 ((B' : Int) / 16) 63 = (D : Int) := by have := u32_and63 (B' / 16) (by omega); rw [hD, ← this]; try congr 1
            have hD64 : D < 64 := by omega
            have hx : B' / 2 ^ (10 - 6) % 64 = D := by rw [hD] <;> first | rfl | simp
            rw [hx] at HD2
            have HX := Aside0.mk hx
            clear hx hD
            go_wp2_with fail
            refine (Sh.Builder_WriteByte w.heap.size w.heap.size (Lib.byteCells o) _ wr HI.out (by omega) hBw).mono ?_
            rintro e w2 ⟨rfl, h2, hb2⟩
            have H2 := Aside0.mk h2
            have HB2 := Aside0.mk (HB.out.trans hb2)
            clear h2 hb2
            go_wp2
            go_roundw
            case rel => exact ⟨n, 4, o ++ [alpha D], by omega, rfl, ⟨by omega⟩, ⟨by have := HN.out; omega⟩, HD2, ⟨by rw [List.length_append]; simp only [List.length_cons, List.length_nil]; omega⟩, ⟨by have h5 := H2.out; rw [alpha_lit] at h5; rw [Lib.byteCells_append]; exact Or.inr (by simpa [Lib.byteCells] using h5)⟩, HB2⟩
            case measure => simp [intOf] <;> omega
          · obtain ⟨D, hD⟩ : ∃ D : Nat, D = B' / 64 % 64 := ⟨_, rfl⟩
            have hand : bits .and .u32 ((B' : Int) / 64) 63 = (D : Int) := by have := u32_and63 (B' / 64) (by omega); rw [hD, ← this]; try congr 1
            have hD64 : D < 64 := by omega
            have hx : B' / 2 ^ (12 - 6) % 64 = D := by rw [hD] <;> first | rfl | simp
            rw [hx] at HD2
            have HX := Aside0.mk hx
            clear hx hD
            go_wp2_with fail
            refine (Sh.Builder_WriteByte w.heap.size w.heap.size (Lib.byteCells o) _ wr HI.out (by omega) hBw).mono ?_
            rintro e w2 ⟨rfl, h2, hb2⟩
            have H2 := Aside0.mk h2
            have HB2 := Aside0.mk (HB.out.trans hb2)
            clear h2 hb2
            go_wp2
            go_roundw
            case rel => exact ⟨n, 6, o ++ [alpha D], by omega, rfl, ⟨by omega⟩, ⟨by have := HN.out; omega⟩, HD2, ⟨by rw [List.length_append]; simp only [List.length_cons, List.length_nil]; omega⟩, ⟨by have h5 := H2.out; rw [alpha_lit] at h5; rw [Lib.byteCells_append]; exact Or.inr (by simpa [Lib.byteCells] using h5)⟩, HB2⟩
            case measure => simp [intOf] <;> omega
        · have hd := HD.out
          rw [drain_end (by omega)] at hd
          obtain ⟨rfl, rfl⟩ := Prod.mk.inj hd
          have hdf : decide ((6 : Int) ≤ (t.have_ : Int)) = false := decide_eq_false (by omega)
          have HS2 := Aside0.mk (show t = eSt ((bl a0).take (k + 1)) from HT.out.symm)
          have HV2 := Aside0.mk (show B' < 4294967296 ∧ (t.have_ = 2 → B' % 4 = t.v) ∧ (t.have_ = 4 → B' % 16 = t.v) from ⟨hB2, HKp.out⟩)
          clear hd HD
          go_wp2
          go_roundw
          case rel => exact ⟨k + 1, B', t, by omega, by go_num, rfl, rfl, HS2, HV2, HI, HB⟩
          case measure => simp [intOf]; omega
    · have hke : k = a0.size := by omega
      have ht : (bl a0).take k = bl a0 := List.take_of_length_le (by rw [bl_length]; omega)
      rw [ht] at HS
      have HE := Aside0.mk (show encL (bl a0) = eEnd s from by rw [HS.out]; rfl)
      have hbl : (Lib.byteCells s.out).length ≤ 2 * k := by rw [Lib.byteCells_length]; omega
      have HV' := HV.out
      clear ht HS HV
      rcases hok.st with ⟨h1, h2⟩ | ⟨h1, h2⟩ | ⟨h1, h2⟩
      · have HE2 := Aside0.mk (show encL (bl a0) = s.out from by rw [HE.out]; unfold eEnd; rw [if_neg (by omega), if_neg (by omega)])
        rw [h1]
        clear HE h1 h2 hok hhv HV'
        go_wp2_with fail
        refine (Sh.Builder_String_any w.heap.size w.heap.size _ _ HI.out hBw).mono ?_
        rintro e w1 ⟨rfl, hb1⟩
        have HB1 := Aside0.mk (HB.out.trans hb1)
        clear hb1
        go_wp2
        go_ret
        exact ⟨by rw [HE2.out]; rfl, HB1.out⟩
      · have HE2 := Aside0.mk (show encL (bl a0) = s.out ++ [alpha (s.v * 16 % 64)] from by rw [HE.out]; unfold eEnd; rw [if_neg (by omega), if_pos (by omega)])
        have hv := HV'.2.1 h1
        obtain ⟨M, hM⟩ : ∃ M : Nat, M = B * 16 % 4294967296 := ⟨_, rfl⟩
        have hMi : (B : Int) * 16 % 4294967296 = (M : Int) := by omega
        obtain ⟨D, hD⟩ : ∃ D : Nat, D = s.v * 16 % 64 := ⟨_, rfl⟩
        have hDM : D = M % 64 := by omega
        have hand : bits .and .u32 (M : Int) 63 = (D : Int) := by rw [hDM]; exact u32_and63 M (by omega)
        have hD64 : D < 64 := by omega
        rw [← hD] at HE2
        rw [h1]
        clear HE h1 h2 hok hhv HV' hM hD hDM hv
        go_wp2_with fail
        refine (Sh.Builder_WriteByte w.heap.size w.heap.size _ _ wr HI.out (by omega) hBw).mono ?_
        rintro e w2 ⟨rfl, h2, hb2⟩
        rw [alpha_lit] at h2
        have H2 := Aside0.mk (show Lib.IsBuilder 41 5 w.heap.size w.heap.size (Lib.byteCells (s.out ++ [alpha D])) w2 from by rw [Lib.byteCells_append]; exact Or.inr (by simpa [Lib.byteCells] using h2))
        have HB2 := Aside0.mk (HB.out.trans hb2)
        clear h2 hb2
        have hBw2 : w.heap.size ≤ w2.heap.size := HB2.out.size
        go_wp2_with fail
        refine (Sh.Builder_String_any w.heap.size w.heap.size _ _ H2.out hBw2).mono ?_
        rintro e w3 ⟨rfl, hb3⟩
        have HB3 := Aside0.mk (HB2.out.trans hb3)
        clear hb3
        go_wp2
        go_ret
        exact ⟨by rw [HE2.out]; rfl, HB3.out⟩
      · have HE2 := Aside0.mk (show encL (bl a0) = s.out ++ [alpha (s.v * 4 % 64)] from by rw [HE.out]; unfold eEnd; rw [if_pos (by omega)])
        have hv := HV'.2.2 h1
        obtain ⟨M, hM⟩ : ∃ M : Nat, M = B * 4 % 4294967296 := ⟨_, rfl⟩
        have hMi : (B : Int) * 4 % 4294967296 = (M : Int) := by omega
        obtain ⟨D, hD⟩ : ∃ D : Nat, D = s.v * 4 % 64 := ⟨_, rfl⟩
        have hDM : D = M % 64 := by omega
        have hand : bits .and .u32 (M : Int) 63 = (D : Int) := by rw [hDM]; exact u32_and63 M (by omega)
        have hD64 : D < 64 := by omega
        rw [← hD] at HE2
        rw [h1]
        clear HE h1 h2 hok hhv HV' hM hD hDM hv
        go_wp2_with fail
        refine (Sh.Builder_WriteByte w.heap.size w.heap.size _ _ wr HI.out (by omega) hBw).mono ?_
        rintro e w2 ⟨rfl, h2, hb2⟩
        rw [alpha_lit] at h2
        have H2 := Aside0.mk (show Lib.IsBuilder 41 5 w.heap.size w.heap.size (Lib.byteCells (s.out ++ [alpha D])) w2 from by rw [Lib.byteCells_append]; exact Or.inr (by simpa [Lib.byteCells] using h2))
        have HB2 := Aside0.mk (HB.out.trans hb2)
        clear h2 hb2
        have hBw2 : w.heap.size ≤ w2.heap.size := HB2.out.size
        go_wp2_with fail
        refine (Sh.Builder_String_any w.heap.size w.heap.size _ _ H2.out hBw2).mono ?_
        rintro e w3 ⟨rfl, hb3⟩
        have HB3 := Aside0.mk (HB2.out.trans hb3)
        clear hb3
        go_wp2
        go_ret
        exact ⟨by rw [HE2.out]; rfl, HB3.out⟩

theorem keptF {B b : Nat} {T e : TypeId} {bs : List Value} {w w1 : World} (h : Lib.IsBuilderF T e B b bs w) (hb : Below w.heap.size w w1) : Lib.IsBuilderF T e B b bs w1 := by
  have key : ∀ p, Lib.BuilderAtF T e B b p bs w → Lib.BuilderAtF T e B b p bs w1 := by
    rintro p ⟨h1, v, h2, h3, h4⟩
    have hlt : ∀ {k : Nat} {o : Obj}, w.heap[k]? = some o → w1.heap[k]? = some o := by
      intro k o hk
      have : k < w.heap.size := by
        rcases Nat.lt_or_ge k w.heap.size with h' | h'
        · exact h'
        · rw [Array.getElem?_eq_none h'] at hk; cases hk
      exact (hb.block k this).trans hk
    refine ⟨h1, v, hlt h2, ?_, h4⟩
    refine ⟨h3.1, ?_⟩
    rcases h3.2 with h | ⟨g, cap, cur, fz, hv, hg, hh, r⟩
    · exact .inl h
    · exact .inr ⟨g, cap, cur, fz, hv, hg, hlt hh, r⟩
  exact h.elim (fun x => .inl (key _ x)) (fun x => .inr (key _ x))
theorem wrote {B b : Nat} {o : List UInt8} {D : Nat} {w : World} (hD : D < 256) (h : Lib.BuilderAt 41 5 B b (.pointer (some ⟨b, 0, none⟩)) (Lib.byteCells o ++ [Value.int .u8 (D : Int)]) w) : Lib.IsBuilder 41 5 B b (Lib.byteCells (o ++ [UInt8.ofNat D])) w := by
  have e5 : (UInt8.ofNat D).toNat = D := by simp; omega
  rw [Lib.byteCells_append]
  exact Or.inr (by simpa [Lib.byteCells, e5] using h)
def text_Decode.f (a0 : ByteArray) : Option (ByteArray × Int) := if a0.size ≤ 35184372088832 then some (if (decR (bl a0)).2 then (ba (decR (bl a0)).1, 0) else (ba [], 2)) else none
theorem u32_or6 (x y : Nat) (hx : x < 4294967296) (h : x % 64 = 0) (hy : y < 64) : bits .or .u32 (x : Int) (y : Int) = ((x + y : Nat) : Int) := by
  have := bits_join .u32 32 (by decide) wraps_u32 6 (x : Int) (y : Int) (by omega) (by omega) (by omega) (by omega) (by omega) (by omega)
  rw [this]
  omega
set_option maxHeartbeats 8000000 in
set_option maxRecDepth 100000 in
theorem text_Decode.calls (a0 : ByteArray) (r1 : ByteArray) (r2 : Int) (w : World) (h : text_Decode.f a0 = some (r1, r2)) :
    Calls Tryd.prog 29 #[.string a0] w fun e w' => e = .returned (.tuple #[.string r1, .int .i64 r2]) ∧ Below w.heap.size w w' := by
  unfold text_Decode.f at h
  split at h
  case isFalse => cases h
  rename_i hs
  have H := Aside0.mk (Option.some.inj h)
  clear h
  go_enter Tryd.func29, Tryd.ntmps29
  go_wp2
  go_loopw [5, 6, 11] (fun vb vh vi wr => ∃ (k B : Nat) (s : ES), k ≤ a0.size ∧ vi = .int .i64 k ∧ vb = .int .u32 B ∧ vh = .int .i64 s.have_ ∧ Aside0 (dSt ⟨[], 0, 0⟩ ((bl a0).take k) = some s) ∧ Aside0 (DKeep s B) ∧
    Aside0 (Lib.IsBuilder 41 5 w.heap.size w.heap.size (Lib.byteCells s.out) wr) ∧ Aside0 (Below w.heap.size w wr)) (fun _ _ i _ => a0.size - (intOf i).toNat)
  case atStart =>
    exact ⟨0, 0, ⟨[], 0, 0⟩, Nat.zero_le _, rfl, rfl, rfl, ⟨rfl⟩, ⟨by decide, fun h => (by cases h), fun h => (by cases h), fun h => (by cases h)⟩, ⟨Lib.fresh_isBuilder 41 5 w⟩, ⟨(Below.refl _ w).alloc (Nat.le_refl _) _⟩⟩
  case round =>
    obtain ⟨k, B, s, hk, rfl, rfl, rfl, HS, HV, HI, HB⟩ := hrel
    have hok : DOk s k := dOk_take (bl a0) k (by rw [bl_length]; exact hk) s HS.out
    have hlen := hok.len
    have hBw : w.heap.size ≤ wr.heap.size := HB.out.size
    have hbl : (Lib.byteCells s.out).length ≤ k := by rw [Lib.byteCells_length]; omega
    by_cases hlt : k < a0.size
    · have hltd : decide ((k : Int) < (a0.size : Int)) = true := decide_eq_true (by omega)
      have hts := dSt_snoc ⟨[], 0, 0⟩ ((bl a0).take k) ((bl a0)[k]'(by rw [bl_length]; exact hlt))
      rw [← List.take_succ_eq_append_getElem (by rw [bl_length]; exact hlt), HS.out, Option.bind_some] at hts
      have hg : (bl a0)[k]'(by rw [bl_length]; exact hlt) = a0[k]'hlt := rfl
      rw [hg] at hts
      have HT := Aside0.mk hts
      clear hts hg
      generalize hc : a0[k]'hlt = c at HT
      have hcb := c.toNat_lt
      have hlr := letter_range c
      have HD := Aside0.mk (show Lib.indexByte (⟨#[65, 66, 67, 68, 69, 70, 71, 72, 73, 74, 75, 76, 77, 78, 79, 80, 81, 82, 83, 84, 85, 86, 87, 88, 89, 90, 97, 98, 99, 100, 101, 102, 103, 104, 105, 106, 107, 108, 109, 110, 111, 112, 113, 114, 115, 116, 117, 118, 119, 120, 121, 122, 48, 49, 50, 51, 52, 53, 54, 55, 56, 57, 45, 95]⟩ : ByteArray).data.toList ((c.toNat : Int)).toNat.toUInt8 = letter c from by simp [letter, alphaB])
      by_cases hneg : letter c < 0
      · have HN := Aside0.mk (decR_none (l := bl a0) (k := k + 1) (by rw [HT.out, if_pos hneg]))
        have hneg' : letter c = -1 := by omega
        rw [hneg'] at HD
        clear hneg hneg' hlr HT
        go_wp2_with fail
        refine (Tryd.strings_IndexByte _ _ _).mono ?_
        rw [HD.out]
        rintro e w' ⟨rfl, rfl⟩
        go_wp2
        go_ret2
        exact ⟨by have := H.out; rw [HN.out] at this; simp only [Prod.mk.injEq] at this; obtain ⟨rfl, rfl⟩ := this; rfl, HB.out⟩
      · obtain ⟨d, hd⟩ : ∃ d : Nat, letter c = (d : Int) := ⟨(letter c).toNat, by omega⟩
        rw [hd] at HD
        have hd64 : d < 64 := by omega
        have HT2 := Aside0.mk (show dSt ⟨[], 0, 0⟩ ((bl a0).take (k + 1)) = some (dStep s d) from by rw [HT.out, if_neg hneg, hd]; simp)
        have HK2 := Aside0.mk (dkeep_step hok HV.out hd64)
        obtain ⟨M, hM⟩ : ∃ M : Nat, M = B * 64 % 4294967296 := ⟨_, rfl⟩
        have hMi : (B : Int) * 64 % 4294967296 = (M : Int) := by omega
        have hdi : (d : Int) % 4294967296 = (d : Int) := by omega
        have hor := u32_or6 M d (by omega) (by omega) (by omega)
        rw [← hM] at HK2
        obtain ⟨B', hB'⟩ : ∃ B' : Nat, B' = M + d := ⟨_, rfl⟩
        have hB2 : B' < 4294967296 := by omega
        rw [← hB'] at hor HK2
        have HM := Aside0.mk (And.intro hM hB')
        have HVo := Aside0.mk HV.out
        clear hneg hd hlr HT hM hB' HV
        obtain ⟨so, sh, sv⟩ := s
        have hst := hok.st
        dsimp only at hst hlen hbl HI ⊢
        rcases hst with ⟨rfl, rfl⟩ | ⟨rfl, hv⟩ | ⟨rfl, hv⟩ | ⟨rfl, hv⟩
        · go_wp2_with fail
          refine (Tryd.strings_IndexByte _ _ _).mono ?_
          rw [HD.out]
          rintro e w' ⟨rfl, rfl⟩
          go_wp2
          go_roundw
          case rel => exact ⟨k + 1, B', dStep ⟨so, 0, 0⟩ d, by omega, by go_num, rfl, rfl, HT2, HK2, HI, HB⟩
          case measure => simp [intOf]; omega
        · have hkeep := HVo.out.2.1 rfl
          dsimp only at hkeep
          have hm := HM.out
          obtain ⟨D, hD⟩ : ∃ D : Nat, D = (sv * 64 + d) % 256 := ⟨_, rfl⟩
          have hDB : D = B' % 256 := by omega
          have hDi : (B' : Int) % 256 = (D : Int) := by omega
          have hD256 : D < 256 := by omega
          have hds : dStep ⟨so, 2, sv⟩ d = ⟨so ++ [UInt8.ofNat D], 0, 0⟩ := by
            unfold dStep
            rw [if_neg (by simp), if_neg (by simp), if_neg (by simp)]
            rw [hD]
          rw [hds] at HT2 HK2
          clear hm hkeep hD hDB hds
          go_wp2_with fail
          refine (Tryd.strings_IndexByte _ _ _).mono ?_
          rw [HD.out]
          rintro e w' ⟨rfl, rfl⟩
          go_wp2_with fail
          refine (Sh.Builder_WriteByte w.heap.size w.heap.size _ _ _ HI.out (by omega) hBw).mono ?_
          rintro e w2 ⟨rfl, h2, hb2⟩
          have H2 := Aside0.mk h2
          have HB2 := Aside0.mk (HB.out.trans hb2)
          clear h2 hb2
          go_wp2
          go_roundw
          case rel => exact ⟨k + 1, B', _, by omega, by go_num, rfl, rfl, HT2, HK2, ⟨wrote hD256 H2.out⟩, HB2⟩
          case measure => simp [intOf]; omega
        · have hkeep := HVo.out.2.2.1 rfl
          dsimp only at hkeep
          have hm := HM.out
          obtain ⟨D, hD⟩ : ∃ D : Nat, D = (sv * 64 + d) / 4 % 256 := ⟨_, rfl⟩
          have hDB : D = B' / 4 % 256 := by omega
          have hDi : (B' : Int) / 4 % 256 = (D : Int) := by omega
          have hD256 : D < 256 := by omega
          have hds : dStep ⟨so, 4, sv⟩ d = ⟨so ++ [UInt8.ofNat D], 2, (sv * 64 + d) % 4⟩ := by
            unfold dStep
            rw [if_neg (by simp), if_neg (by simp), if_pos rfl]
            rw [hD]
          rw [hds] at HT2 HK2
          clear hm hkeep hD hDB hds
          go_wp2_with fail
          refine (Tryd.strings_IndexByte _ _ _).mono ?_
          rw [HD.out]
          rintro e w' ⟨rfl, rfl⟩
          go_wp2_with fail
          refine (Sh.Builder_WriteByte w.heap.size w.heap.size _ _ _ HI.out (by omega) hBw).mono ?_
          rintro e w2 ⟨rfl, h2, hb2⟩
          have H2 := Aside0.mk h2
          have HB2 := Aside0.mk (HB.out.trans hb2)
          clear h2 hb2
          go_wp2
          go_roundw
          case rel => exact ⟨k + 1, B', _, by omega, by go_num, rfl, rfl, HT2, HK2, ⟨wrote hD256 H2.out⟩, HB2⟩
          case measure => simp [intOf]; omega
        · have hkeep := HVo.out.2.2.2 rfl
          dsimp only at hkeep
          have hm := HM.out
          obtain ⟨D, hD⟩ : ∃ D : Nat, D = (sv * 64 + d) / 16 % 256 := ⟨_, rfl⟩
          have hDB : D = B' / 16 % 256 := by omega
          have hDi : (B' : Int) / 16 % 256 = (D : Int) := by omega
          have hD256 : D < 256 := by omega
          have hds : dStep ⟨so, 6, sv⟩ d = ⟨so ++ [UInt8.ofNat D], 4, (sv * 64 + d) % 16⟩ := by
            unfold dStep
            rw [if_neg (by simp), if_pos rfl]
            rw [hD]
          rw [hds] at HT2 HK2
          clear hm hkeep hD hDB hds
          go_wp2_with fail
          refine (Tryd.strings_IndexByte _ _ _).mono ?_
          rw [HD.out]
          rintro e w' ⟨rfl, rfl⟩
          go_wp2_with fail
          refine (Sh.Builder_WriteByte w.heap.size w.heap.size _ _ _ HI.out (by omega) hBw).mono ?_
          rintro e w2 ⟨rfl, h2, hb2⟩
          have H2 := Aside0.mk h2
          have HB2 := Aside0.mk (HB.out.trans hb2)
          clear h2 hb2
          go_wp2
          go_roundw
          case rel => exact ⟨k + 1, B', _, by omega, by go_num, rfl, rfl, HT2, HK2, ⟨wrote hD256 H2.out⟩, HB2⟩
          case measure => simp [intOf]; omega
    · have hke : k = a0.size := by omega
      have ht : (bl a0).take k = bl a0 := List.take_of_length_le (by rw [bl_length]; omega)
      rw [ht] at HS
      have hr := decR_some HS.out
      have hlo : s.out.length ≤ a0.size := by omega
      have hef : text_Encode.f (⟨s.out.toArray⟩ : ByteArray) = some (ba (encL s.out)) := by
        unfold text_Encode.f
        rw [if_pos (by show s.out.length ≤ 35184372088832; omega)]
        simp [bl]
      have HE := Aside0.mk hef
      have HR := Aside0.mk hr
      clear ht HS hr hef hok hlen HV
      go_wp2_with fail
      refine (ShF.Builder_String_any_f w.heap.size w.heap.size _ _ (Lib.IsBuilderF.of HI.out) hBw).mono ?_
      rintro e w1 ⟨rfl, hi1, hb1⟩
      have HI1 := Aside0.mk hi1
      have HB1 := Aside0.mk (HB.out.trans hb1)
      clear hi1 hb1
      have hBw1 : w.heap.size ≤ w1.heap.size := HB1.out.size
      go_wp2_with fail
      refine (text_Encode.calls _ _ w1 HE.out).mono ?_
      rintro e w2 ⟨rfl, hb2⟩
      have HI2 := Aside0.mk (keptF HI1.out hb2)
      have HB2 := Aside0.mk (below_then HB1.out hBw1 hb2)
      clear hb2 HI1
      have hBw2 : w.heap.size ≤ w2.heap.size := HB2.out.size
      by_cases heq : encL s.out = bl a0
      · have hq : ba (encL s.out) = a0 := by rw [heq]; simp
        have HQ := Aside0.mk (show (r1, r2) = (ba s.out, (0 : Int)) from by rw [← H.out, HR.out, decide_eq_true heq]; simp)
        rw [hq]
        clear heq hq HE HR
        go_wp2_with fail
        refine (ShF.Builder_String_any_f w.heap.size w.heap.size _ _ HI2.out hBw2).mono ?_
        rintro e w3 ⟨rfl, hi3, hb3⟩
        have HB3 := Aside0.mk (HB2.out.trans hb3)
        clear hi3 hb3
        go_wp2
        go_ret2
        exact ⟨by have := HQ.out; simp only [Prod.mk.injEq] at this; obtain ⟨rfl, rfl⟩ := this; rfl, HB3.out⟩
      · have hne : ((ba (encL s.out)).toList == a0.toList) = false := by
          rw [beq_eq_false_iff_ne]
          intro h
          rw [toList_bl, toList_bl, bl_ba] at h
          exact heq h
        have HQ := Aside0.mk (show (r1, r2) = (ba [], (2 : Int)) from by rw [← H.out, HR.out, decide_eq_false heq]; simp)
        clear heq HE HR
        generalize ba (encL s.out) = t at hne
        have hne2 : (t.toList != a0.toList) = true := by rw [bne, hne]; rfl
        go_wp2
        go_ret2
        exact ⟨by have := HQ.out; simp only [Prod.mk.injEq] at this; obtain ⟨rfl, rfl⟩ := this; rfl, HB2.out⟩
end Go.Proofs.YtjfajkdamechiaaDoor.X
