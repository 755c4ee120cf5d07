/- The reference's many (L): a list, or an object. -/
import Derived.Test.YtifejhbochkifaaGreatDoorHRefJ
import Derived.Test.YtifejhbochkifaaGreatDoorHRefW
import Derived.Test.YtifejhbochkifaaGreatDoorHJrS
import Derived.Test.YtifejhbochkifaaGreatDoorHJh
import Derived.Test.YtifejhbochkifaaGreatDoorBC
import Derived.Test.YtifejhbochkifaaGreatDoorX5

namespace Go.Proofs.YtifejhbochkifaaGreatDoor.X
open Go.RowKit Go.Proofs.YtifejhbochkifaaGreatDoorW.PrintWords Go.Proofs.YtifejhbochkifaaGreatDoorW.PrintLast Go.Proofs.YtifejhbochkifaaGreatDoorW.PrintMore Go.Proofs.YtifejhbochkifaaGreatDoor.Spec
set_option linter.unusedVariables false
set_option linter.unusedSimpArgs false
/-- What is told of the value at the front of a text of N bytes. -/
def VOutR (w : World) (N : Nat) (R : Option (V × List UInt8)) (e : Ending) (w' : World) : Prop :=
  ∃ (x : V) (n : Nat) (c3 c4 : Value), e = .returned (.tuple #[.agg #[.int .i64 x.f0, .int .i64 x.f1, .string x.f2, c3, c4], .int .i64 (n : Int)]) ∧ Kd.R k25 25 w' w.heap.size (fun k_ => w.heap.size ≤ k_) c3 x.f3 ∧ Kd.R Kd.string 9 w' w.heap.size (fun k_ => w.heap.size ≤ k_) c4 x.f4 ∧ Below w.heap.size w w' ∧ n ≤ N ∧ (∀ v r, R = some (v, r) → x = v ∧ 0 < n ∧ n + r.length = N) ∧ (R = none → n = 0)
def VCR (k : Nat) : Prop := ∀ (s : List UInt8) (w : World), s.length ≤ 1000000 → 4 * s.length + 4 ≤ k → Calls Tryz.prog 26 #[.string (ba s)] w (VOutR w s.length (rfV k s))
def opn (obj : Bool) : UInt8 := if obj then 123 else 91
def RCR (k : Nat) (obj : Bool) : Prop := ∀ (s t : List UInt8) (w : World), s = opn obj :: t → s.length ≤ 1000000 → 4 * s.length + 3 ≤ k → Calls Tryz.prog 53 #[.string (ba s)] w (VOutR w s.length (rfRow k obj t))
theorem sub_ba (s : List UInt8) (n : Nat) : (ba s).extract n (ba s).size = ba (s.drop n) := by
 apply bl_inj
 rw [bl_ba]
 show ((ba s).extract n (ba s).size).data.toList = _
 rw [Lib.extract_eq]
 have : (ba s).data.toList = s := bl_ba s
 rw [this, size_ba, List.take_of_length_le (by rw [List.length_drop]; exact Nat.le_refl _)]
/-- begins, on what is left of a text -/
theorem begins_ba (s p : List UInt8) (w : World) : Calls Tryz.prog 51 #[.string (ba s), .string (ba p)] w fun e w' => ∃ b : Bool, e = .returned (.bool b) ∧ (b = true → p <+: s) ∧ (b = false → ¬ p <+: s) ∧ Drawn0 w w' :=
 (exequaturref01_begins.calls (ba s) (ba p) _ w (by rw [begins_eq, bl_ba, bl_ba])).mono fun e w' ⟨h1, h2⟩ => ⟨_, h1, fun h => of_decide_eq_true h, fun h => of_decide_eq_false h, h2⟩
theorem word_ba (s : List UInt8) (hs : s.length ≤ 1000000) (w : World) : Calls Tryz.prog 52 #[.string (ba s)] w fun e w' => e = .returned (.tuple #[.string (wordL (ba s) (rfQ s)).1, .int .i64 (wordL (ba s) (rfQ s)).2]) ∧ Below w.heap.size w w' := by
 obtain ⟨k, hk⟩ := (word_ev (ba s) (by rw [size_ba]; exact hs)).get
 rw [bl_ba] at hk
 exact exequaturref01_word.calls k (ba s) _ _ w hk
theorem w64n {a b c : Nat} (h : a + b = c) (hc : c ≤ 10000000) : wrap64 ((a : Int) + (b : Int)) = (c : Int) := by
 rw [w64 (by omega) (by omega)]; omega
theorem tupn {c : Value} {a b : Int} (h : a = b) : Ending.returned (.tuple #[c, .int .i64 a]) = .returned (.tuple #[c, .int .i64 b]) := by rw [h]
/-- behind a value -/
def aftR (k : Nat) (obj : Bool) (ls : List V) (ks : List ByteArray) (r : List UInt8) : Option (V × List UInt8) :=
  if [endc obj] <+: r then some (⟨kindc obj, 0, ⟨#[]⟩, ls, ks⟩, r.drop 1) else if [44] <+: r then rfItems k obj ls ks (r.drop 1) else none
theorem rfItem_some {k : Nat} {obj : Bool} {ls : List V} {ks : List ByteArray} {s r : List UInt8} {x : V} (h : rfV k s = some (x, r)) : rfItem (k + 1) obj ls ks s = aftR k obj (ls ++ [x]) ks r := by rw [rfItem, h]; rfl
theorem rfItem_none {k : Nat} {obj : Bool} {ls : List V} {ks : List ByteArray} {s : List UInt8} (h : rfV k s = none) : rfItem (k + 1) obj ls ks s = none := by rw [rfItem, h]
theorem rfItems_key {k : Nat} {ls : List V} {ks : List ByteArray} {s t r : List UInt8} (h : rfQ s = some (t, r)) (hc : [58] <+: r) : rfItems (k + 1) true ls ks s = rfItem k true ls (ks ++ [ba t]) (r.drop 1) := by
 rw [rfItems, h]; show (if [58] <+: r then _ else _) = _; rw [if_pos hc]
theorem rfItems_nocol {k : Nat} {ls : List V} {ks : List ByteArray} {s t r : List UInt8} (h : rfQ s = some (t, r)) (hc : ¬ [58] <+: r) : rfItems (k + 1) true ls ks s = none := by
 rw [rfItems, h]; show (if [58] <+: r then _ else _) = _; rw [if_neg hc]
theorem rfItems_nokey {k : Nat} {ls : List V} {ks : List ByteArray} {s : List UInt8} (h : rfQ s = none) : rfItems (k + 1) true ls ks s = none := by rw [rfItems, h]
set_option maxHeartbeats 16000000 in
set_option maxRecDepth 100000 in
theorem manyL_calls (k : Nat) (hval : ∀ j, j < k → VCR j) : RCR k false := by
 intro S0 t0 w hS0 hs hk
 obtain ⟨N, hN⟩ : ∃ N, S0.length = N := ⟨_, rfl⟩
 obtain ⟨k, rfl⟩ : ∃ k', k = k' + 1 := ⟨k - 1, by omega⟩
 obtain ⟨R0, hR0⟩ : ∃ R0, rfRow (k + 1) false t0 = R0 := ⟨_, rfl⟩
 rw [hR0]
 obtain ⟨z, hz⟩ : ∃ z, ba S0 = z := ⟨_, rfl⟩
 have hzN : z.size = N := by rw [← hz, size_ba]; exact hN
 have hsub : ∀ n : Nat, z.extract n N = ba (S0.drop n) := fun n => by rw [← hzN, ← hz]; exact sub_ba S0 n
 have hz0 : bt z 0 = 91 := by
  have : bt (ba S0) ((0 : Nat) : Int) = ((opn false).toNat : Int) := (bt_drop (s := ba S0) (j := 0) (x := opn false) (t := t0) (by rw [bl_ba, hS0]; rfl)).1
  rw [hz] at this
  exact this
 have hd1 : S0.drop 1 = t0 := by rw [hS0]; rfl
 have hNp : 0 < N := by rw [← hN, hS0]; simp
 have hzp : 0 < z.size := by omega
 have hq0 : ((((z[0]'hzp).toNat : Nat) : Int) == 123) = false := by
  have : (((z[0]'hzp).toNat : Nat) : Int) = bt z 0 := bt_at z 0 hzp
  rw [this, hz0]
  rfl
 rw [hz, hN]
 have HBE := Aside0.mk (fun (n : Nat) (W : World) => (show Calls Tryz.prog 51 #[.string (z.extract n N), .string ⟨#[93]⟩] W fun e w' => ∃ b : Bool, e = .returned (.bool b) ∧ (b = true → [93] <+: S0.drop n) ∧ (b = false → ¬ [93] <+: S0.drop n) ∧ Drawn0 W w' from by rw [hsub]; exact begins_ba (S0.drop n) [93] W))
 have HBC := Aside0.mk (fun (n : Nat) (W : World) => (show Calls Tryz.prog 51 #[.string (z.extract n N), .string ⟨#[44]⟩] W fun e w' => ∃ b : Bool, e = .returned (.bool b) ∧ (b = true → [44] <+: S0.drop n) ∧ (b = false → ¬ [44] <+: S0.drop n) ∧ Drawn0 W w' from by rw [hsub]; exact begins_ba (S0.drop n) [44] W))
 have HBK := Aside0.mk (fun (n : Nat) (W : World) => (show Calls Tryz.prog 51 #[.string (z.extract n N), .string ⟨#[58]⟩] W fun e w' => ∃ b : Bool, e = .returned (.bool b) ∧ (b = true → [58] <+: S0.drop n) ∧ (b = false → ¬ [58] <+: S0.drop n) ∧ Drawn0 W w' from by rw [hsub]; exact begins_ba (S0.drop n) [58] W))
 have HWD := Aside0.mk (fun (n : Nat) (W : World) => (show Calls Tryz.prog 52 #[.string (z.extract n N)] W fun e w' => e = .returned (.tuple #[.string (wordL (ba (S0.drop n)) (rfQ (S0.drop n))).1, .int .i64 (wordL (ba (S0.drop n)) (rfQ (S0.drop n))).2]) ∧ Below W.heap.size W w' from by rw [hsub]; exact word_ba (S0.drop n) (by rw [List.length_drop]; omega) W))
 have HVAL := Aside0.mk (fun (j n : Nat) (W : World) (hj : j < k + 1) (h4 : 4 * (N - n) + 4 ≤ j) => (show Calls Tryz.prog 26 #[.string (z.extract n N)] W (VOutR W (N - n) (rfV j (S0.drop n))) from by
  have := hval j hj (S0.drop n) W (by rw [List.length_drop]; omega) (by rw [List.length_drop, hN]; exact h4)
  rw [List.length_drop, hN] at this
  rw [hsub]
  exact this))
 have HR0 := Aside0.mk (show (if [93] <+: t0 then some (⟨5, 0, ⟨#[]⟩, [], []⟩, t0.drop 1) else rfItems k false [] [] t0) = R0 by rw [← hR0, rfRow]; rfl)
 have HD1 := Aside0.mk hd1
 have HS0 := Aside0.mk hN
 have hN6 : N ≤ 1000000 := by omega
 have hk6 : 4 * N + 2 ≤ k := by omega
 clear hz hsub hz0 hS0 hs hk hN hR0 hval hd1
 obtain ⟨W2, hW2⟩ : ∃ W, (w.alloc (.cells #[.int .i64 0, .int .i64 0, .string ⟨#[]⟩, .slice none 0 0, .slice none 0 0] 25)).alloc (.cells #[.int .i64 5, .int .i64 0, .string ⟨#[]⟩, .slice none 0 0, .slice none 0 0] 25) = W := ⟨_, rfl⟩
 have br2 : W2.heap[w.heap.size]? = some (.cells #[.int .i64 0, .int .i64 0, .string ⟨#[]⟩, .slice none 0 0, .slice none 0 0] 25 (0, 0)) := by rw [← hW2]; exact blk_alloc (blk_new w _) _
 have bv2 : W2.heap[w.heap.size + 1]? = some (.cells #[.int .i64 5, .int .i64 0, .string ⟨#[]⟩, .slice none 0 0, .slice none 0 0] 25 (0, 0)) := by
  rw [← hW2]
  have h := blk_new (w.alloc (.cells #[.int .i64 0, .int .i64 0, .string ⟨#[]⟩, .slice none 0 0, .slice none 0 0] 25)) (.cells #[.int .i64 5, .int .i64 0, .string ⟨#[]⟩, .slice none 0 0, .slice none 0 0] 25)
  rw [show (w.alloc (.cells #[.int .i64 0, .int .i64 0, .string ⟨#[]⟩, .slice none 0 0, .slice none 0 0] 25)).heap.size = w.heap.size + 1 by simp] at h
  exact h
 have hb2 : Below w.heap.size w W2 := by rw [← hW2]; exact below_alloc (below_alloc (Below.refl _ w) _) _
 have hz2 : w.heap.size + 2 ≤ W2.heap.size := by rw [← hW2]; simp
 have BR2 := Aside0.mk br2
 have BV2 := Aside0.mk bv2
 have HB2 := Aside0.mk hb2
 have HW2 := Aside0.mk hW2
 clear hW2 br2 bv2 hb2
 go_enter Tryz.func53, Tryz.ntmps53
 go_wp2_with (rw [HW2.out])
 refine (HBE.out 1 W2).mono ?_
 rintro e w3 ⟨b3, rfl, hbt3, hbf3, hd3⟩
 have hb3 := hd3.below
 have BR3 := Aside0.mk (blk_below BR2.out hb3)
 have BV3 := Aside0.mk (blk_below BV2.out hb3)
 have HB3 := Aside0.mk (below_then HB2.out HB2.out.size hb3)
 have hz3 : w.heap.size + 2 ≤ w3.heap.size := Nat.le_trans hz2 hb3.size
 have HL3 := Aside0.mk (Kd.R_nil k25 25 w3 (w.heap.size + 2) (fun k_ => w.heap.size + 2 ≤ k_ ∧ some k_ ≠ (Value.slice none 0 0).ownBlock))
 have HK3 := Aside0.mk (Kd.R_nil Kd.string 9 w3 (w.heap.size + 2) (fun k_ => w.heap.size + 2 ≤ k_ ∧ some k_ ≠ (Value.slice none 0 0).ownBlock))
 clear hd3 hb3 BR2 BV2 HB2 hz2 HW2
 cases b3 with
 | true =>
  have hend := hbt3 rfl
  clear hbt3 hbf3
  have HR := Aside0.mk (show R0 = some (⟨5, 0, ⟨#[]⟩, [], []⟩, (S0.drop 1).drop 1) by rw [← HR0.out, if_pos (by rw [← HD1.out]; exact hend), ← HD1.out])
  have hN2 : 2 ≤ N := by
   have := hend.length_le
   rw [List.length_drop, HS0.out] at this
   simp only [List.length_singleton] at this
   omega
  clear hend
  have e2 : wrap64 ((1 : Int) + 1) = 2 := by rw [w64 (by omega) (by omega)]; rfl
  have m0 := (blk_cell BV3.out 0).trans (rfl : _ = some (Value.int .i64 5))
  have m1 := (blk_cell BV3.out 1).trans (rfl : _ = some (Value.int .i64 0))
  have m2 := (blk_cell BV3.out 2).trans (rfl : _ = some (Value.string ⟨#[]⟩))
  have m3 := (blk_cell BV3.out 3).trans (rfl : _ = some (Value.slice none 0 0))
  have m4 := (blk_cell BV3.out 4).trans (rfl : _ = some (Value.slice none 0 0))
  have o0 := (blk_cell BR3.out 0).trans (rfl : _ = some (Value.int .i64 0))
  have o1 := (blk_cell BR3.out 1).trans (rfl : _ = some (Value.int .i64 0))
  have o2 := (blk_cell BR3.out 2).trans (rfl : _ = some (Value.string ⟨#[]⟩))
  have o3 := (blk_cell BR3.out 3).trans (rfl : _ = some (Value.slice none 0 0))
  have o4 := (blk_cell BR3.out 4).trans (rfl : _ = some (Value.slice none 0 0))
  have i0 := blk_frozen BR3.out 0
  have i1 := blk_frozen BR3.out 1
  have i2 := blk_frozen BR3.out 2
  have i3 := blk_frozen BR3.out 3
  have i4 := blk_frozen BR3.out 4
  go_wp2
  refine bodyPost_ret (results_ct rfl _ _ w.heap.size 25 #[.int .i64 5, .int .i64 0, .string ⟨#[]⟩, .slice none 0 0, .slice none 0 0] (0, 0) _ rfl (fill5 BR3.out) Tryz.underlying25 rfl (by kernel_rfl)) rfl ?_
  refine ⟨⟨5, 0, ⟨#[]⟩, [], []⟩, 2, _, _, rfl, Kd.R_nil _ _ _ _ _, Kd.R_nil _ _ _ _ _, below_set5 HB3.out (Nat.le_refl _) _ _ _ _ _, hN2, ?_, fun e => (by rw [HR.out] at e; cases e)⟩
  intro v r e
  rw [HR.out] at e
  simp only [Option.some.injEq, Prod.mk.injEq] at e
  obtain ⟨rfl, rfl⟩ := e
  refine ⟨rfl, by decide, ?_⟩
  rw [List.length_drop, List.length_drop, HS0.out]
  omega
 | false =>
 have hend := hbf3 rfl
 clear hbt3 hbf3
 have HR := Aside0.mk (show R0 = rfItems k false [] [] (S0.drop 1) by rw [← HR0.out, if_neg (by rw [← HD1.out]; exact hend), ← HD1.out])
 clear hend
 have m0 := (blk_cell BV3.out 0).trans (rfl : _ = some (Value.int .i64 5))
 go_wp2
 go_loopw [6] (fun v6 wr => ∃ (ls : List V) (ks : List ByteArray) (n : Nat) (c3 c4 : Value) (kk : Nat), v6 = .int .i64 (n : Int) ∧ n ≤ N ∧ Aside0 (R0 = rfItems kk false ls ks (S0.drop n) ∧ 4 * (N - n) + 6 ≤ kk ∧ ls.length ≤ n ∧ ks.length ≤ n) ∧ kk ≤ k ∧ Aside0 (Below w.heap.size w wr) ∧ Aside0 (wr.heap[w.heap.size + 1]? = some (.cells #[.int .i64 5, .int .i64 0, .string ⟨#[]⟩, c3, c4] 25 (0, 0))) ∧ Aside0 (wr.heap[w.heap.size]? = some (.cells #[.int .i64 0, .int .i64 0, .string ⟨#[]⟩, .slice none 0 0, .slice none 0 0] 25 (0, 0))) ∧ Aside0 (Kd.R k25 25 wr (w.heap.size + 2) (fun k_ => w.heap.size + 2 ≤ k_ ∧ some k_ ≠ c4.ownBlock) c3 ls) ∧ Aside0 (Kd.R Kd.string 9 wr (w.heap.size + 2) (fun k_ => w.heap.size + 2 ≤ k_ ∧ some k_ ≠ c3.ownBlock) c4 ks) ∧ w.heap.size + 2 ≤ wr.heap.size) (fun v6 wr => N + 1 - (intOf v6).toNat)
 case atStart => exact ⟨[], [], 1, .slice none 0 0, .slice none 0 0, k, rfl, hNp, ⟨HR.out, by omega, by simp, by simp⟩, Nat.le_refl _, HB3, BV3, BR3, HL3, HK3, hz3⟩
 case round =>
  obtain ⟨ls, ks, n, c3, c4, kk, rfl, hnN, HS, hkk, HB, BV, BR, HL, HK, hwr⟩ := hrel
  clear HR BR3 BV3 HB3 HL3 HK3 hz3 HR0 HD1 m0
  obtain ⟨hp1, hp2, hpl, hpk⟩ := HS.out
  obtain ⟨k2, rfl⟩ : ∃ k2, kk = k2 + 1 + 1 := ⟨kk - 2, by omega⟩
  have HP1 := Aside0.mk hp1
  clear hp1 HS
  have m0 := (blk_cell BV.out 0).trans (rfl : _ = some (Value.int .i64 5))
  have HPJ2 := Aside0.mk (show R0 = rfItem (k2 + 1) false ls ks (S0.drop n) by rw [HP1.out, rfItems])
  have HV1 := Aside0.mk (HVAL.out k2 n wr (by omega) (by omega))
  have hkl3 : ks.length ≤ n := hpk
  have hll2 : ls.length ≤ n := hpl
  have hn1N' : n ≤ N := hnN
  have hn1le' : n ≤ n := Nat.le_refl _
  have HL11 := HL
  have HK11 := HK
  have BV11 := BV
  have BR11 := BR
  have HB11 := HB
  have hz11 := hwr
  clear HP1
  go_wp2_with fail
  refine (HV1.out).mono ?_
  rintro e w12 ⟨x, nx, x3, x4, rfl, hx3, hx4, hb12, hnx, hy12, hn12⟩
  obtain ⟨X3, p3, rfl⟩ := Kd.R_slice hx3
  obtain ⟨X4, p4, rfl⟩ := Kd.R_slice hx4
  have hz12 : w.heap.size + 2 ≤ w12.heap.size := Nat.le_trans hz11 hb12.size
  obtain ⟨W14, hW14⟩ : ∃ W, w12.alloc (.cells #[.int .i64 x.f0, .int .i64 x.f1, .string x.f2, .slice X3 x.f3.length p3, .slice X4 x.f4.length p4] 25) = W := ⟨_, rfl⟩
  have hb14 : Below w12.heap.size w12 W14 := by rw [← hW14]; exact below_alloc (Below.refl _ _) _
  have bx14 : W14.heap[w12.heap.size]? = some (.cells #[.int .i64 x.f0, .int .i64 x.f1, .string x.f2, .slice X3 x.f3.length p3, .slice X4 x.f4.length p4] 25 (0, 0)) := by rw [← hW14]; exact blk_new _ _
  have HX3 := Aside0.mk (Kd.R_below (Kd.R_mono hx3 (fun k_ hk_ => Nat.le_trans (Nat.le_refl _) hk_)) hb14)
  have HX4 := Aside0.mk (Kd.R_below (Kd.R_mono hx4 (fun k_ hk_ => Nat.le_trans (Nat.le_refl _) hk_)) hb14)
  have HL12 := Aside0.mk (Kd.R_below HL11.out hb12)
  have HK12 := Aside0.mk (Kd.R_below HK11.out hb12)
  have HL14 := Aside0.mk (Kd.R_below HL12.out hb14)
  have HK14 := Aside0.mk (Kd.R_below HK12.out hb14)
  have BV14 := Aside0.mk (blk_below (blk_below BV11.out hb12) hb14)
  have BR14 := Aside0.mk (blk_below (blk_below BR11.out hb12) hb14)
  have HB14 := Aside0.mk (below_then (below_then HB11.out HB11.out.size hb12) (Nat.le_trans HB11.out.size hb12.size) hb14)
  have hz14 : w.heap.size + 2 ≤ W14.heap.size := Nat.le_trans hz12 hb14.size
  have HW14 := Aside0.mk hW14
  have HL12s := hz12
  have hlen12 := hb12.size
  cases hR : rfV k2 (S0.drop n) with
  | none =>
   obtain rfl := hn12 hR
   have HRN := Aside0.mk (show R0 = none by rw [HPJ2.out]; exact rfItem_none hR)
   clear hR hW14 hx3 hx4 hy12 hn12 bx14 hb14
   obtain ⟨A3, q3, e3_⟩ := Kd.R_slice HL14.out
   obtain ⟨A4, q4, e4_⟩ := Kd.R_slice HK14.out
   have bv_ := BV14.out
   have hl_ := HL14.out
   have hk_ := HK14.out
   rw [e3_, e4_] at bv_ hl_ hk_
   clear e3_ e4_
   have m0 := (blk_cell bv_ 0).trans (rfl : _ = some (Value.int .i64 5))
   have m1 := (blk_cell bv_ 1).trans (rfl : _ = some (Value.int .i64 0))
   have m2 := (blk_cell bv_ 2).trans (rfl : _ = some (Value.string ⟨#[]⟩))
   have m3 := (blk_cell bv_ 3).trans (rfl : _ = some (Value.slice A3 ls.length q3))
   have m4 := (blk_cell bv_ 4).trans (rfl : _ = some (Value.slice A4 ks.length q4))
   have o0 := (blk_cell BR14.out 0).trans (rfl : _ = some (Value.int .i64 0))
   have o1 := (blk_cell BR14.out 1).trans (rfl : _ = some (Value.int .i64 0))
   have o2 := (blk_cell BR14.out 2).trans (rfl : _ = some (Value.string ⟨#[]⟩))
   have o3 := (blk_cell BR14.out 3).trans (rfl : _ = some (Value.slice none 0 0))
   have o4 := (blk_cell BR14.out 4).trans (rfl : _ = some (Value.slice none 0 0))
   have i0 := blk_frozen BR14.out 0
   have i1 := blk_frozen BR14.out 1
   have i2 := blk_frozen BR14.out 2
   have i3 := blk_frozen BR14.out 3
   have i4 := blk_frozen BR14.out 4
   have HL_ := Aside0.mk hl_
   have HK_ := Aside0.mk hk_
   clear bv_ hl_ hk_
   go_wp2_with (rw [HW14.out])
   refine bodyPost_ret (results_ct rfl _ _ w.heap.size 25 #[.int .i64 5, .int .i64 0, .string ⟨#[]⟩, .slice A3 ls.length q3, .slice A4 ks.length q4] (0, 0) _ rfl (fill5 BR14.out) Tryz.underlying25 rfl (by kernel_rfl)) rfl ?_
   refine ⟨⟨5, 0, ⟨#[]⟩, ls, ks⟩, 0, _, _, rfl, R_set5 HL_.out (fun _ hk_ => hk_.1) (by omega) (by omega) _ _ _ _ _, R_set5 HK_.out (fun _ hk_ => hk_.1) (by omega) (by omega) _ _ _ _ _, below_set5 HB14.out (Nat.le_refl _) _ _ _ _ _, Nat.zero_le _, fun v r e => (by rw [HRN.out] at e; cases e), fun _ => rfl⟩
  | some p =>
   obtain ⟨v, r⟩ := p
   obtain ⟨rfl, hnx0, hnr⟩ := hy12 v r hR
   have hnr' : n + nx ≤ N := by omega
   have hsuf := ((rf_suf k2).1 _ _ _ hR).1.1
   rw [List.length_drop, HS0.out, List.drop_drop] at hsuf
   obtain ⟨n2, hn2⟩ : ∃ n2, n + nx = n2 := ⟨_, rfl⟩
   have hrd : r = S0.drop n2 := by rw [show n + (N - n - r.length) = n2 by omega] at hsuf; exact hsuf
   have HPA := Aside0.mk (show R0 = aftR k2 false (ls ++ [x]) ks (S0.drop n2) by rw [HPJ2.out, rfItem_some hR, hrd])
   obtain ⟨n3, hn3⟩ : ∃ n3, n2 + 1 = n3 := ⟨_, rfl⟩
   have hn2N : n2 ≤ N := by omega
   have hn2g : n + 1 ≤ n2 := by omega
   have hnz : ¬ ((nx : Int) = 0) := by omega
   have hb2_ : n2 ≤ 10000000 := by omega
   have hb3_ : n3 ≤ 10000000 := by omega
   have HLML := Aside0.mk (show (ls.length + 1) * 80 ≤ 140737488355328 by omega)
   have dnx : ((nx : Int) == 0) = false := beq_eq_false_iff_ne.2 hnz
   have e3 : wrap64 ((n : Int) + (nx : Int)) = (n2 : Int) := w64n hn2 hb2_
   have e4 : wrap64 ((n2 : Int) + 1) = (n3 : Int) := w64n (b := 1) hn3 hb3_
   have y3 := (blk_cell BV14.out 3).trans (rfl : _ = some c3)
   have f3 := blk_frozen BV14.out 3
   have z0 := (blk_cell bx14 0).trans (rfl : _ = some (Value.int .i64 x.f0))
   have z1 := (blk_cell bx14 1).trans (rfl : _ = some (Value.int .i64 x.f1))
   have z2 := (blk_cell bx14 2).trans (rfl : _ = some (Value.string x.f2))
   have z3 := (blk_cell bx14 3).trans (rfl : _ = some (Value.slice X3 x.f3.length p3))
   have z4 := (blk_cell bx14 4).trans (rfl : _ = some (Value.slice X4 x.f4.length p4))
   have HN2 := Aside0.mk hn2
   have HN3 := Aside0.mk hn3
   have HRL := Aside0.mk hnr
   clear hR hW14 hx3 hx4 hy12 hn12 bx14 hb14 hsuf hrd hn2 hn3 hnr hnr' hnx hnx0
   go_wp2_with (first | ((with_reducible refine gate_builtin (b := .append) (xs := #[.tmp 67, .tmp 69]) rfl ?_); at_builtin; refine Kd.R_append k25 (w0 := W14) (w.heap.size + 2) rfl (.tmp 67) (.tmp 69) 22 25 (.agg #[.int .i64 0, .int .i64 0, .string ⟨#[]⟩, .slice none 0 0, .slice none 0 0]) 80 rfl Tryz.underlying22 info25 rfl (by decide) (by decide) c3 ls x [.int .i64 x.f0, .int .i64 x.f1, .string x.f2, .slice X3 x.f3.length p3, .slice X4 x.f4.length p4] (fun k_ => w.heap.size + 2 ≤ k_ ∧ some k_ ≠ c4.ownBlock) (fun k_ => wr.heap.size ≤ k_) rfl rfl ?aP (fun k_ hk_ => ⟨⟨Nat.le_trans hz11 hk_, R_fresh HK11.out hk_⟩, R_fresh HL11.out hk_⟩) ?aF ?aO ?aB ?aS ?aL ?_; (case aP => exact k25_mkM W14 _ _ x (Kd.R_lower HX3.out hz11) (Kd.R_lower HX4.out hz11)); (case aF => exact (fun k_ hk_ => ⟨Nat.le_trans hz14 hk_, R_fresh HK14.out hk_⟩)); (case aO => exact HL14.out); (case aB => exact Below.refl _ _); (case aS => exact hz14); (case aL => exact HLML.out); intro v2 w15 ho hb hg hat; obtain ⟨Al, ql, e_⟩ := Kd.R_slice ho; generalize hn_ : (ls ++ [x]).length = nl at e_; subst e_; have yl := (blk_cell ((hb.block (w.heap.size + 1) (Nat.lt_succ_self _)).trans BV14.out) 3).trans (rfl : _ = some c3); have fl := blk_frozen ((hb.block (w.heap.size + 1) (Nat.lt_succ_self _)).trans BV14.out) 3; have HOl := Aside0.mk ho; have HBl := Aside0.mk hb; have HGl := Aside0.mk hg; have HATl := Aside0.mk hat; have HNl := Aside0.mk hn_; clear ho hb hg hat hn_ y3 f3 z0 z1 z2 z3 z4) | (rw [HW14.out]))
   rw [e3]
   clear e3 e4 yl fl
   have HE4 := Aside0.mk (show (n2 : Int) + 1 = (n3 : Int) by have := HN3.out; omega)
   have ho := HOl.out
   have hb := HBl.out
   obtain ⟨ls2, hls2⟩ : ∃ ls2, ls ++ [x] = ls2 := ⟨_, rfl⟩
   have hnl := HNl.out
   rw [hls2] at ho hnl
   have HPA2 := Aside0.mk (show R0 = aftR k2 false ls2 ks (S0.drop n2) by rw [← hls2]; exact HPA.out)
   have hll3 : ls2.length ≤ n2 := by rw [← hls2, List.length_append, List.length_singleton]; omega
   have hkl4 : ks.length ≤ n2 := by omega
   have hk15 := Kd.R_after (ok := fun k_ => w.heap.size + 2 ≤ k_) HK14.out HGl.out HATl.out
   have bv15 : w15.heap[w.heap.size + 1]? = some (.cells #[.int .i64 5, .int .i64 0, .string ⟨#[]⟩, c3, c4] 25 (0, 0)) := (hb.block (w.heap.size + 1) (by omega)).trans BV14.out
   have br15 : w15.heap[w.heap.size]? = some (.cells #[.int .i64 0, .int .i64 0, .string ⟨#[]⟩, .slice none 0 0, .slice none 0 0] 25 (0, 0)) := (hb.block w.heap.size (by omega)).trans BR14.out
   have hb15 : Below w.heap.size w w15 := below_base HB14.out hb (by omega)
   have hz15 : w.heap.size + 2 ≤ w15.heap.size := Nat.le_trans hz14 hb.size
   obtain ⟨W16, hW16⟩ : ∃ W, w15.setCell ⟨w.heap.size + 1, 3, none⟩ (.slice Al nl ql) = W := ⟨_, rfl⟩
   obtain ⟨d3, hd3⟩ : ∃ d3, Value.slice Al nl ql = d3 := ⟨_, rfl⟩
   have BV16 := Aside0.mk (show W16.heap[w.heap.size + 1]? = some (.cells #[.int .i64 5, .int .i64 0, .string ⟨#[]⟩, d3, c4] 25 (0, 0)) by rw [← hW16, ← hd3]; exact blk_set bv15 3 _)
   have BR16 := Aside0.mk (show W16.heap[w.heap.size]? = some (.cells #[.int .i64 0, .int .i64 0, .string ⟨#[]⟩, .slice none 0 0, .slice none 0 0] 25 (0, 0)) by rw [← hW16]; exact blk_far (p := ⟨w.heap.size + 1, 3, none⟩) br15 (show w.heap.size ≠ w.heap.size + 1 by omega) _)
   have HL16 := Aside0.mk (show Kd.R k25 25 W16 (w.heap.size + 2) (fun k_ => w.heap.size + 2 ≤ k_ ∧ some k_ ≠ c4.ownBlock) d3 ls2 by rw [← hW16, ← hd3]; exact R_fars (g := w.heap.size + 1) (j := 3) ho (by omega) _)
   have HK16 := Aside0.mk (show Kd.R Kd.string 9 W16 (w.heap.size + 2) (fun k_ => w.heap.size + 2 ≤ k_ ∧ some k_ ≠ d3.ownBlock) c4 ks by rw [← hW16, ← hd3]; exact R_fars (g := w.heap.size + 1) (j := 3) hk15 (by omega) _)
   have HB16 := Aside0.mk (show Below w.heap.size w W16 by rw [← hW16]; exact below_set hb15 (by omega))
   have hz16 : w.heap.size + 2 ≤ W16.heap.size := by rw [← hW16]; simpa using hz15
   rw [hW16]
   clear ho hb hk15 bv15 br15 hb15 hW16 hd3 hls2 hnl HPA HPJ2 HL14 HK14 BV14 BR14 HB14 HX3 HX4 HL12 HK12 HOl HBl HGl HATl HNl
   refine (HBE.out n2 W16).mono ?_
   rintro e w17 ⟨b17, rfl, hbt17, hbf17, hd17⟩
   have hb17 := hd17.below
   have HL17 := Aside0.mk (Kd.R_below HL16.out hb17)
   have HK17 := Aside0.mk (Kd.R_below HK16.out hb17)
   have BV17 := Aside0.mk (blk_below BV16.out hb17)
   have BR17 := Aside0.mk (blk_below BR16.out hb17)
   have HB17 := Aside0.mk (below_then HB16.out HB16.out.size hb17)
   have hz17 : w.heap.size + 2 ≤ w17.heap.size := Nat.le_trans hz16 hb17.size
   clear hd17 hb17 HL16 HK16 BV16 BR16 HB16 hz16
   cases b17 with
   | true =>
    have hend := hbt17 rfl
    clear hbt17 hbf17
    have HRE := Aside0.mk (show R0 = some (⟨5, 0, ⟨#[]⟩, ls2, ks⟩, (S0.drop n2).drop 1) by rw [HPA2.out]; unfold aftR; rw [if_pos (show [endc false] <+: S0.drop n2 from hend)]; rfl)
    have hn3N : n3 ≤ N := by
     have h1 := hend.length_le
     rw [List.length_drop, HS0.out] at h1
     simp only [List.length_singleton] at h1
     have := HN3.out
     omega
    have HLAST := Aside0.mk (show (∀ v r, R0 = some (v, r) → (⟨5, 0, ⟨#[]⟩, ls2, ks⟩ : V) = v ∧ 0 < n3 ∧ n3 + r.length = N) ∧ (R0 = none → n3 = 0) by
     refine ⟨fun v r e => ?_, fun e => (by rw [HRE.out] at e; cases e)⟩
     rw [HRE.out] at e
     simp only [Option.some.injEq, Prod.mk.injEq] at e
     obtain ⟨rfl, rfl⟩ := e
     refine ⟨rfl, by have := HN3.out; omega, ?_⟩
     rw [List.length_drop, List.length_drop, HS0.out]
     have := HN3.out
     omega)
    clear hend
    obtain ⟨A3, q3, e3_⟩ := Kd.R_slice HL17.out
    obtain ⟨A4, q4, e4_⟩ := Kd.R_slice HK17.out
    have bv_ := BV17.out
    have hl_ := HL17.out
    have hk_ := HK17.out
    rw [e3_, e4_] at bv_ hl_ hk_
    clear e3_ e4_
    have m0 := (blk_cell bv_ 0).trans (rfl : _ = some (Value.int .i64 5))
    have m1 := (blk_cell bv_ 1).trans (rfl : _ = some (Value.int .i64 0))
    have m2 := (blk_cell bv_ 2).trans (rfl : _ = some (Value.string ⟨#[]⟩))
    have m3 := (blk_cell bv_ 3).trans (rfl : _ = some (Value.slice A3 ls2.length q3))
    have m4 := (blk_cell bv_ 4).trans (rfl : _ = some (Value.slice A4 ks.length q4))
    have o0 := (blk_cell BR17.out 0).trans (rfl : _ = some (Value.int .i64 0))
    have o1 := (blk_cell BR17.out 1).trans (rfl : _ = some (Value.int .i64 0))
    have o2 := (blk_cell BR17.out 2).trans (rfl : _ = some (Value.string ⟨#[]⟩))
    have o3 := (blk_cell BR17.out 3).trans (rfl : _ = some (Value.slice none 0 0))
    have o4 := (blk_cell BR17.out 4).trans (rfl : _ = some (Value.slice none 0 0))
    have i0 := blk_frozen BR17.out 0
    have i1 := blk_frozen BR17.out 1
    have i2 := blk_frozen BR17.out 2
    have i3 := blk_frozen BR17.out 3
    have i4 := blk_frozen BR17.out 4
    have HL_ := Aside0.mk hl_
    have HK_ := Aside0.mk hk_
    clear bv_ hl_ hk_
    go_wp2
    refine bodyPost_ret (results_ct rfl _ _ w.heap.size 25 #[.int .i64 5, .int .i64 0, .string ⟨#[]⟩, .slice A3 ls2.length q3, .slice A4 ks.length q4] (0, 0) _ rfl (fill5 BR17.out) Tryz.underlying25 rfl (by kernel_rfl)) rfl ?_
    refine ⟨⟨5, 0, ⟨#[]⟩, ls2, ks⟩, n3, _, _, (tupn HE4.out), R_set5 HL_.out (fun _ hk_ => hk_.1) (by omega) (by omega) _ _ _ _ _, R_set5 HK_.out (fun _ hk_ => hk_.1) (by omega) (by omega) _ _ _ _ _, below_set5 HB17.out (Nat.le_refl _) _ _ _ _ _, hn3N, HLAST.out.1, HLAST.out.2⟩
   | false =>
    have hnend := hbf17 rfl
    clear hbt17 hbf17
    have HNE := Aside0.mk hnend
    clear hnend
    go_wp2_with fail
    refine (HBC.out n2 w17).mono ?_
    rintro e w18 ⟨b18, rfl, hbt18, hbf18, hd18⟩
    have hb18 := hd18.below
    have HL18 := Aside0.mk (Kd.R_below HL17.out hb18)
    have HK18 := Aside0.mk (Kd.R_below HK17.out hb18)
    have BV18 := Aside0.mk (blk_below BV17.out hb18)
    have BR18 := Aside0.mk (blk_below BR17.out hb18)
    have HB18 := Aside0.mk (below_then HB17.out HB17.out.size hb18)
    have hz18 : w.heap.size + 2 ≤ w18.heap.size := Nat.le_trans hz17 hb18.size
    clear hd18 hb18 HL17 HK17 BV17 BR17 HB17 hz17
    cases b18 with
    | true =>
     have hcm := hbt18 rfl
     clear hbt18 hbf18
     have HRC := Aside0.mk (show R0 = rfItems k2 false ls2 ks (S0.drop n3) by
      rw [HPA2.out]; unfold aftR; rw [if_neg (show ¬ [endc false] <+: S0.drop n2 from HNE.out), if_pos hcm, List.drop_drop, HN3.out])
     have hn3N : n3 ≤ N := by
      have h1 := hcm.length_le
      rw [List.length_drop, HS0.out] at h1
      simp only [List.length_singleton] at h1
      have := HN3.out
      omega
     have hn3g : n2 + 1 = n3 := HN3.out
     have HREL := Aside0.mk (show R0 = rfItems k2 false ls2 ks (S0.drop n3) ∧ 4 * (N - n3) + 6 ≤ k2 ∧ ls2.length ≤ n3 ∧ ks.length ≤ n3 from ⟨HRC.out, by omega, by omega, by omega⟩)
     have hk2k : k2 ≤ k := by omega
     have hng : n < n3 := by omega
     clear hcm hn3g
     go_wp2
     go_roundw
     case rel => exact ⟨ls2, ks, n3, d3, c4, k2, congrArg (Value.int .i64) HE4.out, hn3N, HREL, hk2k, HB18, BV18, BR18, HL18, HK18, hz18⟩
     case measure => show N + 1 - ((n2 : Int) + 1).toNat < N + 1 - ((n : Nat) : Int).toNat; rw [HE4.out, Int.toNat_natCast, Int.toNat_natCast]; omega
    | false =>
     have hcm := hbf18 rfl
     clear hbt18 hbf18
     have HRN := Aside0.mk (show R0 = none by
      rw [HPA2.out]; unfold aftR; rw [if_neg (show ¬ [endc false] <+: S0.drop n2 from HNE.out), if_neg hcm])
     clear hcm
     obtain ⟨A3, q3, e3_⟩ := Kd.R_slice HL18.out
     obtain ⟨A4, q4, e4_⟩ := Kd.R_slice HK18.out
     have bv_ := BV18.out
     have hl_ := HL18.out
     have hk_ := HK18.out
     rw [e3_, e4_] at bv_ hl_ hk_
     clear e3_ e4_
     have m0 := (blk_cell bv_ 0).trans (rfl : _ = some (Value.int .i64 5))
     have m1 := (blk_cell bv_ 1).trans (rfl : _ = some (Value.int .i64 0))
     have m2 := (blk_cell bv_ 2).trans (rfl : _ = some (Value.string ⟨#[]⟩))
     have m3 := (blk_cell bv_ 3).trans (rfl : _ = some (Value.slice A3 ls2.length q3))
     have m4 := (blk_cell bv_ 4).trans (rfl : _ = some (Value.slice A4 ks.length q4))
     have o0 := (blk_cell BR18.out 0).trans (rfl : _ = some (Value.int .i64 0))
     have o1 := (blk_cell BR18.out 1).trans (rfl : _ = some (Value.int .i64 0))
     have o2 := (blk_cell BR18.out 2).trans (rfl : _ = some (Value.string ⟨#[]⟩))
     have o3 := (blk_cell BR18.out 3).trans (rfl : _ = some (Value.slice none 0 0))
     have o4 := (blk_cell BR18.out 4).trans (rfl : _ = some (Value.slice none 0 0))
     have i0 := blk_frozen BR18.out 0
     have i1 := blk_frozen BR18.out 1
     have i2 := blk_frozen BR18.out 2
     have i3 := blk_frozen BR18.out 3
     have i4 := blk_frozen BR18.out 4
     have HL_ := Aside0.mk hl_
     have HK_ := Aside0.mk hk_
     clear bv_ hl_ hk_
     go_wp2
     refine bodyPost_ret (results_ct rfl _ _ w.heap.size 25 #[.int .i64 5, .int .i64 0, .string ⟨#[]⟩, .slice A3 ls2.length q3, .slice A4 ks.length q4] (0, 0) _ rfl (fill5 BR18.out) Tryz.underlying25 rfl (by kernel_rfl)) rfl ?_
     refine ⟨⟨5, 0, ⟨#[]⟩, ls2, ks⟩, 0, _, _, rfl, R_set5 HL_.out (fun _ hk_ => hk_.1) (by omega) (by omega) _ _ _ _ _, R_set5 HK_.out (fun _ hk_ => hk_.1) (by omega) (by omega) _ _ _ _ _, below_set5 HB18.out (Nat.le_refl _) _ _ _ _ _, Nat.zero_le _, fun v r e => (by rw [HRN.out] at e; cases e), fun _ => rfl⟩
end Go.Proofs.YtifejhbochkifaaGreatDoor.X
