/- json's reader: a text. -/
import Derived.Test.YtifejhbochkifaaGreatDoorHEsc
import Derived.Test.YtifejhbochkifaaGreatDoorHJsL
import Derived.Test.YtifejhbochkifaaGreatDoorSh
import Derived.WalkMore
import Derived.ScopeJumps
import Derived.Deep.LoopGhost
import Derived.StillTailTactics
namespace Go.Proofs.YtifejhbochkifaaGreatDoor.X
open Go.RowKit Go.Proofs.YtifejhbochkifaaGreatDoorW.PrintWords Go.Proofs.YtifejhbochkifaaGreatDoorW.PrintLast Go.Proofs.YtifejhbochkifaaGreatDoorW.PrintMore Go.Proofs.YtifejhbochkifaaGreatDoor.Spec
set_option linter.unusedVariables false
set_option linter.unusedSimpArgs false
theorem isb_grown {T e : TypeId} {B c b : Nat} {bs : List Value} {w w' : World} (h : Lib.IsBuilder T e B c bs w) (hg : w.grownBy w' (some b)) (hb : b < B) : Lib.IsBuilder T e B c bs w' := by
 have at_ : ∀ p, Lib.BuilderAt T e B c p bs w → Lib.BuilderAt T e B c p bs w' := by
  rintro p ⟨hB, v, h1, h2, h3⟩
  exact ⟨hB, v, (hg.block c (blk_lt h1) (fun e => by injection e with e; omega)).trans h1, own_move h2 (fun k hk => by
   obtain ⟨cells, hc⟩ := own_typed h2 k hk
   exact hg.block k (blk_lt hc) (fun e => by injection e with e; have := own_base h2 k hk; omega)), h3⟩
 exact h.imp (at_ _) (at_ _)
theorem gb_below {B b : Nat} {w w1 w2 : World} (hg : w.grownBy w1 (some b)) (hb : Below B w1 w2) (h : w.heap.size ≤ B) (h1 : B ≤ w1.heap.size) : w.grownBy w2 (some b) :=
 ⟨hb.os.trans hg.os, hb.tape.trans hg.tape, hb.output.trans hg.output, Nat.le_trans hg.size hb.size, fun i hi hn => (hb.block i (by omega)).trans (hg.block i hi hn)⟩
theorem Rs.belowB {B : Nat} {w w' : World} {b : Nat} {s : List UInt8} {bad : Bool} (h : Rs w b s bad) (hb : Below B w w') (hB : b < B) : Rs w' b s bad := (hb.block b hB).trans h

theorem jumps2 {P : Program} {a : Act} {w : World} {Q : Exit → Act → World → Prop} {c rest : Code} (l : Nat) (J : Act → World → Prop) (μ : Act → World → Nat) (hf : findLabel c l = some (Code.skip.seq rest))
  (pass : ∀ a w, J a w → rest.wp P (Exit.jump l (fun a' w' => J a' w' ∧ μ a' w' < μ a w) Q) a w)
  (first : (∀ a w, J a w → rest.wp P (Exit.jump l J Q) a w) → c.wp P (Exit.jump l J Q) a w) : (Code.scope c).wp P Q a w :=
 wp_scope_jumps l J μ hf (first (fun a w hJ => wp_mono (pass a w hJ) (fun e a w hq => by
  cases e <;> first | exact hq | exact ⟨hq.1, hq.2.1⟩))) (fun a w hJ => wp_seq (wp_skip (pass a w hJ)))
/-- What holds at each jump. -/
def TxJ (b B : Nat) (w0 : World) (R0 : Option (List UInt8 × List UInt8)) (N : Nat) (a : Act) (w : World) : Prop :=
  ∃ (out s : List UInt8) (bad : Bool) (u4 u5 u6 u7 u8 u9 u10 u11 u12 u13 u14 u15 u16 u17 u18 u19 u20 u21 u22 u23 u24 u25 u26 u27 u28 u29 u30 u31 u32 u33 u34 u35 u36 u37 u38 u39 u40 u41 u42 u43 u44 u45 u46 u47 u48 u49 u50 u51 u52 u53 : Value), a = { tmps := #[.pointer (some ⟨b, 0, none⟩), undef, .string ⟨#[]⟩, .pointer (some ⟨B, 0, none⟩), u4, u5, u6, u7, u8, u9, u10, u11, u12, u13, u14, u15, u16, u17, u18, u19, u20, u21, u22, u23, u24, u25, u26, u27, u28, u29, u30, u31, u32, u33, u34, u35, u36, u37, u38, u39, u40, u41, u42, u43, u44, u45, u46, u47, u48, u49, u50, u51, u52, u53], defers := [] } ∧ Aside0 (Rs w b s bad) ∧ Aside0 (Lib.IsBuilder 79 5 B B (Lib.byteCells out) w) ∧ Aside0 (w0.grownBy w (some b)) ∧ Aside0 ((bad = false → readTx out s = R0) ∧ (bad = true → R0 = none) ∧ out.length + s.length ≤ N) 
def TxM (b : Nat) (_ : Act) (w : World) : Nat := match w.cell? ⟨b, 0, none⟩ with | some (.string s) => s.size | _ => 0
theorem TxM_of {b : Nat} {a : Act} {w : World} {s : List UInt8} {bad : Bool} (h : Rs w b s bad) : TxM b a w = s.length := by
 unfold TxM
 rw [h.c0]
 simp
def TxOut (w : World) (b : Nat) (n : Nat) (R0 : Option (List UInt8 × List UInt8)) (e : Ending) (w' : World) : Prop :=
  ∃ (t s' : List UInt8) (bad : Bool), e = .returned (.string (ba t)) ∧ Rs w' b s' bad ∧ w.grownBy w' (some b) ∧ s'.length ≤ n ∧ t.length ≤ n ∧
    (∀ t' r, R0 = some (t', r) → t = t' ∧ s' = r ∧ bad = false) ∧ (R0 = none → bad = true)
theorem readTx_34 (out r : List UInt8) : readTx out (34 :: r) = some (out, r) := by rw [readTx]; simp
theorem readTx_nil (out : List UInt8) : readTx out [] = none := by rw [readTx]
theorem readTx_esc1 {out r r' : List UInt8} {c : UInt8} (h : unesc r = some (c, r')) : readTx out (92 :: r) = readTx (out ++ [c]) r' := by
 rw [readTx, if_neg (by decide), if_pos rfl]
 split
 ·rename_i x r2 e
  rw [h] at e
  simp only [Option.some.injEq, Prod.mk.injEq] at e
  obtain ⟨rfl, rfl⟩ := e
  rfl
 ·rename_i e
  rw [h] at e; cases e
theorem readTx_esc0 {out r : List UInt8} (h : unesc r = none) : readTx out (92 :: r) = none := by
 rw [readTx, if_neg (by decide), if_pos rfl]
 split
 ·rename_i x r2 e
  rw [h] at e; cases e
 ·rfl
theorem readTx_low {out r : List UInt8} {c : UInt8} (h34 : c ≠ 34) (h92 : c ≠ 92) (h : c.toNat < 32) : readTx out (c :: r) = none := by
 rw [readTx, if_neg h34, if_neg h92, if_pos h]
theorem readTx_go {out r : List UInt8} {c : UInt8} (h34 : c ≠ 34) (h92 : c ≠ 92) (h : ¬ c.toNat < 32) : readTx out (c :: r) = readTx (out ++ [c]) r := by
 rw [readTx, if_neg h34, if_neg h92, if_neg h]

set_option maxHeartbeats 8000000 in
set_option maxRecDepth 100000 in
theorem text_calls (b : Nat) (s0 : List UInt8) (w : World) (h : Rs w b s0 false) (hs : s0.length ≤ 1000000) :
  Calls Tryz.prog 40 #[.pointer (some ⟨b, 0, none⟩)] w (TxOut w b s0.length (readQ s0)) := by
 obtain ⟨R0, hR⟩ : ∃ R, readQ s0 = R := ⟨_, rfl⟩
 obtain ⟨N, hN⟩ : ∃ N, s0.length = N := ⟨_, rfl⟩
 rw [hR, hN]
 have hbw : b < w.heap.size := h.lt
 have H := Aside0.mk h
 have HQ := Aside0.mk (show readQ s0 = R0 ∧ s0.length = N from ⟨hR, hN⟩)
 have hN6 : N ≤ 1000000 := by omega
 clear h hR hN hs
 go_enter Tryz.func40, Tryz.ntmps40
 go_wp2
 refine jumps2 0 (TxJ b w.heap.size w R0 N) (TxM b) rfl ?pass ?first
 case pass =>
  rintro a' w1 ⟨out, s, bad, u4, u5, u6, u7, u8, u9, u10, u11, u12, u13, u14, u15, u16, u17, u18, u19, u20, u21, u22, u23, u24, u25, u26, u27, u28, u29, u30, u31, u32, u33, u34, u35, u36, u37, u38, u39, u40, u41, u42, u43, u44, u45, u46, u47, u48, u49, u50, u51, u52, u53, rfl, H1, HI, HG, HJ⟩
  have c0 := H1.out.c0
  have c1 := H1.out.c1
  have f0 := blk_frozen H1.out 0
  have f1 := blk_frozen H1.out 1
  have hB1 : w.heap.size ≤ w1.heap.size := HG.out.size
  by_cases hend : bad = true ∨ s = []
  ·have HN := Aside0.mk (show R0 = none by
    rcases hend with e | e
    ·exact HJ.out.2.1 e
    ·cases bad with
     | true => exact HJ.out.2.1 rfl
     | false => rw [← HJ.out.1 rfl, e, readTx_nil])
   have HE := Aside0.mk (show TxOut w b N R0 (.returned (.string ⟨#[]⟩)) (w1.setCell ⟨b, 1, none⟩ (.bool true)) from
    ⟨[], s, true, rfl, H1.out.set1, HG.out.trans (gb_set _ b 1 _), by have := HJ.out.2.2; omega, by simp, fun t' r e => (by rw [HN.out] at e; cases e), fun _ => rfl⟩)
   rcases hend with rfl | rfl
   ·go_wp2
    simp only [Exit.jump]
    go_ret
    exact HE.out
   ·have he : (ba []) = (⟨#[]⟩ : ByteArray) := rfl
    rw [he] at c0
    cases bad
    ·go_wp2
     simp only [Exit.jump]
     go_ret
     exact HE.out
    ·go_wp2
     simp only [Exit.jump]
     go_ret
     exact HE.out
  ·rw [not_or] at hend
   obtain ⟨hb, hs⟩ := hend
   have hb' : bad = false := Bool.eq_false_iff.2 hb
   subst hb'
   obtain ⟨c, r, rfl⟩ := List.exists_cons_of_ne_nil hs
   obtain ⟨z, hz⟩ : ∃ z, ba (c :: r) = z := ⟨_, rfl⟩
   have hzs : z.size = r.length + 1 := by rw [← hz, size_ba]; rfl
   have hz1 : z.toList.isEmpty = false := by
    rw [toList_bl, ← hz, bl_ba]; rfl
   rw [hz] at c0
   have hJ1 := HJ.out.1 rfl
   have hJ3 := HJ.out.2.2
   simp only [List.length_cons] at hJ3
   have hol : (Lib.byteCells out).length + 1 ≤ 140737488355328 := by rw [Lib.byteCells_length]; omega
   clear hb hs
   by_cases h34 : c = 34
   ·subst h34
    rw [readTx_34] at hJ1
    have HR := Aside0.mk hJ1
    clear hJ1
    go_wp2_with fail
    refine (take_yes b (34 :: r) [34] false w1 H1.out (pre1 34 r)).mono ?_
    rintro e w2 ⟨rfl, h2, g2⟩
    have H2 := Aside0.mk h2
    have HI2 := Aside0.mk (isb_grown HI.out g2 hbw)
    have HG2 := Aside0.mk (HG.out.trans g2)
    clear h2 g2
    go_wp2_with fail
    refine (Sh.Builder_String_any w.heap.size w.heap.size out _ HI2.out HG2.out.size).mono ?_
    rintro e w3 ⟨rfl, hb3⟩
    have HE := Aside0.mk (show TxOut w b N R0 (.returned (.string (ba out))) w3 from
     ⟨out, r, false, rfl, H2.out.belowB hb3 hbw, gb_below HG2.out hb3 (Nat.le_refl _) HG2.out.size, by omega, by omega, fun t' r' e => (by rw [← HR.out] at e; simp only [Option.some.injEq, Prod.mk.injEq] at e; exact ⟨e.1, e.2, rfl⟩), fun e => (by rw [← HR.out] at e; cases e)⟩)
    clear hb3
    go_wp2
    simp only [Exit.jump]
    go_ret
    exact HE.out
   by_cases h92 : c = 92
   ·subst h92
    have HR := Aside0.mk hJ1
    clear hJ1
    go_wp2_with fail
    refine (take_no b (92 :: r) [34] false w1 H1.out (npre1 r (by decide))).mono ?_
    rintro e w2 ⟨rfl, rfl⟩
    go_wp2_with fail
    refine (take_yes b (92 :: r) [92] false w2 H1.out (pre1 92 r)).mono ?_
    rintro e w3 ⟨rfl, h2, g2⟩
    have H2 := Aside0.mk h2
    have HI2 := Aside0.mk (isb_grown HI.out g2 hbw)
    have HG2 := Aside0.mk (HG.out.trans g2)
    clear h2 g2
    go_wp2_with fail
    refine (escaped_calls b r w3 H2.out).mono ?_
    rintro e w4 ⟨x, s', bad', rfl, h4, g4, x0, x1, hl4, hs4, hn4⟩
    have H4 := Aside0.mk h4
    have HI4 := Aside0.mk (isb_grown HI2.out g4 hbw)
    have HG4 := Aside0.mk (HG2.out.trans g4)
    have HX := Aside0.mk (And.intro hs4 hn4)
    clear h4 g4 hs4 hn4
    go_wp2_with fail
    refine (Sh.Builder_WriteByte w.heap.size w.heap.size (Lib.byteCells out) x w4 HI4.out hol HG4.out.size).mono ?_
    rintro e w5 ⟨rfl, h5, hb5⟩
    have hcx : Lib.byteCells out ++ [Value.int .u8 x] = Lib.byteCells (out ++ [UInt8.ofNat x.toNat]) := by
     rw [Lib.byteCells_append]
     congr 1
     show [Value.int .u8 x] = [Value.int .u8 _]
     congr 2
     rw [UInt8.toNat_ofNat']
     omega
    rw [hcx] at h5
    have H5 := Aside0.mk (H4.out.belowB hb5 hbw)
    have HI5 := Aside0.mk (show Lib.IsBuilder 79 5 w.heap.size w.heap.size (Lib.byteCells (out ++ [UInt8.ofNat x.toNat])) w5 from Or.inr h5)
    have HG5 := Aside0.mk (gb_below HG4.out hb5 (Nat.le_refl _) HG4.out.size)
    clear h5 hb5
    have HJ5 := Aside0.mk (show (bad' = false → readTx (out ++ [UInt8.ofNat x.toNat]) s' = R0) ∧ (bad' = true → R0 = none) ∧ (out ++ [UInt8.ofNat x.toNat]).length + s'.length ≤ N by
     refine ⟨?_, ?_, by simp only [List.length_append, List.length_cons, List.length_nil]; omega⟩
     ·intro hb
      cases hu : unesc r with
      | none => have := HX.out.2 hu; rw [hb] at this; cases this
      | some p =>
       obtain ⟨cc, rr⟩ := p
       obtain ⟨e1, e2, _⟩ := HX.out.1 cc rr hu
       rw [← HR.out, readTx_esc1 hu, e2, e1, Int.toNat_natCast, UInt8.ofNat_toNat]
     ·intro hb
      cases hu : unesc r with
      | none => rw [← HR.out, readTx_esc0 hu]
      | some p =>
       obtain ⟨cc, rr⟩ := p
       obtain ⟨_, _, e3⟩ := HX.out.1 cc rr hu
       rw [hb] at e3; cases e3)
    clear hcx
    go_wp2
    go_step3
    refine ⟨rfl, ⟨out ++ [UInt8.ofNat x.toNat], s', bad', _, _, _, _, _, _, _, _, _, _, _, _, _, _, _, _, _, _, _, _, _, _, _, _, _, _, _, _, _, _, _, _, _, _, _, _, _, _, _, _, _, _, _, _, _, _, _, _, _, _, rfl, H5, HI5, HG5, HJ5⟩, ?_⟩
    rw [TxM_of H5.out, TxM_of H1.out]
    simp only [List.length_cons]
    omega
   ·have HR := Aside0.mk hJ1
    have hzi : 0 < z.size := by omega
    have hzc : ∀ h : 0 < z.size, z[0]'h = c := fun h => by subst hz; rfl
    have hzx : z.extract 1 (r.length + 1) = ba r := by subst hz; apply ByteArray.ext; simp [ba, ByteArray.size]
    have HZ := Aside0.mk hzc
    have HZX := Aside0.mk hzx
    have HZE := Aside0.mk hz
    clear hJ1 hzc hzx hz
    go_wp2_with fail
    refine (take_no b (c :: r) [34] false w1 H1.out (npre1 r (Ne.symm h34))).mono ?_
    rintro e w2 ⟨rfl, rfl⟩
    go_wp2_with fail
    refine (take_no b (c :: r) [92] false w2 H1.out (npre1 r (Ne.symm h92))).mono ?_
    rintro e w3 ⟨rfl, rfl⟩
    go_wp2_with fail
    refine (Sh.Builder_WriteByte w.heap.size w.heap.size (Lib.byteCells out) ((z[0]'hzi).toNat : Int) w3 HI.out hol HG.out.size).mono ?_
    rintro e w4 ⟨rfl, h5, hb5⟩
    rw [HZ.out] at h5
    have hcx : Lib.byteCells out ++ [Value.int .u8 (c.toNat : Int)] = Lib.byteCells (out ++ [c]) := by rw [Lib.byteCells_append]; rfl
    rw [hcx] at h5
    have H5 := Aside0.mk (H1.out.belowB hb5 hbw)
    have HI5 := Aside0.mk (show Lib.IsBuilder 79 5 w.heap.size w.heap.size (Lib.byteCells (out ++ [c])) w4 from Or.inr h5)
    have HG5 := Aside0.mk (gb_below HG.out hb5 (Nat.le_refl _) HG.out.size)
    clear h5 hb5 hcx
    have k0 := H5.out.c0
    rw [HZE.out] at k0
    have k1 := H5.out.c1
    have j0 := blk_frozen H5.out 0
    have j1 := blk_frozen H5.out 1
    have hcd : ((z[0]'hzi).toNat : Int) = (c.toNat : Int) := by rw [HZ.out]
    by_cases h32 : c.toNat < 32
    ·have hd : decide ((c.toNat : Int) < 32) = true := decide_eq_true (by omega)
     have HD := Aside0.mk hd
     have HN := Aside0.mk (show R0 = none by rw [← HR.out, readTx_low h34 h92 h32])
     go_wp2
     go_step3
     refine ⟨rfl, ⟨out ++ [c], r, true, _, _, _, _, _, _, _, _, _, _, _, _, _, _, _, _, _, _, _, _, _, _, _, _, _, _, _, _, _, _, _, _, _, _, _, _, _, _, _, _, _, _, _, _, _, _, _, _, _, _, rfl, ⟨?_⟩, ⟨?_⟩, ⟨?_⟩, ⟨fun e => (by cases e), fun _ => HN.out, by simp only [List.length_append, List.length_cons, List.length_nil]; omega⟩⟩, ?_⟩
     ·(try rw [HD.out]); rw [HZX.out]; exact H5.out.set1.set0
     ·exact isb_grown HI5.out ((gb_set _ b 1 _).trans (gb_set _ b 0 _)) hbw
     ·exact HG5.out.trans ((gb_set _ b 1 _).trans (gb_set _ b 0 _))
     ·(try rw [HD.out]); rw [HZX.out, TxM_of (H5.out.set1.set0), TxM_of H1.out]
      simp only [List.length_cons]; omega
    ·have hd : decide ((c.toNat : Int) < 32) = false := decide_eq_false (by omega)
     have HD := Aside0.mk hd
     have HN := Aside0.mk (show readTx (out ++ [c]) r = R0 by rw [← HR.out, readTx_go h34 h92 h32])
     go_wp2
     go_step3
     refine ⟨rfl, ⟨out ++ [c], r, false, _, _, _, _, _, _, _, _, _, _, _, _, _, _, _, _, _, _, _, _, _, _, _, _, _, _, _, _, _, _, _, _, _, _, _, _, _, _, _, _, _, _, _, _, _, _, _, _, _, _, rfl, ⟨?_⟩, ⟨?_⟩, ⟨?_⟩, ⟨fun _ => HN.out, fun e => (by cases e), by simp only [List.length_append, List.length_cons, List.length_nil]; omega⟩⟩, ?_⟩
     ·(try rw [HD.out]); rw [HZX.out]; exact H5.out.set1.set0
     ·exact isb_grown HI5.out ((gb_set _ b 1 _).trans (gb_set _ b 0 _)) hbw
     ·exact HG5.out.trans ((gb_set _ b 1 _).trans (gb_set _ b 0 _))
     ·(try rw [HD.out]); rw [HZX.out, TxM_of (H5.out.set1.set0), TxM_of H1.out]
      simp only [List.length_cons]; omega
 case first =>
  intro PASS
  by_cases h34 : [34] <+: s0
  ·have HP := Aside0.mk h34
   have HR := Aside0.mk (show readTx [] (s0.drop 1) = R0 ∧ (s0.drop 1).length + 1 = N by
    refine ⟨?_, ?_⟩
    ·rw [← HQ.out.1]; unfold readQ; rw [if_pos h34]
    ·have := h34.length_le; simp at this; rw [← HQ.out.2, List.length_drop]; omega)
   clear h34
   go_wp2_with fail
   refine (need_yes b s0 [34] false _ (H.out.alloc _) HP.out).mono ?_
   rintro e w1 ⟨rfl, h1, g1⟩
   have H1 := Aside0.mk h1
   have HG1 := Aside0.mk ((World.grownBy_alloc w (.cells #[.pointer none, .slice none 0 0] 79) (some b)).trans g1)
   have HI1 := Aside0.mk (isb_grown (Lib.fresh_isBuilder 79 5 w) g1 hbw)
   clear h1 g1
   go_wp2
   go_step3
   simp only [Exit.then]
   rename_i K hK
   exact hK _ _ (PASS _ _ ⟨[], s0.drop 1, false, _, _, _, _, _, _, _, _, _, _, _, _, _, _, _, _, _, _, _, _, _, _, _, _, _, _, _, _, _, _, _, _, _, _, _, _, _, _, _, _, _, _, _, _, _, _, _, _, _, _, rfl, H1, HI1, HG1, ⟨fun _ => HR.out.1, fun e => (by cases e), by have := HR.out.2; simp only [List.length_nil]; omega⟩⟩)
  ·have HP := Aside0.mk h34
   have HR := Aside0.mk (show R0 = none by rw [← HQ.out.1]; unfold readQ; rw [if_neg h34])
   clear h34
   go_wp2_with fail
   refine (need_no b s0 [34] false _ (H.out.alloc _) HP.out).mono ?_
   rintro e w1 ⟨rfl, h1, g1⟩
   have H1 := Aside0.mk h1
   have HG1 := Aside0.mk ((World.grownBy_alloc w (.cells #[.pointer none, .slice none 0 0] 79) (some b)).trans g1)
   have HI1 := Aside0.mk (isb_grown (Lib.fresh_isBuilder 79 5 w) g1 hbw)
   clear h1 g1
   go_wp2
   go_step3
   simp only [Exit.then]
   rename_i K hK
   exact hK _ _ (PASS _ _ ⟨[], s0, true, _, _, _, _, _, _, _, _, _, _, _, _, _, _, _, _, _, _, _, _, _, _, _, _, _, _, _, _, _, _, _, _, _, _, _, _, _, _, _, _, _, _, _, _, _, _, _, _, _, _, rfl, H1, HI1, HG1, ⟨fun e => (by cases e), fun _ => HR.out, by have := HQ.out.2; simp only [List.length_nil]; omega⟩⟩)
end Go.Proofs.YtifejhbochkifaaGreatDoor.X
