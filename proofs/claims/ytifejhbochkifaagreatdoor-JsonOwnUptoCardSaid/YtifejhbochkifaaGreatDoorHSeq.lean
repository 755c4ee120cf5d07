/- A range over an iterator that reads memory between two rounds; slices.Values, AppendSeq, Collect at []string. -/
import Derived.RangeFuncNested
import Derived.RangeFuncBound
import Derived.RangeFuncCalls
import Derived.RangeFuncLeaves
import Derived.RangeFuncFrom
import Derived.RangeFuncBox
import Derived.Shelf.Abstract
import Derived.Shelf.RegionOpen
import Derived.WalkKit
import Derived.OwnWalkIn
import Derived.TacticsInMore
import Derived.LoopNIn
import Derived.LoopIn
import Derived.Test.YtifejhbochkifaaGreatDoorX0
import Derived.Test.YtifejhbochkifaaGreatDoorHSpec
import Derived.Test.YtifejhbochkifaaGreatDoorShelf
namespace Go.Proofs.YtifejhbochkifaaGreatDoor.X
open Go.RowKit Go.Shelf Go.Proofs.YtifejhbochkifaaGreatDoorW.PrintWords Go.Proofs.YtifejhbochkifaaGreatDoorW.PrintLast Go.Proofs.YtifejhbochkifaaGreatDoorW.PrintMore Go.Proofs.YtifejhbochkifaaGreatDoor.Spec
set_option linter.unusedVariables false
set_option linter.unusedSimpArgs false
attribute [local go_sem] Oper.semAt_some

section
variable {F : Fence} {n : Nat} {P : Program}
/-- What an iterator with a cell of its own promises: Ab, its own steps between two rounds; Kp, what a round that goes on keeps. -/
def SeqCell {α : Type} (F : Fence) (n : Nat) (P : Program) (g : Nat) (lb : Array Value) (encs : α → Array Value) (Kp Ab : World → World → Prop) (S Sp : List α → Prop) (V : List α → α → Prop) (ok : World → Prop) : Prop :=
  ∀ (l : Nat) (J Jx : List α → World → Prop) (W : World), ok W → (∀ s A B, J s A → Ab A B → J s B) →
    (∀ pre x W1, J pre W1 → V pre x → YieldAt F (n - 1) P l (encs x) W1 fun e W' =>
      (e = .returned (.bool true) ∧ J (pre ++ [x]) W' ∧ Kp W1 W') ∨ (e = .returned (.bool false) ∧ Jx (pre ++ [x]) W')) →
    J [] W →
    CallsIn F n P g (#[.func (.yield l) #[] #[]] ++ lb) W fun e W' => (∃ v, e = .returned v) ∧ ((∃ xs, S xs ∧ J xs W') ∨ (∃ pre, Sp pre ∧ Jx pre W'))

theorem wpIn_rangeFunc_cell {α : Type} {g : Operand} {ps : Array Tmp} {assign body : Code} {Q : Exit → Act → World → Prop} {a : Act} {w : World}
  (hro : F.round = none) (h1 : 1 ≤ n) {gf : Nat} {lb : Array Value} (hg : a.eval g = .func (.func gf) #[] lb) (hFg : F.fn gf) (eg : ∀ args w, (callFunc gf args).run P w = .ok (.enter gf args) w)
  {encs : α → Array Value} {Kp Ab : World → World → Prop} {S Sp : List α → Prop} {V : List α → α → Prop} {ok : World → Prop} (hseq : SeqCell F (n - 1) P gf lb encs Kp Ab S Sp V ok)
  (hok : ∀ W1, Below w.heap.size w W1 → ok W1)
  (hAb : ∀ A B, Ab A B → ∀ (l : Nat) (o : Obj), w.heap.size ≤ l → A.heap[l]? = some o → B.heap[l]? = some o)
  (hKt : ∀ {A B C : World}, Kp A B → Kp B C → Kp A C) (hKb : ∀ (W : World) (l : Nat) (o o' : Obj), w.heap.size ≤ l → W.heap[l]? = some o → o.isCells = false → o.isWalk = false → Kp W (W.putObj l o')) (hps : ∀ x, (encs x).size = ps.size)
  (I : List α → World → Prop) (Ix : Code → List α → World → Prop) (hI : OwnFrom w.heap.size I) (hIx : ∀ c, OwnFrom w.heap.size (Ix c)) (hIA : ∀ s A B, I s A → Ab A B → I s B) (h0 : I [] w) (a₁ : α → Act)
  (hassign : ∀ (l : Nat) (x : α) (W : World) (K : Act → World → Prop), K (a₁ x) W →
   assign.wpIn (F.inRound l) (n - 1 - 1) P (Exit.then K (fun _ _ _ => False)) { tmps := (ps.zip (encs x)).foldl (fun t (p, v) => t.setIfInBounds p v) a.tmps, defers := [] } W)
  (hbody : ∀ (l : Nat) (pre : List α) (x : α) (W : World), I pre W → V pre x → body.wpIn (F.inRound l) (n - 1 - 1) P (ownPostK Kp I Ix (pre ++ [x]) W) (a₁ x) W)
  (hdone : ∀ (D : Nat) (xs : List α) (W : World), w.heap.size ≤ D → S xs → I xs W → W.heap[D]? = some (.deferred (some [])) → Q .normal { a with defers := { target := .collected D, args := #[] } :: a.defers } W)
  (hstop : ∀ (D : Nat) (c : Code) (pre : List α) (W : World), w.heap.size ≤ D → Sp pre → Ix c pre W → W.heap[D]? = some (.deferred (some [])) → c.wpIn F n P Q { a with defers := { target := .collected D, args := #[] } :: a.defers } W) :
  (Code.rangeFunc g ps assign body).wpIn F n P Q a w := by
 refine wpIn_rangeFunc ?_
 intro fn hfn
 rw [hro]
 obtain ⟨rec, hrec⟩ : ∃ rec : LoopState → Option Code → Loop, rec = fun st pe => { state := st, pending := pe, fn, tmps := a.tmps, params := ps, assign, body, defers := w.heap.size } := ⟨_, rfl⟩
 obtain ⟨W1, hW1⟩ : ∃ W1, (w.alloc (.deferred (some []))).alloc (.loop (rec .ready none)) = W1 := ⟨_, rfl⟩
 have hL1 : W1.heap[w.heap.size + 1]? = some (.loop (rec .ready none)) := by
  rw [← hW1]; have := World.alloc_heap_new (w.alloc (.deferred (some []))) (.loop (rec .ready none)); rwa [World.size_alloc] at this
 have hK1 : W1.heap[w.heap.size]? = some (.deferred (some [])) := by
  rw [← hW1]; exact (Below.heap_alloc _ _ _ (by simp)).trans (World.alloc_heap_new w _)
 have hI1 : I [] W1 := by rw [← hW1]; exact hI.alloc _ (hI.alloc _ h0)
 have hb1 : Below w.heap.size w W1 := by
  rw [← hW1]; exact ((Below.refl _ w).alloc (Nat.le_refl _) _).alloc (by simp) _
 refine ⟨w.heap.size + 1, [{ target := .collected w.heap.size, args := #[] }], W1, { target := .fn (.func gf) lb, args := #[.func (.yield (w.heap.size + 1)) #[] #[]] }, W1, gf,
  #[.func (.yield (w.heap.size + 1)) #[] #[]] ++ lb, W1, ?_, ?_, ?_, ?_, fun _ => h1, ?_⟩
 ·rw [← hW1, hrec]; exact run_enterLoop_outer _ _ _ _ _
 ·simp only [resolve, hg]
  simp [go_sem]
 ·intro f' hf'; simp [Target.leads] at hf'; subst hf'; exact hFg
 ·simp [invoke, go_sem, eg]
 ·refine (hseq (w.heap.size + 1)
   (fun pre W => I pre W ∧ W.heap[w.heap.size + 1]? = some (.loop (rec .ready none)) ∧ W.heap[w.heap.size]? = some (.deferred (some [])))
   (fun pre W => ∃ c, Ix c pre W ∧ W.heap[w.heap.size + 1]? = some (.loop (rec .done (some c))) ∧ W.heap[w.heap.size]? = some (.deferred (some [])))
   W1 (hok W1 hb1)
   (fun s A B hs hab => ⟨hIA s A B hs.1 hab, hAb A B hab _ _ (by omega) hs.2.1, hAb A B hab _ _ (Nat.le_refl _) hs.2.2⟩)
   ?_ ⟨hI1, hL1, hK1⟩).mono ?_
  ·rintro pre x W ⟨hi, hl, hk⟩ hlen
   have hlt : w.heap.size + 1 < W.heap.size := (Array.getElem?_eq_some_iff.1 hl).1
   have hy := run_yield (P := P) (args := encs x) hl (by rw [hrec]; exact hps x)
   rw [hrec] at hy
   refine ⟨fn, _, assign, body, hy, roundIn_of_wpIn hfn (hassign _ x W _ ⟨_, run_beginRound hl (by rw [hrec]), ?_⟩)⟩
   have hl2 : (W.putObj (w.heap.size + 1) (.loop { rec .ready none with state := .busy })).heap[w.heap.size + 1]? = some (.loop { rec .ready none with state := .busy }) := World.putObj_heap_same hlt
   have hk2 : (W.putObj (w.heap.size + 1) (.loop { rec .ready none with state := .busy })).heap[w.heap.size]? = some (.deferred (some [])) := (World.putObj_heap_other (by omega)).trans hk
   have hw2 : Kp W (W.putObj (w.heap.size + 1) (.loop { rec .ready none with state := .busy })) := hKb _ _ _ _ (by omega) hl rfl rfl
   refine wpIn_mono (hbody _ pre x _ (hI.putObj _ hi (by omega) hl rfl) hlen) ?_
   have fin : ∀ (jump : Option Code) (W3 : World), KeepsOthers (W.putObj (w.heap.size + 1) (.loop { rec .ready none with state := .busy })) W3 →
     (Instr.endRound (w.heap.size + 1) jump).run P W3 = .ok (.bool jump.isNone) (W3.putObj (w.heap.size + 1) (.loop (rec (if jump.isNone then .ready else .done) jump))) ∧
     W3.heap[w.heap.size + 1]? = some (.loop { rec .ready none with state := .busy }) ∧
     (W3.putObj (w.heap.size + 1) (.loop (rec (if jump.isNone then .ready else .done) jump))).heap[w.heap.size + 1]? = some (.loop (rec (if jump.isNone then .ready else .done) jump)) ∧
     (W3.putObj (w.heap.size + 1) (.loop (rec (if jump.isNone then .ready else .done) jump))).heap[w.heap.size]? = some (.deferred (some [])) := fun jump W3 hk3 => by
    have hl3 := hk3.same _ _ hl2 rfl
    have := run_endRound (P := P) jump hl3
    rw [hrec] at this ⊢
    exact ⟨this, by rw [hrec] at hl3; exact hl3, World.putObj_heap_same (Array.getElem?_eq_some_iff.1 hl3).1, (World.putObj_heap_other (by omega)).trans (hk3.same _ _ hk2 rfl)⟩
   rintro e a3 W3 hp
   cases e with
   | normal =>
    obtain ⟨hk3, hkp3, hi3⟩ := hp
    obtain ⟨hr, hl3, hl4, hk4⟩ := fin none W3 hk3
    exact ⟨_, _, hr, .inl ⟨rfl, ⟨hI.putObj _ hi3 (by omega) hl3 rfl, hl4, hk4⟩, hKt (hKt hw2 hkp3) (hKb _ _ _ _ (by omega) hl3 rfl rfl)⟩⟩
   | ret =>
    obtain ⟨hk3, hi3⟩ := hp
    obtain ⟨hr, hl3, hl4, hk4⟩ := fin (some .ret) W3 hk3
    exact ⟨_, _, hr, .inr ⟨rfl, .ret, (hIx _).putObj _ hi3 (by omega) hl3 rfl, hl4, hk4⟩⟩
   | exit id =>
    obtain ⟨hk3, hi3⟩ := hp
    obtain ⟨hr, hl3, hl4, hk4⟩ := fin (some (.exit id)) W3 hk3
    exact ⟨_, _, hr, .inr ⟨rfl, .exit id, (hIx _).putObj _ hi3 (by omega) hl3 rfl, hl4, hk4⟩⟩
   | goto t =>
    obtain ⟨hk3, hi3⟩ := hp
    obtain ⟨hr, hl3, hl4, hk4⟩ := fin (some (.goto t)) W3 hk3
    exact ⟨_, _, hr, .inr ⟨rfl, .goto t, (hIx _).putObj _ hi3 (by omega) hl3 rfl, hl4, hk4⟩⟩
   | panic ch => exact hp.elim
   | outgrown => exact hp.elim
  ·rintro e W2 ⟨⟨v, rfl⟩, (⟨xs, hS, hi, hl, hk⟩ | ⟨pre, hSp, c, hi, hl, hk⟩)⟩
   ·exact ⟨none, _, by have := run_endLoop (P := P) hl (by rw [hrec]; simp); rw [hrec] at this; exact this, hdone _ xs _ (Nat.le_refl _) hS (hI.putObj _ hi (by omega) hl rfl) ((World.putObj_heap_other (by omega)).trans hk)⟩
   ·exact ⟨some c, _, by have := run_endLoop (P := P) hl (by rw [hrec]; simp); rw [hrec] at this; exact this, hstop _ c pre _ (Nat.le_refl _) hSp ((hIx c).putObj _ hi (by omega) hl rfl) ((World.putObj_heap_other (by omega)).trans hk)⟩
end

/-! ### slices.Values at []string -/
theorem cell_of_block {W : World} {b : Nat} {v : Value} {t : TypeId} (h : W.heap[b]? = some (.cells #[v] t (0, 0))) : W.cell? ⟨b, 0, none⟩ = some v := by simp [World.cell?, h]
theorem free_of_block {W : World} {b : Nat} {v : Value} {t : TypeId} (h : W.heap[b]? = some (.cells #[v] t (0, 0))) : W.frozen? ⟨b, 0, none⟩ = false := Lib.frozen_of_heap h 0
theorem set_block {W : World} {b : Nat} {v u : Value} {t : TypeId} (h : W.heap[b]? = some (.cells #[v] t (0, 0))) : (W.setCell ⟨b, 0, none⟩ u).heap[b]? = some (.cells #[u] t (0, 0)) := by
 simp [World.setCell, Array.getElem?_modify, h]
theorem set_other {W : World} {b k : Nat} {u : Value} (h : k ≠ b) : (W.setCell ⟨b, 0, none⟩ u).heap[k]? = W.heap[k]? := by
 simp [World.setCell, Array.getElem?_modify, Ne.symm h]
theorem grown_store (W : World) (b : Nat) (v : Value) : W.grownBy (W.setCell ⟨b, 0, none⟩ v) (some b) :=
 ⟨rfl, rfl, rfl, by simp [World.setCell], fun k _ hk => set_other (fun e => hk (by rw [e]))⟩
theorem cell_same {W w : World} {a : Addr} (h : W.heap[a.block]? = w.heap[a.block]?) : W.cell? a = w.cell? a := by
 unfold World.cell?
 rw [h]
def SmK (D : Nat) (A B : World) : Prop := ∀ k, k < D → B.heap[k]? = A.heap[k]?
set_option maxHeartbeats 4000000 in
set_option maxRecDepth 100000 in
theorem values_cell (n : Nat) (hn : 1 ≤ n) (w : World) (bx : Nat) (A0 : Option Addr) (l : List ByteArray) (c : Nat) (hbx : w.heap[bx]? = some (.cells #[.slice A0 l.length c] 23 (0, 0))) (hC : Kd.C Kd.string w A0 l.length l) :
  SeqCell Fence.wide n Tryz.prog 87 #[.pointer (some ⟨bx, 0, none⟩)] (fun s : ByteArray => #[.string s]) (SmK w.heap.size) (fun A B => B = A) (fun xs => xs = l) (fun pr => pr <+: l) (fun pr x => pr ++ [x] <+: l) (SmK w.heap.size w) := by
 intro lp J Jx W hW hJA hY h0
 have hbl : bx < w.heap.size := (Array.getElem?_eq_some_iff.1 hbx).1
 have HW := Aside0.mk hW
 have HY := Aside0.mk hY
 have H0 := Aside0.mk h0
 have HC := Aside0.mk hC
 have c1 := cell_of_block ((hW bx hbl).trans hbx)
 have hmax := hC.2.1
 clear hW hJA hY h0 hC
 refine callsIn_of_wp Tryz.func87 rfl trivial ?_ rfl
 simp only [Tryz.ntmps87, List.size_toArray, List.length_cons, List.length_nil, Nat.reduceAdd, Nat.reduceSub, Array.replicate_succ, Array.replicate_zero, List.push_toArray, List.append_toArray, List.nil_append, List.cons_append]
 gi_wp2
 gi_loopw [7] (fun i wr => ∃ k : Nat, k ≤ l.length ∧ i = .int .i64 k ∧ Aside0 (SmK w.heap.size w wr) ∧ Aside0 (J (l.take k) wr)) (fun i _ => l.length - (match i with | .int _ q => q.toNat | _ => 0))
 case atStart => exact ⟨0, Nat.zero_le _, rfl, HW, H0⟩
 case round =>
  obtain ⟨k, hk, rfl, HS, HJ⟩ := hrel
  by_cases hlt : k < l.length
  ·have p0 : (0 : Int) ≤ (k : Int) := by omega
   have q0 : (k : Int) < (l.length : Int) := by omega
   obtain ⟨ad, rfl, hx0⟩ := Kd.at_string HC.out (k : Int) p0 q0
   have hrd : rdOf ByteArray.empty l (k : Int) = l[k]'hlt := by simp [rdOf, List.getD_eq_getElem?_getD, List.getElem?_eq_getElem hlt]
   rw [hrd] at hx0
   simp only [Int.toNat_natCast] at hx0
   have hx1 : wr.cell? (ad.add k) = some (.string (l[k]'hlt)) := (cell_same (HS.out _ (World.block_lt_of_cell? w _ hx0))).trans hx0
   have hpre : l.take k ++ [l[k]'hlt] <+: l := by
    rw [← List.take_succ_eq_append_getElem hlt]; exact List.take_prefix _ _
   have HT := Aside0.mk (show l.take k ++ [l[k]'hlt] = l.take (k + 1) from (List.take_succ_eq_append_getElem hlt).symm)
   obtain ⟨fn, tmps, assign, body, hy, hR⟩ := HY.out (l.take k) (l[k]'hlt) wr HJ.out hpre
   have HR := Aside0.mk hR
   clear hR hx0 hrd
   gi_wp2
   refine HR.out.mono ?_
   rintro e W2 (⟨rfl, hJ2, hk2⟩ | ⟨rfl, hx2⟩)
   ·rw [HT.out] at hJ2
    have HJ2 := Aside0.mk hJ2
    have HS2 := Aside0.mk (show SmK w.heap.size w W2 from fun j hj => (hk2 j hj).trans (HS.out j hj))
    clear hJ2 hk2 hx1
    gi_wp2
    go_roundw
    case rel => exact ⟨k + 1, by omega, by go_num, HS2, HJ2⟩
    case measure => simp; omega
   ·clear hx1
    gi_wp2
    refine bodyPost_ret (results_none rfl _ _ _) rfl ?_
    exact ⟨⟨_, rfl⟩, .inr ⟨_, hpre, hx2⟩⟩
  ·have hke : l.take k = l := List.take_of_length_le (by omega)
   rw [hke] at HJ
   clear hke
   gi_wp2
   go_end0
   exact ⟨⟨_, rfl⟩, .inl ⟨l, rfl, HJ.out⟩⟩
/-- between two rounds: what has been gathered -/
def SqI (w : World) (pr : List ByteArray) (W : World) : Prop :=
  ∃ v : Value, W.heap[w.heap.size]? = some (.cells #[v] 23 (0, 0)) ∧ W.ownsRow (w.heap.size + 1) 9 1 v pr.length (pr.map Value.string) ∧ w.heap.size + 1 ≤ W.heap.size ∧ Below w.heap.size w W
theorem grown_cells {A B : World} {row : Option Nat} {k n : Nat} {v : Value} {t : TypeId} (hg : A.grownBy B row) (hr : ∀ r, row = some r → n ≤ r) (hk : k < n) (hkA : A.heap[k]? = some (.cells #[v] t (0, 0))) : B.heap[k]? = some (.cells #[v] t (0, 0)) :=
 (hg.block k (Array.getElem?_eq_some_iff.1 hkA).1 (fun e => by have := hr k e.symm; omega)).trans hkA
theorem SqI.own (w : World) (W0 : Nat) (h6 : w.heap.size + 1 ≤ W0) : OwnFrom W0 (SqI w) := by
 rintro s A B row ⟨v, c0, hR, hS, hB⟩ hg hr
 have hr' : ∀ r, row = some r → w.heap.size + 1 ≤ r := fun r e => by have := (hr r e).1; omega
 refine ⟨v, grown_cells hg hr' (by omega) c0, ?_, Nat.le_trans hS hg.size, hB.grown hg hB.size (fun k e => by have := hr' k e; omega)⟩
 refine hR.kept hg ?_
 cases hv : v.ownBlock with
 | none => exact .inl rfl
 | some k =>
  refine .inr (fun e => ?_)
  have hk := own_typed hR k hv
  obtain ⟨cells, hc⟩ := hk
  obtain ⟨_, o, ho, hoc⟩ := hr k e.symm
  rw [hc] at ho
  obtain rfl := Option.some.inj ho
  cases hoc
theorem sq_end (w W : World) (D : Nat) (tmps : Array Value) (v : Value) (l : List ByteArray) (t4 : tmps.getD 4 undef = v) (hD : w.heap.size + 1 ≤ D)
  (hK : W.heap[D]? = some (.deferred (some []))) (hR : W.ownsRow (w.heap.size + 1) 9 1 v l.length (l.map Value.string)) (hB : Below w.heap.size w W) :
  bodyPostM Fence.wide 6 Tryz.prog Tryz.f103 (fun e w' => ∃ v : Value, e = .returned v ∧ w'.ownsRow w.heap.size 9 1 v l.length (l.map Value.string) ∧ Below w.heap.size w w')
   .ret { tmps := tmps, defers := [{ target := .collected D, args := #[] }] } W := by
 refine ⟨by simp, .inl ⟨_, _, rfl, run_takeDeferred hK, ?_⟩⟩
 refine ⟨v, ?_, v, rfl, ?_, hB.trans (belowK_b (w := w) (Nat.le_refl _) W D _ _ (by omega) hK rfl rfl)⟩
 ·have t4' : tmps[4]?.getD undef = v := by simpa using t4
  simp [results, Tryz.f103, go_sem, t4']
 ·refine own_weaken (hR.kept (grownBy_putObj' W D _) ?_) (Nat.le_succ _)
  cases hv : v.ownBlock with
  | none => exact .inl rfl
  | some k =>
   refine .inr (fun e => ?_)
   obtain ⟨cells, hc⟩ := own_typed hR k hv
   injection e with e
   rw [e, hK] at hc
   cases hc
set_option maxHeartbeats 4000000 in
set_option maxRecDepth 100000 in
theorem appendSeq_calls (w : World) (bx : Nat) (A0 : Option Addr) (l : List ByteArray) (c : Nat) (hl : l.length ≤ 1000000) (hbx : w.heap[bx]? = some (.cells #[.slice A0 l.length c] 23 (0, 0))) (hC : Kd.C Kd.string w A0 l.length l) :
  Calls Tryz.prog 103 #[.slice none 0 0, .func (.func 87) #[] #[.pointer (some ⟨bx, 0, none⟩)]] w fun e w' => ∃ v : Value, e = .returned v ∧ w'.ownsRow w.heap.size 9 1 v l.length (l.map Value.string) ∧ Below w.heap.size w w' := by
 have hbl : bx < w.heap.size := (Array.getElem?_eq_some_iff.1 hbx).1
 refine (callsIn_wide (n := 6)).1 ?_
 refine callsIn_of_wp_marks Tryz.func103 rfl trivial ?_ rfl
 simp only [Tryz.ntmps103, List.size_toArray, List.length_cons, List.length_nil, Nat.reduceAdd, Nat.reduceSub, Array.replicate_succ, Array.replicate_zero, List.push_toArray, List.append_toArray, List.nil_append, List.cons_append]
 have hVC := values_cell (6 - 1) (by omega) w bx A0 l c hbx hC
 have g0 : (w.alloc (.cells #[.slice none 0 0] 23)).heap[w.heap.size]? = some (.cells #[.slice none 0 0] 23 (0, 0)) := heap_alloc_new w _
 have hB0 : Below w.heap.size w (w.alloc (.cells #[.slice none 0 0] 23)) := (Below.refl _ w).alloc (Nat.le_refl _) _
 have hsz : (w.alloc (.cells #[.slice none 0 0] 23)).heap.size = w.heap.size + 1 := by simp
 obtain ⟨W0, hW0⟩ : ∃ W0, w.alloc (.cells #[.slice none 0 0] 23) = W0 := ⟨_, rfl⟩
 rw [hW0] at g0 hB0 hsz
 have HW0 := Aside0.mk hW0
 clear hbx hC hW0
 gi_wp2
 rw [HW0.out]
 refine wpIn_rangeFunc_cell (α := ByteArray) (F := Fence.wide) rfl (by omega) (gf := 87) (lb := #[.pointer (some ⟨bx, 0, none⟩)]) rfl trivial (enters_of Tryz.func87 (by kernel_rfl) rfl)
  hVC
  (fun W1 hb => fun k hk => (hb.block k (by omega)).trans (hB0.block k hk))
  (fun A B hab l o hl ho => by rw [hab]; exact ho)
  (fun h k j hj => (k j hj).trans (h j hj))
  (fun W l o o' hl ho _ _ j hj => World.putObj_heap_other (by omega))
  (fun _ => rfl)
  (SqI w) (fun _ _ _ => False) (SqI.own w _ (by omega)) (fun c s A B row h hg hr => h) (fun s A B h hab => by rw [hab]; exact h)
  ⟨.slice none 0 0, g0, own_nil _ _ _ _, by omega, hB0⟩
  (fun x => { tmps := #[.slice none 0 0, .func (.func 87) #[] #[.pointer (some ⟨bx, 0, none⟩)], .pointer (some ⟨w.heap.size, 0, none⟩), undef, .slice none 0 0, .string x, .func (.func 87) #[] #[.pointer (some ⟨bx, 0, none⟩)], .string x, undef, undef, undef, undef, undef], defers := [] })
  ?assign ?body ?done ?stop
 case assign =>
  intro l x W K hK
  gi_wp2
  exact hK
 case stop =>
  intro D c pre W _ _ h
  exact h.elim
 case body =>
  rintro lp pr x W ⟨v, c0, hR, hS, hB⟩ hV
  have hlen : pr.length + 1 ≤ l.length := by have := hV.length_le; simpa using this
  obtain ⟨i0, hi, hzz⟩ := Option.map_eq_some_iff.1 info9
  simp only [Prod.mk.injEq] at hzz
  obtain ⟨hz0, hz1, hz2⟩ := hzz
  have HI0 := Aside0.mk hi
  have HZ0 := Aside0.mk hz0
  have HZ1 := Aside0.mk hz1
  have HZ2 := Aside0.mk hz2
  have HR := Aside0.mk hR
  have HB := Aside0.mk hB
  have C0 := Aside0.mk c0
  have k0 := cell_of_block c0
  clear hi hz0 hz1 hz2 hR hB c0 hV g0 hB0
  gi_wp2_with (gi_at_builtin; refine wpListIn_append_own _ rfl _ _ 23 rfl (w.heap.size + 1) 9 i0 _ 1 16 Tryz.underlying23 HI0.out HZ0.out HZ1.out HZ2.out rfl (by decide) v pr.length (pr.map Value.string) rfl (HR.out.alloc _) ⟨W.heap.size, 0, none⟩ 1 1 [.string x] rfl rfl ?c1 ?c2 ?c3 ?c4 ?c5 ?_)
  case c1 => exact World.news_of_block (cs := #[.string x]) (t := 9) (fr := (0, 0)) (heap_alloc_new W (.cells #[.string x] 9))
  case c2 => intro u hu; simp at hu; subst hu; rfl
  case c3 => unfold maxLen; omega
  case c4 => omega
  case c5 => simp; omega
  intro v' w4 hown' hgrow _
  obtain ⟨g, cap, hv'⟩ : ∃ g cap, v' = .slice (some ⟨g, 0, none⟩) (pr.length + 1) cap := by
   rcases hown'.2 with ⟨_, h0⟩ | ⟨g, cap, cur, hv, _⟩
   ·omega
   ·exact ⟨g, cap, hv⟩
  have hgr : ∀ r, v.ownBlock = some r → w.heap.size + 1 ≤ r := fun r e => own_base HR.out r e
  have hga : W.grownBy w4 v.ownBlock := World.grownBy.trans (World.grownBy_alloc _ _ _) hgrow
  have e0 := grown_cells (n := w.heap.size + 1) hga hgr (by omega) C0.out
  have hko : KeepsOthers W w4 := KeepsOthers.of_grownBy hga (fun j o e ho => by
   obtain ⟨cells, hc⟩ := own_typed HR.out j e
   rw [hc] at ho
   obtain rfl := Option.some.inj ho
   rfl)
  have hkp : SmK w.heap.size W w4 := fun j hj => hga.block _ (by omega) (fun e => by have := hgr _ e.symm; omega)
  have hB4 : Below w.heap.size w w4 := HB.out.grown hga (by omega) (fun k e => by have := hgr k e; omega)
  have hs4 : w.heap.size + 1 ≤ w4.heap.size := by have := hga.size; omega
  have E0 := Aside0.mk e0
  have KO := Aside0.mk hko
  have KP := Aside0.mk hkp
  have B4 := Aside0.mk hB4
  have O4 := Aside0.mk hown'
  have m2 := cell_of_block e0
  have f2 := free_of_block e0
  have HV := Aside0.mk hv'
  rw [hv']
  clear e0 hko hkp hB4 hown' hgrow hga hgr hv' k0
  gi_wp2
  have O5 := O4.out
  rw [HV.out] at O5
  refine ⟨KO.out.trans (KeepsOthers.setCell _ _ _), fun j hj => (set_other (by omega)).trans (KP.out j hj), _, set_block E0.out, ?_, by simpa [World.setCell] using hs4, B4.out.setCell (p := ⟨w.heap.size, 0, none⟩) (Nat.le_refl _) _⟩
  rw [List.map_append, List.length_append]
  refine O5.kept (grown_store w4 w.heap.size _) (.inr (fun e => ?_))
  have := own_base O5 _ e
  omega
 case done =>
  rintro D xs W hD rfl ⟨v, c0, hR, hS, hB⟩ hK
  have HR := Aside0.mk hR
  have HB := Aside0.mk hB
  have HK := Aside0.mk hK
  have k0 := cell_of_block c0
  clear hR hB hK c0 g0 hB0
  gi_wp2
  exact sq_end w W D _ v xs rfl (by omega) HK.out HR.out HB.out
set_option maxHeartbeats 2000000 in
theorem collect_calls (w : World) (bx : Nat) (A0 : Option Addr) (l : List ByteArray) (c : Nat) (hl : l.length ≤ 1000000) (hbx : w.heap[bx]? = some (.cells #[.slice A0 l.length c] 23 (0, 0))) (hC : Kd.C Kd.string w A0 l.length l) :
  Calls Tryz.prog 85 #[.func (.func 87) #[] #[.pointer (some ⟨bx, 0, none⟩)]] w fun e w' => ∃ v : Value, e = .returned v ∧ w'.ownsRow w.heap.size 9 1 v l.length (l.map Value.string) ∧ Below w.heap.size w w' := by
 have HA := Aside0.mk (appendSeq_calls w bx A0 l c hl hbx hC)
 clear hbx hC
 go_enter Tryz.func85, Tryz.ntmps85
 go_wp2_with fail
 refine HA.out.mono ?_
 rintro e w' ⟨v, rfl, ho, hb⟩
 have HO := Aside0.mk ho
 have HB := Aside0.mk hb
 clear ho hb
 go_wp2
 go_ret
 exact ⟨v, rfl, HO.out, HB.out⟩
end Go.Proofs.YtifejhbochkifaaGreatDoor.X
