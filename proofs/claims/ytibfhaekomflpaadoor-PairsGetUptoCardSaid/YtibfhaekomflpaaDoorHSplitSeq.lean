/- strings.SplitSeq at a separator of one byte: its iterator keeps what is left in a cell of its own; and a law for a range over it. -/
import Derived.RangeFuncNested
import Derived.RangeFuncBound
import Derived.RangeFuncCalls
import Derived.RangeFuncLeaves
import Derived.RangeFuncFrom
import Derived.Shelf.Abstract
import Derived.Shelf.RegionOpen
import Derived.WalkKit
import Derived.OwnWalkIn
import Derived.TacticsInMore
import Derived.LoopNIn
import Derived.LoopIn
import Derived.Test.YtibfhaekomflpaaDoorHLib
namespace Go.Proofs.YtibfhaekomflpaaDoor.X
open Go.RowKit Go.Shelf Go.Proofs.YtibfhaekomflpaaDoorW.PrintWords Go.Proofs.YtibfhaekomflpaaDoorW.PrintLast Go.Proofs.YtibfhaekomflpaaDoorW.PrintMore Go.Proofs.YtibfhaekomflpaaDoor.Spec
set_option linter.unusedVariables false
set_option linter.unusedSimpArgs false
attribute [local go_sem] Oper.semAt_some

section
variable {F : Fence} {n : Nat} {P : Program}
/-- What an iterator with a cell of its own promises: Ab, its own steps between two rounds; Kp, what a round that goes on keeps. -/
def SeqCell {α : Type} (F : Fence) (n : Nat) (P : Program) (g : Nat) (lb : Array Value) (encs : α → Array Value) (Kp Ab : World → World → Prop) (S Sp : List α → Prop) (V : List α → α → Prop) (ok : World → Prop) : Prop :=
  ∀ (l : Nat) (J Jx : List α → World → Prop) (W : World), ok W → (∀ s A B, J s A → Ab A B → J s B) →
    (∀ pre x W1, J pre W1 → V pre x → YieldAt F (n - 1) P l (encs x) W1 fun e W' =>
      (e = .returned (.bool true) ∧ J (pre ++ [x]) W' ∧ Kp W1 W') ∨ (e = .returned (.bool false) ∧ Jx (pre ++ [x]) W')) →
    J [] W →
    CallsIn F n P g (#[.func (.yield l) #[] #[]] ++ lb) W fun e W' => (∃ v, e = .returned v) ∧ ((∃ xs, S xs ∧ J xs W') ∨ (∃ pre, Sp pre ∧ Jx pre W'))

theorem wpIn_rangeFunc_cell {α : Type} {g : Operand} {ps : Array Tmp} {assign body : Code} {Q : Exit → Act → World → Prop} {a : Act} {w : World}
    (hro : F.round = none) (h1 : 1 ≤ n) {gf : Nat} {lb : Array Value} (hg : a.eval g = .func (.func gf) #[] lb) (hFg : F.fn gf) (eg : ∀ args w, (callFunc gf args).run P w = .ok (.enter gf args) w)
    {encs : α → Array Value} {Kp Ab : World → World → Prop} {S Sp : List α → Prop} {V : List α → α → Prop} {ok : World → Prop} (hseq : SeqCell F (n - 1) P gf lb encs Kp Ab S Sp V ok)
    (hok : ∀ W1, Below w.heap.size w W1 → ok W1)
    (hAb : ∀ A B, Ab A B → ∀ (l : Nat) (o : Obj), w.heap.size ≤ l → A.heap[l]? = some o → B.heap[l]? = some o)
    (hKt : ∀ {A B C : World}, Kp A B → Kp B C → Kp A C) (hKb : ∀ (W : World) (l : Nat) (o o' : Obj), w.heap.size ≤ l → W.heap[l]? = some o → o.isCells = false → o.isWalk = false → Kp W (W.putObj l o')) (hps : ∀ x, (encs x).size = ps.size)
    (I : List α → World → Prop) (Ix : Code → List α → World → Prop) (hI : OwnFrom w.heap.size I) (hIx : ∀ c, OwnFrom w.heap.size (Ix c)) (hIA : ∀ s A B, I s A → Ab A B → I s B) (h0 : I [] w) (a₁ : α → Act)
    (hassign : ∀ (l : Nat) (x : α) (W : World) (K : Act → World → Prop), K (a₁ x) W →
      assign.wpIn (F.inRound l) (n - 1 - 1) P (Exit.then K (fun _ _ _ => False)) { tmps := (ps.zip (encs x)).foldl (fun t (p, v) => t.setIfInBounds p v) a.tmps, defers := [] } W)
    (hbody : ∀ (l : Nat) (pre : List α) (x : α) (W : World), I pre W → V pre x → body.wpIn (F.inRound l) (n - 1 - 1) P (ownPostK Kp I Ix (pre ++ [x]) W) (a₁ x) W)
    (hdone : ∀ (D : Nat) (xs : List α) (W : World), w.heap.size ≤ D → S xs → I xs W → W.heap[D]? = some (.deferred (some [])) → Q .normal { a with defers := { target := .collected D, args := #[] } :: a.defers } W)
    (hstop : ∀ (D : Nat) (c : Code) (pre : List α) (W : World), w.heap.size ≤ D → Sp pre → Ix c pre W → W.heap[D]? = some (.deferred (some [])) → c.wpIn F n P Q { a with defers := { target := .collected D, args := #[] } :: a.defers } W) :
    (Code.rangeFunc g ps assign body).wpIn F n P Q a w := by
  refine wpIn_rangeFunc ?_
  intro fn hfn
  rw [hro]
  obtain ⟨rec, hrec⟩ : ∃ rec : LoopState → Option Code → Loop, rec = fun st pe => { state := st, pending := pe, fn, tmps := a.tmps, params := ps, assign, body, defers := w.heap.size } := ⟨_, rfl⟩
  obtain ⟨W1, hW1⟩ : ∃ W1, (w.alloc (.deferred (some []))).alloc (.loop (rec .ready none)) = W1 := ⟨_, rfl⟩
  have hL1 : W1.heap[w.heap.size + 1]? = some (.loop (rec .ready none)) := by
    rw [← hW1]; have := World.alloc_heap_new (w.alloc (.deferred (some []))) (.loop (rec .ready none)); rwa [World.size_alloc] at this
  have hK1 : W1.heap[w.heap.size]? = some (.deferred (some [])) := by
    rw [← hW1]; exact (Below.heap_alloc _ _ _ (by simp)).trans (World.alloc_heap_new w _)
  have hI1 : I [] W1 := by rw [← hW1]; exact hI.alloc _ (hI.alloc _ h0)
  have hb1 : Below w.heap.size w W1 := by
    rw [← hW1]; exact ((Below.refl _ w).alloc (Nat.le_refl _) _).alloc (by simp) _
  refine ⟨w.heap.size + 1, [{ target := .collected w.heap.size, args := #[] }], W1, { target := .fn (.func gf) lb, args := #[.func (.yield (w.heap.size + 1)) #[] #[]] }, W1, gf,
    #[.func (.yield (w.heap.size + 1)) #[] #[]] ++ lb, W1, ?_, ?_, ?_, ?_, fun _ => h1, ?_⟩
  · rw [← hW1, hrec]; exact run_enterLoop_outer _ _ _ _ _
  · simp only [resolve, hg]
    simp [go_sem]
  · intro f' hf'; simp [Target.leads] at hf'; subst hf'; exact hFg
  · simp [invoke, go_sem, eg]
  · refine (hseq (w.heap.size + 1)
      (fun pre W => I pre W ∧ W.heap[w.heap.size + 1]? = some (.loop (rec .ready none)) ∧ W.heap[w.heap.size]? = some (.deferred (some [])))
      (fun pre W => ∃ c, Ix c pre W ∧ W.heap[w.heap.size + 1]? = some (.loop (rec .done (some c))) ∧ W.heap[w.heap.size]? = some (.deferred (some [])))
      W1 (hok W1 hb1)
      (fun s A B hs hab => ⟨hIA s A B hs.1 hab, hAb A B hab _ _ (by omega) hs.2.1, hAb A B hab _ _ (Nat.le_refl _) hs.2.2⟩)
      ?_ ⟨hI1, hL1, hK1⟩).mono ?_
    · rintro pre x W ⟨hi, hl, hk⟩ hlen
      have hlt : w.heap.size + 1 < W.heap.size := (Array.getElem?_eq_some_iff.1 hl).1
      have hy := run_yield (P := P) (args := encs x) hl (by rw [hrec]; exact hps x)
      rw [hrec] at hy
      refine ⟨fn, _, assign, body, hy, roundIn_of_wpIn hfn (hassign _ x W _ ⟨_, run_beginRound hl (by rw [hrec]), ?_⟩)⟩
      have hl2 : (W.putObj (w.heap.size + 1) (.loop { rec .ready none with state := .busy })).heap[w.heap.size + 1]? = some (.loop { rec .ready none with state := .busy }) := World.putObj_heap_same hlt
      have hk2 : (W.putObj (w.heap.size + 1) (.loop { rec .ready none with state := .busy })).heap[w.heap.size]? = some (.deferred (some [])) := (World.putObj_heap_other (by omega)).trans hk
      have hw2 : Kp W (W.putObj (w.heap.size + 1) (.loop { rec .ready none with state := .busy })) := hKb _ _ _ _ (by omega) hl rfl rfl
      refine wpIn_mono (hbody _ pre x _ (hI.putObj _ hi (by omega) hl rfl) hlen) ?_
      have fin : ∀ (jump : Option Code) (W3 : World), KeepsOthers (W.putObj (w.heap.size + 1) (.loop { rec .ready none with state := .busy })) W3 →
          (Instr.endRound (w.heap.size + 1) jump).run P W3 = .ok (.bool jump.isNone) (W3.putObj (w.heap.size + 1) (.loop (rec (if jump.isNone then .ready else .done) jump))) ∧
          W3.heap[w.heap.size + 1]? = some (.loop { rec .ready none with state := .busy }) ∧
          (W3.putObj (w.heap.size + 1) (.loop (rec (if jump.isNone then .ready else .done) jump))).heap[w.heap.size + 1]? = some (.loop (rec (if jump.isNone then .ready else .done) jump)) ∧
          (W3.putObj (w.heap.size + 1) (.loop (rec (if jump.isNone then .ready else .done) jump))).heap[w.heap.size]? = some (.deferred (some [])) := fun jump W3 hk3 => by
        have hl3 := hk3.same _ _ hl2 rfl
        have := run_endRound (P := P) jump hl3
        rw [hrec] at this ⊢
        exact ⟨this, by rw [hrec] at hl3; exact hl3, World.putObj_heap_same (Array.getElem?_eq_some_iff.1 hl3).1, (World.putObj_heap_other (by omega)).trans (hk3.same _ _ hk2 rfl)⟩
      rintro e a3 W3 hp
      cases e with
      | normal =>
        obtain ⟨hk3, hkp3, hi3⟩ := hp
        obtain ⟨hr, hl3, hl4, hk4⟩ := fin none W3 hk3
        exact ⟨_, _, hr, .inl ⟨rfl, ⟨hI.putObj _ hi3 (by omega) hl3 rfl, hl4, hk4⟩, hKt (hKt hw2 hkp3) (hKb _ _ _ _ (by omega) hl3 rfl rfl)⟩⟩
      | ret =>
        obtain ⟨hk3, hi3⟩ := hp
        obtain ⟨hr, hl3, hl4, hk4⟩ := fin (some .ret) W3 hk3
        exact ⟨_, _, hr, .inr ⟨rfl, .ret, (hIx _).putObj _ hi3 (by omega) hl3 rfl, hl4, hk4⟩⟩
      | exit id =>
        obtain ⟨hk3, hi3⟩ := hp
        obtain ⟨hr, hl3, hl4, hk4⟩ := fin (some (.exit id)) W3 hk3
        exact ⟨_, _, hr, .inr ⟨rfl, .exit id, (hIx _).putObj _ hi3 (by omega) hl3 rfl, hl4, hk4⟩⟩
      | goto t =>
        obtain ⟨hk3, hi3⟩ := hp
        obtain ⟨hr, hl3, hl4, hk4⟩ := fin (some (.goto t)) W3 hk3
        exact ⟨_, _, hr, .inr ⟨rfl, .goto t, (hIx _).putObj _ hi3 (by omega) hl3 rfl, hl4, hk4⟩⟩
      | panic ch => exact hp.elim
      | outgrown => exact hp.elim
    · rintro e W2 ⟨⟨v, rfl⟩, (⟨xs, hS, hi, hl, hk⟩ | ⟨pre, hSp, c, hi, hl, hk⟩)⟩
      · exact ⟨none, _, by have := run_endLoop (P := P) hl (by rw [hrec]; simp); rw [hrec] at this; exact this, hdone _ xs _ (Nat.le_refl _) hS (hI.putObj _ hi (by omega) hl rfl) ((World.putObj_heap_other (by omega)).trans hk)⟩
      · exact ⟨some c, _, by have := run_endLoop (P := P) hl (by rw [hrec]; simp); rw [hrec] at this; exact this, hstop _ c pre _ (Nat.le_refl _) hSp ((hIx c).putObj _ hi (by omega) hl rfl) ((World.putObj_heap_other (by omega)).trans hk)⟩
end

/-! ### the iterator of SplitSeq -/
/-- the three cells of an iterator: what is left, the separator, nought -/
def SpOk (b : Nat) (s : ByteArray) (c : UInt8) (W : World) : Prop :=
  W.heap[b]? = some (.cells #[.string s] 9 (0, 0)) ∧ W.heap[b + 1]? = some (.cells #[.string ⟨#[c]⟩] 9 (0, 0)) ∧ W.heap[b + 2]? = some (.cells #[.int .i64 0] 3 (0, 0))
def SpKp (b : Nat) (W W' : World) : Prop := ∀ j, j < 3 → W'.heap[b + j]? = W.heap[b + j]?
def SpAb (b : Nat) (A B : World) : Prop := ∃ row : Option Nat, A.grownBy B row ∧ (row = none ∨ row = some b)
def SpLeft (b : Nat) (W : World) : Nat := match W.cell? ⟨b, 0, none⟩ with | some (.string s) => s.size | _ => 0
theorem SpOk.keep {b : Nat} {s : ByteArray} {c : UInt8} {W W' : World} (h : SpOk b s c W) (hk : SpKp b W W') : SpOk b s c W' :=
  ⟨(hk 0 (by omega)).trans h.1, (hk 1 (by omega)).trans h.2.1, (hk 2 (by omega)).trans h.2.2⟩
theorem cell_of_block {W : World} {b : Nat} {v : Value} {t : TypeId} (h : W.heap[b]? = some (.cells #[v] t (0, 0))) : W.cell? ⟨b, 0, none⟩ = some v := by simp [World.cell?, h]
theorem free_of_block {W : World} {b : Nat} {v : Value} {t : TypeId} (h : W.heap[b]? = some (.cells #[v] t (0, 0))) : W.frozen? ⟨b, 0, none⟩ = false := Lib.frozen_of_heap h 0
theorem set_block {W : World} {b : Nat} {v u : Value} {t : TypeId} (h : W.heap[b]? = some (.cells #[v] t (0, 0))) : (W.setCell ⟨b, 0, none⟩ u).heap[b]? = some (.cells #[u] t (0, 0)) := by
  simp [World.setCell, Array.getElem?_modify, h]
theorem set_other {W : World} {b k : Nat} {u : Value} (h : k ≠ b) : (W.setCell ⟨b, 0, none⟩ u).heap[k]? = W.heap[k]? := by
  simp [World.setCell, Array.getElem?_modify, Ne.symm h]
theorem SpOk.store {b : Nat} {s s' : ByteArray} {c : UInt8} {W : World} (h : SpOk b s c W) : SpOk b s' c (W.setCell ⟨b, 0, none⟩ (.string s')) :=
  ⟨set_block h.1, (set_other (by omega)).trans h.2.1, (set_other (by omega)).trans h.2.2⟩
theorem SpAb.store (b : Nat) (W : World) (v : Value) : SpAb b W (W.setCell ⟨b, 0, none⟩ v) :=
  ⟨some b, ⟨rfl, rfl, rfl, by simp [World.setCell], fun k _ hk => set_other (fun e => hk (by rw [e]))⟩, .inr rfl⟩
theorem SpLeft.of {b : Nat} {s : ByteArray} {c : UInt8} {W : World} (h : SpOk b s c W) : SpLeft b W = s.size := by unfold SpLeft; rw [cell_of_block h.1]

set_option maxHeartbeats 2000000 in
set_option maxRecDepth 100000 in
theorem strings_Index_one (s : ByteArray) (c : UInt8) (w : World) :
    Calls Tryd.prog 40 #[.string s, .string ⟨#[c]⟩] w fun e w' => e = .returned (.int .i64 (Lib.indexByte s.data.toList c)) ∧ w' = w := by
  go_enter Tryd.func40, Tryd.ntmps40
  go_wp2_with (go_at_call 49; refine (stringslite_Index_one _ _ _).mono ?_; rintro e w' ⟨rfl, rfl⟩)
  go_ret
  exact ⟨rfl, rfl⟩

def spParts (c : UInt8) (s : ByteArray) : List ByteArray := (splitL c (bl s)).map ba
theorem spParts_hit (c : UInt8) (s : ByteArray) (h : c ∈ bl s) : spParts c s = s.extract 0 (pre c (bl s)).length :: spParts c (s.extract ((pre c (bl s)).length + 1) s.size) := by
  unfold spParts
  rw [splitL_eq, if_pos h, ← post_extract s c h, bl_ba, List.map_cons, pre_extract s c h]
theorem splitL_sizes (c : UInt8) (l : List UInt8) : ∀ x ∈ splitL c l, x.length ≤ l.length := by
  induction l with
  | nil => intro x hx; simp [splitL] at hx; subst hx; simp
  | cons y r ih =>
    intro x hx
    rw [splitL] at hx
    split at hx
    · rcases List.mem_cons.1 hx with h | h
      · subst h; simp
      · have := ih x h; simp; omega
    · split at hx
      · rename_i p ps hps
        rcases List.mem_cons.1 hx with h | h
        · subst h; have := ih p (by rw [hps]; simp); simp; omega
        · have := ih x (by rw [hps]; exact List.mem_cons_of_mem _ h); simp; omega
      · simp at hx; subst hx; simp
theorem spParts_sizes (c : UInt8) (s : ByteArray) : ∀ x ∈ spParts c s, x.size ≤ s.size := by
  intro x hx
  obtain ⟨l, hl, rfl⟩ := List.mem_map.1 hx
  have := splitL_sizes c (bl s) l hl
  rw [bl_length] at this
  simpa using this
theorem splitL_length (c : UInt8) (l : List UInt8) : (splitL c l).length ≤ l.length + 1 := by
  induction l with
  | nil => simp [splitL]
  | cons y r ih =>
    rw [splitL]
    split
    · simp; omega
    · split
      · rename_i p ps hps; rw [hps] at ih; simp at ih ⊢; omega
      · simp
theorem spParts_length (c : UInt8) (s : ByteArray) : (spParts c s).length ≤ s.size + 1 := by
  have := splitL_length c (bl s)
  rw [bl_length] at this
  simpa [spParts] using this
theorem spParts_miss (c : UInt8) (s : ByteArray) (h : c ∉ bl s) : spParts c s = [s] := by
  unfold spParts
  rw [splitL_eq, if_neg h, pre_of_not_mem h]; simp

set_option maxHeartbeats 4000000 in
set_option maxRecDepth 100000 in
theorem split_cell (n : Nat) (hn : 1 ≤ n) (b : Nat) (s0 : ByteArray) (hs0 : s0.size ≤ 140737488355328) (c : UInt8) :
    SeqCell Fence.wide n Tryd.prog 38 #[.pointer (some ⟨b + 1, 0, none⟩), .pointer (some ⟨b, 0, none⟩), .pointer (some ⟨b + 2, 0, none⟩)] (fun s : ByteArray => #[.string s]) (SpKp b) (SpAb b)
      (fun xs => xs = spParts c s0) (fun pr => pr <+: spParts c s0) (fun pr x => pr ++ [x] <+: spParts c s0) (SpOk b s0 c) := by
  intro l J Jx W hW hJA hY h0
  have HW := Aside0.mk hW
  have HJA := Aside0.mk hJA
  have HY := Aside0.mk hY
  have H0 := Aside0.mk h0
  have c1 := cell_of_block hW.2.1
  clear hW hJA hY h0
  refine callsIn_of_wp Tryd.func38 rfl trivial ?_ rfl
  simp only [Tryd.ntmps38, List.size_toArray, List.length_cons, List.length_nil, Nat.reduceAdd, Nat.reduceSub, Array.replicate_succ, Array.replicate_zero, List.push_toArray, List.append_toArray, List.nil_append, List.cons_append]
  gi_wp2
  clear c1
  gi_loopw [] (fun wr => ∃ (pr : List ByteArray) (cur : ByteArray), Aside0 (SpOk b cur c wr) ∧ cur.size ≤ 140737488355328 ∧ Aside0 (spParts c s0 = pr ++ spParts c cur) ∧ Aside0 (J pr wr)) (fun wr => SpLeft b wr)
  case atStart => exact ⟨[], s0, HW, hs0, ⟨rfl⟩, H0⟩
  case round =>
    obtain ⟨pr, cur, HO, hcs, HP, HJ⟩ := hrel
    have k0 := cell_of_block HO.out.1
    have k1 := cell_of_block HO.out.2.1
    have k2 := cell_of_block HO.out.2.2
    by_cases hc : c ∈ bl cur
    · have hi : Lib.indexByte cur.data.toList c = ((pre c (bl cur)).length : Int) := by
        rw [show cur.data.toList = bl cur from rfl, indexByte_eq, if_pos hc]
      have hlt := congrArg List.length (pre_post hc)
      rw [List.length_append, List.length_cons, bl_length] at hlt
      have HI := Aside0.mk hi
      have hh := spParts_hit c cur hc
      have HP2 := Aside0.mk (show spParts c s0 = (pr ++ [cur.extract 0 (pre c (bl cur)).length]) ++ spParts c (cur.extract ((pre c (bl cur)).length + 1) cur.size) from by rw [HP.out, hh]; simp)
      generalize hg : (pre c (bl cur)).length = i at *
      clear hi hh hg
      have i0 : (i : Int) < (cur.size : Int) := by omega
      have hlt2 := hlt
      clear hlt
      have i1 : (i : Int) + 1 ≤ (cur.size : Int) := by omega
      have hnl : pr ++ [cur.extract 0 i] <+: spParts c s0 := ⟨_, HP2.out.symm⟩
      obtain ⟨fn, tmps, assign, body, hy, hR⟩ := HY.out pr (cur.extract 0 i) wr HJ.out hnl
      have HR := Aside0.mk hR
      clear hlt2 hR hnl
      gi_wp2_with (refine ⟨trivial, ?_⟩; gi_at_call 40; refine (callsIn_wide.2 (strings_Index_one _ _ _)).mono ?_; rw [HI.out]; rintro e w' ⟨rfl, rfl⟩)
      refine HR.out.mono ?_
      rintro e W2 (⟨rfl, hJ2, hk2⟩ | ⟨rfl, hx2⟩)
      · have HO2 := Aside0.mk (HO.out.keep hk2)
        have m0 := cell_of_block HO2.out.1
        have m1 := cell_of_block HO2.out.2.1
        have f0 := free_of_block HO2.out.1
        have HJ2 := Aside0.mk (HJA.out _ _ _ hJ2 (SpAb.store b W2 (.string (cur.extract (i + 1) cur.size))))
        have HO3 := Aside0.mk (HO2.out.store (s' := cur.extract (i + 1) cur.size))
        have hsz : (cur.extract (i + 1) cur.size).size = cur.size - (i + 1) := by rw [ByteArray.size_extract]; omega
        have HSZ := Aside0.mk hsz
        clear hJ2 hk2 k0 k1 k2 hsz
        gi_wp2
        go_roundw
        case rel => exact ⟨pr ++ [cur.extract 0 i], cur.extract (i + 1) cur.size, HO3, by rw [HSZ.out]; omega, HP2, HJ2⟩
        case measure => rw [SpLeft.of HO3.out, SpLeft.of HO.out, HSZ.out]; omega
      · clear k0 k1 k2
        gi_wp2
        refine bodyPost_ret (results_none rfl _ _ _) rfl ?_
        exact ⟨⟨_, rfl⟩, .inr ⟨pr ++ [cur.extract 0 i], ⟨_, HP2.out.symm⟩, hx2⟩⟩
    · have hi : Lib.indexByte cur.data.toList c = -1 := by
        rw [show cur.data.toList = bl cur from rfl, indexByte_eq, if_neg hc]
      have HI := Aside0.mk hi
      have HP2 := Aside0.mk (show spParts c s0 = pr ++ [cur] from by rw [HP.out, spParts_miss c cur hc])
      have hnl : pr ++ [cur] <+: spParts c s0 := ⟨[], by rw [HP2.out]; simp⟩
      obtain ⟨fn, tmps, assign, body, hy, hR⟩ := HY.out pr cur wr HJ.out hnl
      have HR := Aside0.mk hR
      clear hR hi hnl
      gi_wp2_with (refine ⟨trivial, ?_⟩; gi_at_call 40; refine (callsIn_wide.2 (strings_Index_one _ _ _)).mono ?_; rw [HI.out]; rintro e w' ⟨rfl, rfl⟩)
      refine HR.out.mono ?_
      rintro e W2 (⟨rfl, hJ2, hk2⟩ | ⟨rfl, hx2⟩)
      · clear k0 k1 k2
        gi_wp2
        go_end0
        exact ⟨⟨_, rfl⟩, .inl ⟨pr ++ [cur], HP2.out.symm, hJ2⟩⟩
      · clear k0 k1 k2
        gi_wp2
        go_end0
        exact ⟨⟨_, rfl⟩, .inr ⟨pr ++ [cur], ⟨[], by rw [HP2.out]; simp⟩, hx2⟩⟩
end Go.Proofs.YtibfhaekomflpaaDoor.X
