/- Tapes of the call's own: each method, and what it leaves of another tape. -/
import Derived.Test.YtnfnalalpligiaaTAns
import Derived.Test.YtnfnalalpligiaaTRef
namespace Go.Proofs.Ytnfnalalpligiaa.X
open Go.RowKit Go.Proofs.YtnfnalalpligiaaW.PrintWords Go.Proofs.YtnfnalalpligiaaW.PrintLast Go.Proofs.YtnfnalalpligiaaW.PrintMore
set_option linter.unusedVariables false
set_option linter.unusedSimpArgs false

/-- a tape of the call's own: its blocks lie from B on -/
structure Tp (B : Nat) (T : TypeId) (w : World) (p : Nat) (g : Option Nat) (zs : List Int) (s f : Int) (d : Bool) : Prop where
  st : St T w p g zs s f d
  hp : B ≤ p
  hg : ∀ b, g = some b → B ≤ b
theorem Tp.glt {B : Nat} {T : TypeId} {w : World} {p : Nat} {g : Option Nat} {zs : List Int} {s f : Int} {d : Bool} (h : Tp B T w p g zs s f d) : ∀ b, g = some b → b < w.heap.size := by
  obtain ⟨⟨_, v, _, hr⟩, _, _⟩ := h
  exact hr.lt
theorem Tp.on {B : Nat} {T : TypeId} {w w' : World} {p : Nat} {g : Option Nat} {zs : List Int} {s f : Int} {d : Bool} {S : Nat → Prop} (h : Tp B T w p g zs s f d) (k : Tc S w w') (hn : ¬ S p) (hn2 : ∀ b, g = some b → ¬ S b) : Tp B T w' p g zs s f d :=
  ⟨h.st.tc k hn hn2, h.hp, h.hg⟩
theorem Tp.below {B : Nat} {T : TypeId} {w w' : World} {p : Nat} {g : Option Nat} {zs : List Int} {s f : Int} {d : Bool} (h : Tp B T w p g zs s f d) (k : Below w.heap.size w w') : Tp B T w' p g zs s f d :=
  h.on (S := fun _ => False) (Tc.ofBelow k) (fun h => h) (fun _ _ h => h)
/-- behind a step of its own -/
theorem Tp.step {B : Nat} {T : TypeId} {w w' : World} {p : Nat} {g g' : Option Nat} {zs zs' : List Int} {s s' f f' : Int} {d d' : Bool} (h : Tp B T w p g zs s f d) (hB : B ≤ w.heap.size) (k : St T w' p g' zs' s' f' d') (hg : g' = g ∨ ∀ b, g' = some b → w.heap.size ≤ b) : Tp B T w' p g' zs' s' f' d' :=
  ⟨k, h.hp, fun b e => by
    rcases hg with rfl | hg
    · exact h.hg b e
    · exact Nat.le_trans hB (hg b e)⟩
/-- the frame of such a step: what lies below B stays -/
theorem Tp.frame {B : Nat} {T : TypeId} {w w' : World} {p : Nat} {g : Option Nat} {zs : List Int} {s f : Int} {d : Bool} (h : Tp B T w p g zs s f d) (hB : B ≤ w.heap.size) (k : Tc (fun k => k = p ∨ some k = g) w w') : Below B w w' :=
  k.below hB fun i hi e => by
    rcases e with rfl | e
    · have := h.hp; omega
    · have := h.hg i e.symm; omega
theorem Tp.frame1 {B : Nat} {T : TypeId} {w w' : World} {p : Nat} {g : Option Nat} {zs : List Int} {s f : Int} {d : Bool} (h : Tp B T w p g zs s f d) (hB : B ≤ w.heap.size) (k : Tc (fun k => k = p) w w') : Below B w w' :=
  k.below hB fun i hi e => by
    subst e
    have := h.hp
    omega
/-- two tapes that share no block -/
structure Ap (p : Nat) (g : Option Nat) (q : Nat) (h : Option Nat) : Prop where
  pq : p ≠ q
  ph : some p ≠ h
  qg : some q ≠ g
  gh : ∀ b, g = some b → h ≠ some b
theorem Ap.symm {p q : Nat} {g h : Option Nat} (a : Ap p g q h) : Ap q h p g := ⟨a.pq.symm, a.qg, a.ph, fun b e1 e2 => a.gh b e2 e1⟩
/-- a step of the first leaves the second, and they are apart still -/
theorem Tp.other {B : Nat} {T : TypeId} {w w' : World} {p q : Nat} {g g' h : Option Nat} {zs : List Int} {s f : Int} {d : Bool} (t : Tp B T w q h zs s f d) (a : Ap p g q h) (k : Tc (fun k => k = p ∨ some k = g) w w') (hg : g' = g ∨ ∀ b, g' = some b → w.heap.size ≤ b) : Tp B T w' q h zs s f d ∧ Ap p g' q h := by
  refine ⟨t.on k (fun e => ?_) (fun b e1 e => ?_), ⟨a.pq, a.ph, ?_, ?_⟩⟩
  · rcases e with e | e
    · exact a.pq e.symm
    · exact a.qg e
  · rcases e with e | e
    · exact a.ph (by rw [← e, e1])
    · exact a.gh b e.symm e1
  · rcases hg with rfl | hg
    · exact a.qg
    · intro e
      have h1 := hg q e.symm
      have h2 := t.st.lt
      omega
  · rcases hg with rfl | hg
    · exact a.gh
    · intro b e1 e2
      have h1 := hg b e1
      have h2 := t.glt b e2
      omega
theorem Tp.other1 {B : Nat} {T : TypeId} {w w' : World} {p q : Nat} {g h : Option Nat} {zs : List Int} {s f : Int} {d : Bool} (t : Tp B T w q h zs s f d) (a : Ap p g q h) (k : Tc (fun k => k = p) w w') : Tp B T w' q h zs s f d :=
  t.on k (fun e => a.pq e.symm) (fun b e1 e => a.ph (by rw [← e, e1]))
theorem Tc.wide {w w' : World} {p : Nat} (k : Tc (fun k => k = p) w w') (g : Option Nat) : Tc (fun k => k = p ∨ some k = g) w w' :=
  k.then (Tc.refl (fun k => k = p) _) (fun _ _ e => .inl e) (fun _ _ e => .inl e)

theorem Tp.new {w0 w w' : World} {p : Nat} {T : TypeId} (hb : Below w0.heap.size w0 w) (hp : w.heap.size ≤ p) (hs : St T w' p none [] 0 (-1) false) : Tp w0.heap.size T w' p none [] 0 (-1) false :=
  ⟨hs, Nat.le_trans hb.size hp, fun b e => by cases e⟩

/-- a slice that is read alone, as it lay when the call began -/
def Arg (w0 : World) (v : Value) (zs : List Int) : Prop := ∃ g, Ar w0 v g zs ∧ (0 < zs.length → g < w0.heap.size)
theorem Arg.ofC {w : World} {A : Option Addr} {c : Nat} {zs : List Int} (h : Kd.C (Kd.int .u8) w A zs.length zs) (hc : zs.length ≤ c) : Arg w (.slice A zs.length c) zs := by
  obtain ⟨g, h1, h2⟩ := Ar.ofC h hc 0
  refine ⟨g, h1, fun h0 => ?_⟩
  obtain ⟨ao, off, cap, e, _, _, h3, _⟩ := h1.shape
  exact (h3 h0).2
theorem Arg.at {w0 w : World} {v : Value} {zs : List Int} (h : Arg w0 v zs) (hb : Below w0.heap.size w0 w) (p : Nat) (hp : w0.heap.size ≤ p) : ∃ g, Ar w v g zs ∧ g ≠ p := by
  obtain ⟨g, h1, h2⟩ := h
  by_cases h0 : 0 < zs.length
  · exact ⟨g, h1.keep hb.size (fun hg => hb.block g hg), by have := h2 h0; omega⟩
  · obtain ⟨ao, off, cap, e, h3, h4, h5, h6⟩ := h1.shape
    exact ⟨p + 1, ⟨ao, off, cap, e, h3, h4, fun h => absurd h h0, fun j hj => by omega⟩, by omega⟩

section
variable {w0 w : World} {p : Nat} {g : Option Nat} {zs : List Int} {s f : Int} {d : Bool}
/-- what a step of the tape p leaves -/
structure Done (T : TypeId) (w0 w w' : World) (p : Nat) (g : Option Nat) (zs' : List Int) (s' f' : Int) (d' : Bool) (g' : Option Nat) : Prop where
  tp : Tp w0.heap.size T w' p g' zs' s' f' d'
  tc : Tc (fun k => k = p ∨ some k = g) w w'
  gg : g' = g ∨ ∀ b, g' = some b → w.heap.size ≤ b
  be : Below w0.heap.size w0 w'

theorem Done.mk1 {T : TypeId} (t : Tp w0.heap.size T w p g zs s f d) (hb : Below w0.heap.size w0 w) {w' : World} {g' : Option Nat} {zs' : List Int} {s' f' : Int} {d' : Bool} (h : St T w' p g' zs' s' f' d') (k : Tc (fun k => k = p ∨ some k = g) w w') (hg : g' = g ∨ ∀ b, g' = some b → w.heap.size ≤ b) :
    Done T w0 w w' p g zs' s' f' d' g' := ⟨t.step hb.size h hg, k, hg, hb.trans (t.frame hb.size k)⟩

theorem L_write (t : Tp w0.heap.size 44 w p g zs s f d) (hb : Below w0.heap.size w0 w) {v : Value} {bs : List Int} (ha : ∃ gb, Ar w v gb bs ∧ gb ≠ p) (hf : f ≤ 9223372036854775807) (hz : zs.length + bs.length ≤ 140737488355328) :
    Calls Try.prog 9 #[.pointer (some ⟨p, 0, none⟩), v] w fun e w' => e = .returned (.int .i64 (er f d bs.length)) ∧ ∃ g', Done 44 w0 w w' p g (wr zs bs f d) s (fz f d bs.length) (dn f d bs.length) g' := by
  obtain ⟨gb, h1, h2⟩ := ha
  refine (write_calls p gb g zs bs s f d v w t.st h1 h2 hf hz).mono ?_
  rintro e w' ⟨rfl, g', h3, h4, h5⟩
  exact ⟨rfl, g', .mk1 t hb h3 h4 h5⟩
theorem L_swap (t : Tp w0.heap.size 44 w p g zs s f d) (hb : Below w0.heap.size w0 w) {v : Value} {bs : List Int} (ha : ∃ gb, Ar w v gb bs ∧ gb ≠ p) (hf : f ≤ 9223372036854775807) (hz : bs.length ≤ 140737488355328) :
    Calls Try.prog 18 #[.pointer (some ⟨p, 0, none⟩), v] w fun e w' => e = .returned (.int .i64 (er f d (bs.length + 1))) ∧ ∃ g', Done 44 w0 w w' p g (sw zs bs f d (bs.length + 1)) (sy f d (bs.length + 1) bs.length s) (fz f d (bs.length + 1)) (dn f d (bs.length + 1)) g' := by
  obtain ⟨gb, h1, h2⟩ := ha
  refine (swap_calls p gb g zs bs s f d v w t.st h1 h2 hf hz).mono ?_
  rintro e w' ⟨rfl, g', h3, h4, h5⟩
  exact ⟨rfl, g', .mk1 t hb h3 h4 h5⟩
theorem L_sync (t : Tp w0.heap.size 44 w p g zs s f d) (hb : Below w0.heap.size w0 w) (hf : f ≤ 9223372036854775807) :
    Calls Try.prog 10 #[.pointer (some ⟨p, 0, none⟩)] w fun e w' => e = .returned (.int .i64 (er f d 1)) ∧ Done 44 w0 w w' p g zs (sy f d 1 zs.length s) (fz f d 1) (dn f d 1) g := by
  refine (sync_calls p g zs s f d w t.st hf).mono ?_
  rintro e w' ⟨rfl, h3, h4⟩
  exact ⟨rfl, .mk1 t hb h3 (h4.wide g) (.inl rfl)⟩
theorem L_fuse (t : Tp w0.heap.size 44 w p g zs s f d) (hb : Below w0.heap.size w0 w) (n : Int) :
    Calls Try.prog 11 #[.pointer (some ⟨p, 0, none⟩), .int .i64 n] w fun e w' => e = .returned (.tuple #[]) ∧ Done 44 w0 w w' p g zs s (max n 0) d g := by
  refine (fuse_calls p g zs s f d n w t.st).mono ?_
  rintro e w' ⟨rfl, h3, h4⟩
  exact ⟨rfl, .mk1 t hb h3 (h4.wide g) (.inl rfl)⟩
theorem L_crash (t : Tp w0.heap.size 44 w p g zs s f d) (hb : Below w0.heap.size w0 w) (n : Int) (hs0 : 0 ≤ s) (hs1 : s ≤ zs.length) (hz : zs.length ≤ 140737488355328) (hn : n ≤ 9223372036854775807) :
    Calls Try.prog 12 #[.pointer (some ⟨p, 0, none⟩), .int .i64 n] w fun e w' => e = .returned (.tuple #[]) ∧ Done 44 w0 w w' p g (zs.take (s + min (max n 0) (zs.length - s)).toNat) (s + min (max n 0) (zs.length - s)) (-1) false g := by
  refine (crash_calls p g zs s f d n w t.st hs0 hs1 hz hn).mono ?_
  rintro e w' ⟨rfl, h3, h4⟩
  exact ⟨rfl, .mk1 t hb h3 (h4.wide g) (.inl rfl)⟩
theorem L_new (hb : Below w0.heap.size w0 w) :
    Calls Try.prog 8 #[] w fun e w' => ∃ p, e = .returned (.pointer (some ⟨p, 0, none⟩)) ∧ Tp w0.heap.size 44 w' p none [] 0 (-1) false ∧ w.heap.size ≤ p ∧ Below w.heap.size w w' ∧ Below w0.heap.size w0 w' := by
  refine (new_calls w).mono ?_
  rintro e w' ⟨p, rfl, h1, h2, h3⟩
  exact ⟨p, rfl, Tp.new hb h1 h2, h1, h3, below_on hb h3⟩
theorem L_bytes (t : Tp w0.heap.size 44 w p g zs s f d) (hb : Below w0.heap.size w0 w) (hz : zs.length ≤ 140737488355328) :
    Calls Try.prog 13 #[.pointer (some ⟨p, 0, none⟩)] w fun e w' => ∃ ao cap b, e = .returned (.slice ao zs.length cap) ∧ Ar w' (.slice ao zs.length cap) b zs ∧ (convert 22 9 (.slice ao zs.length cap)).run Try.prog w' = .ok (.string (strOfNums zs)) w' ∧ Tp w0.heap.size 44 w' p g zs s f d ∧ Below w.heap.size w w' ∧ Below w0.heap.size w0 w' := by
  refine (bytes2_calls p g zs s f d w t.st hz).mono ?_
  rintro e w' ⟨ao, cap, b, rfl, h1, h2, h3, h4⟩
  exact ⟨ao, cap, b, rfl, h1, h2, t.below h4, h4, below_on hb h4⟩
theorem R_new (hb : Below w0.heap.size w0 w) :
    Calls Try.prog 15 #[] w fun e w' => ∃ p, e = .returned (.pointer (some ⟨p, 0, none⟩)) ∧ Tp w0.heap.size 39 w' p none [] 0 (-1) false ∧ w.heap.size ≤ p ∧ Below w.heap.size w w' ∧ Below w0.heap.size w0 w' := by
  refine (rnew_calls w).mono ?_
  rintro e w' ⟨p, rfl, h1, h2, h3⟩
  exact ⟨p, rfl, Tp.new hb h1 h2, h1, h3, below_on hb h3⟩
theorem R_write (t : Tp w0.heap.size 39 w p g zs s f d) (hb : Below w0.heap.size w0 w) {v : Value} {bs : List Int} (ha : ∃ gb, Ar w v gb bs ∧ gb ≠ p) (hf : f ≤ 9223372036854775807) (hz : zs.length + bs.length ≤ 140737488355328) :
    Calls Try.prog 16 #[.pointer (some ⟨p, 0, none⟩), v] w fun e w' => e = .returned (.int .i64 (er f d bs.length)) ∧ ∃ g', Done 39 w0 w w' p g (wr zs bs f d) s (fz f d bs.length) (dn f d bs.length) g' := by
  obtain ⟨gb, h1, h2⟩ := ha
  refine (rwrite_calls p gb g zs bs s f d v w t.st h1 h2 hf hz).mono ?_
  rintro e w' ⟨rfl, g', h3, h4, h5⟩
  exact ⟨rfl, g', .mk1 t hb h3 h4 h5⟩
theorem R_swap (t : Tp w0.heap.size 39 w p g zs s f d) (hb : Below w0.heap.size w0 w) {v : Value} {bs : List Int} (ha : ∃ gb, Ar w v gb bs ∧ gb ≠ p) (hf : f ≤ 9223372036854775807) (hz : bs.length ≤ 140737488355328) :
    Calls Try.prog 19 #[.pointer (some ⟨p, 0, none⟩), v] w fun e w' => e = .returned (.int .i64 (er f d (bs.length + 1))) ∧ ∃ g', Done 39 w0 w w' p g (sw zs bs f d (bs.length + 1)) (sy f d (bs.length + 1) bs.length s) (fz f d (bs.length + 1)) (dn f d (bs.length + 1)) g' := by
  obtain ⟨gb, h1, h2⟩ := ha
  refine (rswap_calls p gb g zs bs s f d v w t.st h1 h2 hf hz).mono ?_
  rintro e w' ⟨rfl, g', h3, h4, h5⟩
  exact ⟨rfl, g', .mk1 t hb h3 h4 h5⟩
theorem R_sync (t : Tp w0.heap.size 39 w p g zs s f d) (hb : Below w0.heap.size w0 w) (hf : f ≤ 9223372036854775807) :
    Calls Try.prog 17 #[.pointer (some ⟨p, 0, none⟩)] w fun e w' => e = .returned (.int .i64 (er f d 1)) ∧ Done 39 w0 w w' p g zs (sy f d 1 zs.length s) (fz f d 1) (dn f d 1) g := by
  refine (rsync_calls p g zs s f d w t.st hf).mono ?_
  rintro e w' ⟨rfl, h3, h4⟩
  exact ⟨rfl, .mk1 t hb h3 (h4.wide g) (.inl rfl)⟩
theorem R_crash (t : Tp w0.heap.size 39 w p g zs s f d) (hb : Below w0.heap.size w0 w) (n : Int) (hs0 : 0 ≤ s) (hs1 : s ≤ zs.length) (hz : zs.length ≤ 140737488355328) (hn : n ≤ 9223372036854775807) :
    Calls Try.prog 20 #[.pointer (some ⟨p, 0, none⟩), .int .i64 n] w fun e w' => e = .returned (.tuple #[]) ∧ ∃ g', Done 39 w0 w w' p g (zs.take (s + min (max n 0) (zs.length - s)).toNat) (s + min (max n 0) (zs.length - s)) (-1) false g' := by
  refine (rcrash_calls p g zs s f d n w t.st hs0 hs1 hz hn).mono ?_
  rintro e w' ⟨rfl, g', h3, h4, h5⟩
  exact ⟨rfl, g', .mk1 t hb h3 (h4.wide g) (.inr h5)⟩
end
end Go.Proofs.Ytnfnalalpligiaa.X
