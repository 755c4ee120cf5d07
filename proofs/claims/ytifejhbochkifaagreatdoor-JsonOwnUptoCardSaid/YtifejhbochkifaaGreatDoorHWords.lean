/- json.words: the map of the values that are words. -/
import Derived.Test.YtifejhbochkifaaGreatDoorHRdr
import Derived.Carry
import Derived.Laws.IdiomMaps
import Derived.Maps.RangeRun
namespace Go.Proofs.YtifejhbochkifaaGreatDoor.X
open Go Go.RowKit Go.ChangeMaps Go.Proofs.YtifejhbochkifaaGreatDoorW.PrintWords Go.Proofs.YtifejhbochkifaaGreatDoorW.PrintLast Go.Proofs.YtifejhbochkifaaGreatDoorW.PrintMore Go.Proofs.YtifejhbochkifaaGreatDoor.Spec
set_option linter.unusedVariables false
set_option linter.unusedSimpArgs false
def wVal (a b : Int) : Value := .agg #[.int .i64 a, .int .i64 b, .string ⟨#[]⟩, .slice none 0 0, .slice none 0 0]
def wEnts : Array MapEntry := #[⟨.string ⟨#[110, 117, 108, 108]⟩, wVal 1 0, 0⟩, ⟨.string ⟨#[116, 114, 117, 101]⟩, wVal 2 1, 1⟩, ⟨.string ⟨#[102, 97, 108, 115, 101]⟩, wVal 2 0, 2⟩]
theorem block_set {w : World} {b : Nat} {o o' : Obj} (h : w.heap[b]? = some o') : (setBlock w b o).heap[b]? = some o := by
 have hl := (Array.getElem?_eq_some_iff.1 h).1
 simp [setBlock, hl]
theorem below_setBlock {B b : Nat} {w0 w : World} (h : Below B w0 w) (hb : B ≤ b) (o : Obj) : Below B w0 (setBlock w b o) :=
 ⟨h.os, h.tape, h.output, by simpa [setBlock] using h.size, fun i hi => by
  have hne : b ≠ i := by omega
  have := h.block i hi
  simp only [setBlock]
  rw [Array.getElem?_setIfInBounds_ne hne]
  exact this⟩
theorem run_upd (w : World) (b : Nat) (es : Array MapEntry) (clock : Nat) (k : ByteArray) (v : Value) (hb : w.heap[b]? = some (.map es clock)) (hf : Instr.findNow .string (.string k) es.toList 0 = some none) :
  (Instr.mapUpdate 59 (.map (some b)) (.string k) v).run Tryz.prog w = .ok () (setBlock w b (.map (es.push ⟨.string k, v, clock⟩) (clock + 1))) := by
 have h1 := MapKept.run_checkKey (P := Tryz.prog) (w := w) Tryz.underlying9 (k := .string k) (d := .string) trivial false 9999
 have h2 := MapKept.run_findKey (P := Tryz.prog) (w := w) Tryz.underlying9 hf
 simp only [Instr.mapUpdate, getObj, Sem.run_bind, Sem.run, hb, Result.andThen, run_underlying Tryz.underlying59, h1, h2]
 simp [setObj, Sem.run, hb, setBlock]
set_option maxHeartbeats 2000000 in
theorem words_calls (w : World) : Calls Tryz.prog 37 #[] w fun e w' => e = .returned (.map (some w.heap.size)) ∧ w'.heap[w.heap.size]? = some (.map wEnts 3) ∧ Below w.heap.size w w' := by
 have hmm := @run_makeMap Tryz.prog 59 w
 have b0 : (w.alloc (.map #[] 0)).heap[w.heap.size]? = some (.map #[] 0) := Go.heap_alloc_new w _
 have e1 := run_upd (w.alloc (.map #[] 0)) w.heap.size #[] 0 ⟨#[110, 117, 108, 108]⟩ (.agg #[.int .i64 1, .int .i64 0, .string ⟨#[]⟩, .slice none 0 0, .slice none 0 0]) b0 rfl
 have b1 := block_set (o := .map (#[].push ⟨.string ⟨#[110, 117, 108, 108]⟩, .agg #[.int .i64 1, .int .i64 0, .string ⟨#[]⟩, .slice none 0 0, .slice none 0 0], 0⟩) (0 + 1)) b0
 have l1 := below_setBlock ((Below.refl w.heap.size w).alloc (Nat.le_refl _) (.map #[] 0)) (Nat.le_refl _) (.map (#[].push ⟨.string ⟨#[110, 117, 108, 108]⟩, .agg #[.int .i64 1, .int .i64 0, .string ⟨#[]⟩, .slice none 0 0, .slice none 0 0], 0⟩) (0 + 1))
 generalize setBlock (w.alloc (.map #[] 0)) w.heap.size _ = W1 at e1 b1 l1
 have e2 := run_upd W1 w.heap.size _ _ ⟨#[116, 114, 117, 101]⟩ (.agg #[.int .i64 2, .int .i64 1, .string ⟨#[]⟩, .slice none 0 0, .slice none 0 0]) b1 (by kernel_rfl)
 have b2 := block_set (o := .map (#[⟨.string ⟨#[110, 117, 108, 108]⟩, wVal 1 0, 0⟩, ⟨.string ⟨#[116, 114, 117, 101]⟩, wVal 2 1, 1⟩]) 2) b1
 have l2 := below_setBlock l1 (Nat.le_refl _) (.map (#[⟨.string ⟨#[110, 117, 108, 108]⟩, wVal 1 0, 0⟩, ⟨.string ⟨#[116, 114, 117, 101]⟩, wVal 2 1, 1⟩]) 2)
 have e2' : (Instr.mapUpdate 59 (.map (some w.heap.size)) (.string ⟨#[116, 114, 117, 101]⟩) (.agg #[.int .i64 2, .int .i64 1, .string ⟨#[]⟩, .slice none 0 0, .slice none 0 0])).run Tryz.prog W1 = .ok () (setBlock W1 w.heap.size (.map (#[⟨.string ⟨#[110, 117, 108, 108]⟩, wVal 1 0, 0⟩, ⟨.string ⟨#[116, 114, 117, 101]⟩, wVal 2 1, 1⟩]) 2)) := e2
 clear e2
 generalize setBlock W1 w.heap.size _ = W2 at e2' b2 l2
 have e3 := run_upd W2 w.heap.size _ _ ⟨#[102, 97, 108, 115, 101]⟩ (.agg #[.int .i64 2, .int .i64 0, .string ⟨#[]⟩, .slice none 0 0, .slice none 0 0]) b2 (by kernel_rfl)
 have b3 := block_set (o := .map wEnts 3) b2
 have l3 := below_setBlock l2 (Nat.le_refl _) (.map wEnts 3)
 have e3' : (Instr.mapUpdate 59 (.map (some w.heap.size)) (.string ⟨#[102, 97, 108, 115, 101]⟩) (.agg #[.int .i64 2, .int .i64 0, .string ⟨#[]⟩, .slice none 0 0, .slice none 0 0])).run Tryz.prog W2 = .ok () (setBlock W2 w.heap.size (.map wEnts 3)) := e3
 clear e3
 generalize setBlock W2 w.heap.size _ = W3 at e3' b3 l3
 have HF := Aside0.mk (And.intro b3 l3)
 clear b0 b1 l1 b2 l2 b3 l3
 go_enter Tryz.func37, Tryz.ntmps37
 go_wp2
 go_ret
 exact ⟨rfl, HF.out.1, HF.out.2⟩
end Go.Proofs.YtifejhbochkifaaGreatDoor.X
