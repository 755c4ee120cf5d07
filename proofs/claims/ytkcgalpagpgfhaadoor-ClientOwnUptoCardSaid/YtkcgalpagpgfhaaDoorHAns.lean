/- The law's own answers: its walk. -/
import Derived.Test.YtkcgalpagpgfhaaDoorHGoodD
import Derived.Test.YtkcgalpagpgfhaaDoorHEqual
import Derived.Test.YtkcgalpagpgfhaaDoorX3
namespace Go.Proofs.YtkcgalpagpgfhaaDoor.X
open Go.RowKit Go.Proofs.YtkcgalpagpgfhaaDoorW.PrintWords Go.Proofs.YtkcgalpagpgfhaaDoorW.PrintLast Go.Proofs.YtkcgalpagpgfhaaDoorW.PrintMore Go.Proofs.YtkcgalpagpgfhaaDoor.Spec
set_option linter.unusedVariables false
set_option linter.unusedSimpArgs false

def IB : ByteArray := ⟨#[104, 116, 116, 112, 115, 58, 47, 47, 98]⟩
def RB : ByteArray := ⟨#[104, 116, 116, 112, 58, 47, 47, 114]⟩
def cl0 : S25 := ⟨⟨#[97]⟩, ⟨#[120]⟩, [RB]⟩
theorem good0 : (goodU IB ⟨#[107]⟩ ⟨#[115]⟩ && goodL (fun _ => true) [cl0] []) = true := by decide +kernel
theorem good_f0 : client_Good.f IB ⟨#[107]⟩ ⟨#[115]⟩ [cl0] [] = some true := by
  unfold client_Good.f
  rw [if_pos (by decide +kernel), good0]
theorem find0 (s : ByteArray) : client_Client.f IB ⟨#[107]⟩ s [cl0] [] ⟨#[97]⟩ = some (⟨#[97]⟩, ⟨#[120]⟩, [RB], true) := by
  unfold client_Client.f
  rw [if_neg (by decide +kernel), if_pos (by decide +kernel)]
  have h : findC [cl0] ⟨#[97]⟩ = 0 := by decide +kernel
  rw [h]
  rfl
theorem auth_yes : Ev (fun k => client_Auth.f k IB ⟨#[107]⟩ ⟨#[115]⟩ [cl0] [] ⟨#[97]⟩ ⟨#[120]⟩) true := by
  unfold client_Auth.f
  refine Ev.bind (Ev.const (find0 _)) (Ev.if_pos rfl (Ev.if_neg (by decide +kernel) ?_))
  exact Ev.bind (equal_f ⟨#[120]⟩ ⟨#[120]⟩ (by decide) (by decide)) (Ev.some _)
theorem auth_no : Ev (fun k => client_Auth.f k IB ⟨#[107]⟩ ⟨#[115]⟩ [cl0] [] ⟨#[97]⟩ ⟨#[121]⟩) false := by
  unfold client_Auth.f
  refine Ev.bind (Ev.const (find0 _)) (Ev.if_pos rfl (Ev.if_neg (by decide +kernel) ?_))
  exact Ev.bind (equal_f ⟨#[120]⟩ ⟨#[121]⟩ (by decide) (by decide)) (Ev.const (by decide))
theorem row1 {α : Type} (d : Kd α) {w : World} {b e : Nat} {x : α} {c : List Value} (hb : w.heap[b]? = some (.cells c.toArray e (0, 0))) (hK : d.K w x c) : d.C w (some ⟨b, 0, none⟩) 1 [x] := by
  refine ⟨rfl, by decide, fun _ => ⟨_, rfl, fun j p hj => ⟨c, d.K_len hK, ?_, fun i u hu => ?_⟩⟩⟩
  · match j, hj with
    | 0, hj => obtain rfl := Option.some.inj hj; exact hK
  · match j, hj with
    | 0, hj =>
      rw [Nat.zero_mul, Nat.zero_add, Addr.add_lit, Nat.zero_add, cell_of_row w b _ _ e (0, 0) hb, List.getElem?_toArray]
      exact hu
def exequaturlaw16_answers.f : Option Bool := some true
set_option maxHeartbeats 4000000 in
set_option maxRecDepth 100000 in
theorem exequaturlaw16_answers.calls (r : Bool) (w : World) (h : exequaturlaw16_answers.f = some r) (hG : GOK w := by first | assumption | exact hG | exact GOK.drewN _ hG | exact GOK.below hG (by repeat (first | (with_reducible first | exact HB.out | apply below_alloc | apply pw_below_drewN | apply below_drew1 | refine below_set ?_ (Aside0.out (by assumption))) | exact HB.out))) :
    Calls Tryd.prog 7 #[] w fun e w' => e = .returned (.bool r) ∧ Below w.heap.size w w' := by
  have hu := Tryd.underlying31
  have hu2 := Tryd.underlying25
  have hu3 := Tryd.underlying28
  obtain rfl := Option.some.inj h
  obtain ⟨k1, hk1⟩ := auth_yes.get
  obtain ⟨k2, hk2⟩ := auth_no.get
  have HK1 := Aside0.mk hk1
  have HK2 := Aside0.mk hk2
  have HG := Aside0.mk hG
  obtain ⟨b0, b1, b2, b3⟩ := boxes3 w (.cells #[.string ⟨#[104, 116, 116, 112, 58, 47, 47, 114]⟩] 9) (.cells #[.string ⟨#[97]⟩, .string ⟨#[120]⟩, .slice (some ⟨w.heap.size, 0, none⟩) 1 1] 25) (.cells #[.string ⟨#[104, 116, 116, 112, 115, 58, 47, 47, 98]⟩, .string ⟨#[107]⟩, .string ⟨#[115]⟩, .slice (some ⟨w.heap.size + 1, 0, none⟩) 1 1, .slice none 0 0] 31)
  have HB := Aside0.mk (below_alloc (below_alloc (below_alloc (Below.refl _ w) (.cells #[.string ⟨#[104, 116, 116, 112, 58, 47, 47, 114]⟩] 9)) (.cells #[.string ⟨#[97]⟩, .string ⟨#[120]⟩, .slice (some ⟨w.heap.size, 0, none⟩) 1 1] 25)) (.cells #[.string ⟨#[104, 116, 116, 112, 115, 58, 47, 47, 98]⟩, .string ⟨#[107]⟩, .string ⟨#[115]⟩, .slice (some ⟨w.heap.size + 1, 0, none⟩) 1 1, .slice none 0 0] 31))
  have HC := Aside0.mk (row1 k25 (x := cl0) (c := [.string ⟨#[97]⟩, .string ⟨#[120]⟩, .slice (some ⟨w.heap.size, 0, none⟩) 1 1]) b1 (k25_mk _ cl0 (A2 := some ⟨w.heap.size, 0, none⟩) (c2 := 1) (Nat.le_refl 1) (row1 Kd.string (x := RB) (c := [.string ⟨#[104, 116, 116, 112, 58, 47, 47, 114]⟩]) b0 rfl)))
  have BK := Aside0.mk b2
  have HSZ := Aside0.mk (show (((w.alloc (.cells #[.string ⟨#[104, 116, 116, 112, 58, 47, 47, 114]⟩] 9)).alloc (.cells #[.string ⟨#[97]⟩, .string ⟨#[120]⟩, .slice (some ⟨w.heap.size, 0, none⟩) 1 1] 25)).alloc (.cells #[.string ⟨#[104, 116, 116, 112, 115, 58, 47, 47, 98]⟩, .string ⟨#[107]⟩, .string ⟨#[115]⟩, .slice (some ⟨w.heap.size + 1, 0, none⟩) 1 1, .slice none 0 0] 31)).heap.size = w.heap.size + 1 + 1 + 1 from b3)
  clear b0 b1 b2 b3 hG h hk1 hk2
  go_enter Tryd.func7, Tryd.ntmps7
  go_wp2_with fail
  refine (client_Good.calls IB ⟨#[107]⟩ ⟨#[115]⟩ (some ⟨w.heap.size + 1, 0, none⟩) 1 [cl0] none 0 [] true _ HC.out (Nat.le_refl 1) (Kd.C_nil _ _) (Nat.le_refl 0) good_f0 (hG := HG.out.below HB.out)).mono ?_
  rintro e w1 ⟨rfl, hb⟩
  have HC1 := Aside0.mk (Kd.C_below HC.out hb)
  have HB1 := Aside0.mk (below_step HB.out hb)
  have BK1 := Aside0.mk (blk_below BK.out hb)
  clear hb HC HB BK HSZ
  obtain ⟨d0, d1, d2, d3, d4⟩ := cells5 BK1.out
  go_wp2_with fail
  refine (client_Auth.calls k1 IB ⟨#[107]⟩ ⟨#[115]⟩ (some ⟨w.heap.size + 1, 0, none⟩) 1 [cl0] none 0 [] ⟨#[97]⟩ ⟨#[120]⟩ true _ HC1.out (Nat.le_refl 1) (Kd.C_nil _ _) (Nat.le_refl 0) HK1.out).mono ?_
  rintro e w2 ⟨rfl, hb⟩
  have HC2 := Aside0.mk (Kd.C_below HC1.out hb)
  have HB2 := Aside0.mk (below_step HB1.out hb)
  have BK2 := Aside0.mk (blk_below BK1.out hb)
  clear hb HC1 HB1 BK1 d0 d1 d2 d3 d4
  obtain ⟨d0, d1, d2, d3, d4⟩ := cells5 BK2.out
  go_wp2_with fail
  refine (client_Auth.calls k2 IB ⟨#[107]⟩ ⟨#[115]⟩ (some ⟨w.heap.size + 1, 0, none⟩) 1 [cl0] none 0 [] ⟨#[97]⟩ ⟨#[121]⟩ false _ HC2.out (Nat.le_refl 1) (Kd.C_nil _ _) (Nat.le_refl 0) HK2.out).mono ?_
  rintro e w3 ⟨rfl, hb⟩
  have HB3 := Aside0.mk (below_step HB2.out hb)
  clear hb
  go_wp2
  go_ret
  exact ⟨rfl, HB3.out⟩
end Go.Proofs.YtkcgalpagpgfhaaDoor.X
