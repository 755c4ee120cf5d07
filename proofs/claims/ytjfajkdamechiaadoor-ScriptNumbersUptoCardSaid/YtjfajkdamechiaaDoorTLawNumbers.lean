/- ScriptNumbers: its walk. -/
import Derived.Test.YtjfajkdamechiaaDoorHPure
import Derived.Test.YtjfajkdamechiaaDoorX9
import Derived.WalkKit
namespace Go.Proofs.YtjfajkdamechiaaDoor.X
open Go.RowKit Go.Proofs.YtjfajkdamechiaaDoorW.PrintWords Go.Proofs.YtjfajkdamechiaaDoorW.PrintLast Go.Proofs.YtjfajkdamechiaaDoorW.PrintMore Go.Proofs.YtjfajkdamechiaaDoor.Spec
set_option linter.unusedVariables false
set_option linter.unusedSimpArgs false

theorem two_C {w : World} {b : Nat} {x : S36} {c : List Value} (hb : w.heap[b]? = some (.cells (c ++ c).toArray 36 (0, 0))) (hK : k36.K w x c) : k36.C w (some ⟨b, 0, none⟩) 2 [x, x] := by
  have hl : c.length = 13 := k36.K_len hK
  refine ⟨rfl, by decide, fun _ => ⟨_, rfl, fun j p hj => ⟨c, hl, ?_, fun i u hu => ?_⟩⟩⟩
  · match j, hj with
    | 0, hj => obtain rfl := Option.some.inj hj; exact hK
    | 1, hj => obtain rfl := Option.some.inj hj; exact hK
  · have hi : i < c.length := (List.getElem?_eq_some_iff.1 hu).1
    have e : (⟨b, 0, none⟩ : Addr).add (j * k36.sz + i) = ⟨b, j * 13 + i, none⟩ := by
      rw [Addr.add_lit, show k36.sz = 13 from rfl, Nat.zero_add]
    rw [e, cell_of_row w b _ _ 36 (0, 0) hb, List.getElem?_toArray]
    match j, hj with
    | 0, hj => rw [Nat.zero_mul, Nat.zero_add, List.getElem?_append_left hi]; exact hu
    | 1, hj => rw [List.getElem?_append_right (by omega), show 1 * 13 + i - c.length = i from by omega]; exact hu
theorem three_C (w : World) (b : ByteArray) : Kd.C Kd.string (w.alloc (.cells #[.string b, .string ⟨#[]⟩, .string b] 9)) (some ⟨w.heap.size, 0, none⟩) 3 [b, ⟨#[]⟩, b] :=
  Kd.C_of_reads (d := ByteArray.empty) ⟨rfl, by decide, fun _ => ⟨_, rfl, fun j hj => by
    rw [Addr.add_lit, Nat.zero_add, World.cell?_alloc_new]
    match j, hj with
    | 0, _ => rfl
    | 1, _ => rfl
    | 2, _ => rfl⟩⟩

theorem boxes3 (w : World) (a b c : Obj) : (((w.alloc a).alloc b).alloc c).heap[w.heap.size]? = some a ∧ (((w.alloc a).alloc b).alloc c).heap[w.heap.size + 1]? = some b ∧ (((w.alloc a).alloc b).alloc c).heap[w.heap.size + 1 + 1]? = some c ∧ (((w.alloc a).alloc b).alloc c).heap.size = w.heap.size + 1 + 1 + 1 := by
  have s1 : (w.alloc a).heap.size = w.heap.size + 1 := by simp
  have s2 : ((w.alloc a).alloc b).heap.size = w.heap.size + 1 + 1 := by simp
  have h1 := blk_new (w.alloc a) b
  rw [s1] at h1
  have h2 := blk_new ((w.alloc a).alloc b) c
  rw [s2] at h2
  exact ⟨blk_alloc (blk_alloc (blk_new w a) _) _, blk_alloc h1 _, h2, by simp⟩
def numS (a0 a1 : Int) (b : ByteArray) : S36 := ⟨a0, a1, ⟨⟨#[]⟩, ⟨#[]⟩, ⟨#[]⟩, ⟨#[]⟩, ⟨#[]⟩, ⟨#[]⟩⟩, b, ⟨#[]⟩, ⟨#[]⟩, ⟨#[]⟩, [b, ⟨#[]⟩, b]⟩
theorem num_ok (a0 a1 : Int) (b : ByteArray) (h : in64 a0 ∧ in64 a1 ∧ b.size ≤ 1048576) : stOk (numS a0 a1 b) ∧ (lineL (numS a0 a1 b)).length ≤ 20000000 := by
  have hz : szs (stW (numS a0 a1 b)) = 3 * b.size + 13 := by
    have e : stW (numS a0 a1 b) = [⟨#[]⟩, ⟨#[]⟩, ⟨#[]⟩, ⟨#[]⟩, ⟨#[]⟩, ⟨#[]⟩, b, ⟨#[]⟩, ⟨#[]⟩, ⟨#[]⟩, b, ⟨#[]⟩, b] := rfl
    rw [e]
    simp only [szs_cons, show szs ([] : List ByteArray) = 0 from rfl, show (⟨#[]⟩ : ByteArray).size = 0 from rfl]
    omega
  have hok : stOk (numS a0 a1 b) := ⟨h.1, h.2.1, by omega⟩
  have := lineB_length _ hok
  refine ⟨hok, ?_⟩
  simp only [lineL, List.length_append, List.length_cons, List.length_nil]
  omega
def exequaturlaw24_ScriptNumbers.f (a0 a1 : Int) (a2 : ByteArray) : Option Bool := if in64 a0 ∧ in64 a1 ∧ a2.size ≤ 1048576 then some true else none
set_option maxHeartbeats 8000000 in
set_option maxRecDepth 100000 in
theorem exequaturlaw24_ScriptNumbers.calls (a0 a1 : Int) (a2 : ByteArray) (r : Bool) (w : World) (h : exequaturlaw24_ScriptNumbers.f a0 a1 a2 = some r) (hG : GOK w := by first | assumption | exact hG | exact GOK.drewN _ hG | exact GOK.below hG (by repeat (first | (with_reducible first | exact HB.out | apply below_alloc | apply pw_below_drewN | apply below_drew1 | refine below_set ?_ (Aside0.out (by assumption))) | exact HB.out))) :
    Calls Tryd.prog 7 #[.int .i64 a0, .int .i64 a1, .string a2] w fun e w' => e = .returned (.bool r) ∧ Below w.heap.size w w' := by
  have hu := Tryd.underlying36
  have hu2 := Tryd.underlying34
  unfold exequaturlaw24_ScriptNumbers.f at h
  split at h
  case isFalse => cases h
  rename_i hs
  obtain rfl := Option.some.inj h
  clear h
  obtain ⟨ka, hka⟩ := answers_ev.get
  have HKA := Aside0.mk hka
  have HG := Aside0.mk hG
  have HS := Aside0.mk hs
  clear hka hG hs
  by_cases h5 : 500 < a2.size
  · have h5d : decide ((a2.size : Int) > 500) = true := decide_eq_true (by omega)
    have h5e : decide ((500 : Int) < (a2.size : Int)) = true := decide_eq_true (by omega)
    clear h5
    go_enter Tryd.func7, Tryd.ntmps7
    go_wp2_with fail
    refine (exequaturlaw24_answers.calls ka true w HKA.out (hG := HG.out)).mono ?_
    rintro e w1 ⟨rfl, hb⟩
    have HB := Aside0.mk hb
    clear hb
    go_wp2
    go_ret
    exact ⟨rfl, HB.out⟩
  · have h5d : decide ((a2.size : Int) > 500) = false := decide_eq_false (by omega)
    have h5e : decide ((500 : Int) < (a2.size : Int)) = false := decide_eq_false (by omega)
    have H5 := Aside0.mk h5
    clear h5
    go_enter Tryd.func7, Tryd.ntmps7
    go_wp2_with fail
    have hok := num_ok a0 a1 a2 HS.out
    obtain ⟨x, hx⟩ : ∃ x, numS a0 a1 a2 = x := ⟨_, rfl⟩
    have hKx : ∀ W : World, Kd.C Kd.string W (some ⟨w.heap.size, 0, none⟩) 3 [a2, ⟨#[]⟩, a2] → k36.K W x [.int .i64 a0, .int .i64 a1, .string ⟨#[]⟩, .string ⟨#[]⟩, .string ⟨#[]⟩, .string ⟨#[]⟩, .string ⟨#[]⟩, .string ⟨#[]⟩, .string a2, .string ⟨#[]⟩, .string ⟨#[]⟩, .string ⟨#[]⟩, .slice (some ⟨w.heap.size, 0, none⟩) 3 3] := fun W hc => hx ▸ k36_mk W (numS a0 a1 a2) (A12 := some ⟨w.heap.size, 0, none⟩) (c12 := 3) (Nat.le_refl 3) hc
    rw [hx] at hok
    have hok2 : ∀ s ∈ [x, x], stOk s := fun s hs => by rcases List.mem_cons.1 hs with rfl | hs; exact hok.1; rw [List.mem_singleton.1 hs]; exact hok.1
    have htl : (textL [x, x]).length ≤ 60000000 := by have := hok.2; simp only [textL, List.flatMap_cons, List.flatMap_nil, List.length_append, List.length_nil]; omega
    have HP := Aside0.mk (print_f [x, x] hok2 (by simp) htl)
    obtain ⟨kp, hkp⟩ := (parse_f (textL [x, x]) (by omega)).get
    rw [parse_text [x, x] hok2] at hkp
    have HPA := Aside0.mk hkp
    obtain ⟨ks, hks⟩ := (same_ev [x, x] hok2 (by simp)).get
    have HSA := Aside0.mk hks
    have HKX := Aside0.mk hKx
    clear hok hx hkp hks hok2 htl hKx
    obtain ⟨b0, b1, b2, b3⟩ := boxes3 w (.cells #[.string a2, .string ⟨#[]⟩, .string a2] 9) (.cells #[.int .i64 a0, .int .i64 a1, .string ⟨#[]⟩, .string ⟨#[]⟩, .string ⟨#[]⟩, .string ⟨#[]⟩, .string ⟨#[]⟩, .string ⟨#[]⟩, .string a2, .string ⟨#[]⟩, .string ⟨#[]⟩, .string ⟨#[]⟩, .slice (some ⟨w.heap.size, 0, none⟩) 3 3] 36) (.cells #[.int .i64 a0, .int .i64 a1, .string ⟨#[]⟩, .string ⟨#[]⟩, .string ⟨#[]⟩, .string ⟨#[]⟩, .string ⟨#[]⟩, .string ⟨#[]⟩, .string a2, .string ⟨#[]⟩, .string ⟨#[]⟩, .string ⟨#[]⟩, .slice (some ⟨w.heap.size, 0, none⟩) 3 3, .int .i64 a0, .int .i64 a1, .string ⟨#[]⟩, .string ⟨#[]⟩, .string ⟨#[]⟩, .string ⟨#[]⟩, .string ⟨#[]⟩, .string ⟨#[]⟩, .string a2, .string ⟨#[]⟩, .string ⟨#[]⟩, .string ⟨#[]⟩, .slice (some ⟨w.heap.size, 0, none⟩) 3 3] 36)
    have HC3 := Aside0.mk (Kd.C_alloc (Kd.C_alloc (three_C w a2) (.cells #[.int .i64 a0, .int .i64 a1, .string ⟨#[]⟩, .string ⟨#[]⟩, .string ⟨#[]⟩, .string ⟨#[]⟩, .string ⟨#[]⟩, .string ⟨#[]⟩, .string a2, .string ⟨#[]⟩, .string ⟨#[]⟩, .string ⟨#[]⟩, .slice (some ⟨w.heap.size, 0, none⟩) 3 3] 36)) (.cells #[.int .i64 a0, .int .i64 a1, .string ⟨#[]⟩, .string ⟨#[]⟩, .string ⟨#[]⟩, .string ⟨#[]⟩, .string ⟨#[]⟩, .string ⟨#[]⟩, .string a2, .string ⟨#[]⟩, .string ⟨#[]⟩, .string ⟨#[]⟩, .slice (some ⟨w.heap.size, 0, none⟩) 3 3, .int .i64 a0, .int .i64 a1, .string ⟨#[]⟩, .string ⟨#[]⟩, .string ⟨#[]⟩, .string ⟨#[]⟩, .string ⟨#[]⟩, .string ⟨#[]⟩, .string a2, .string ⟨#[]⟩, .string ⟨#[]⟩, .string ⟨#[]⟩, .slice (some ⟨w.heap.size, 0, none⟩) 3 3] 36))
    have HCC := Aside0.mk (two_C (c := [.int .i64 a0, .int .i64 a1, .string ⟨#[]⟩, .string ⟨#[]⟩, .string ⟨#[]⟩, .string ⟨#[]⟩, .string ⟨#[]⟩, .string ⟨#[]⟩, .string a2, .string ⟨#[]⟩, .string ⟨#[]⟩, .string ⟨#[]⟩, .slice (some ⟨w.heap.size, 0, none⟩) 3 3]) b2 (HKX.out _ HC3.out))
    have HB := Aside0.mk (below_alloc (below_alloc (below_alloc (Below.refl _ w) (.cells #[.string a2, .string ⟨#[]⟩, .string a2] 9)) (.cells #[.int .i64 a0, .int .i64 a1, .string ⟨#[]⟩, .string ⟨#[]⟩, .string ⟨#[]⟩, .string ⟨#[]⟩, .string ⟨#[]⟩, .string ⟨#[]⟩, .string a2, .string ⟨#[]⟩, .string ⟨#[]⟩, .string ⟨#[]⟩, .slice (some ⟨w.heap.size, 0, none⟩) 3 3] 36)) (.cells #[.int .i64 a0, .int .i64 a1, .string ⟨#[]⟩, .string ⟨#[]⟩, .string ⟨#[]⟩, .string ⟨#[]⟩, .string ⟨#[]⟩, .string ⟨#[]⟩, .string a2, .string ⟨#[]⟩, .string ⟨#[]⟩, .string ⟨#[]⟩, .slice (some ⟨w.heap.size, 0, none⟩) 3 3, .int .i64 a0, .int .i64 a1, .string ⟨#[]⟩, .string ⟨#[]⟩, .string ⟨#[]⟩, .string ⟨#[]⟩, .string ⟨#[]⟩, .string ⟨#[]⟩, .string a2, .string ⟨#[]⟩, .string ⟨#[]⟩, .string ⟨#[]⟩, .slice (some ⟨w.heap.size, 0, none⟩) 3 3] 36))
    have BK1 := Aside0.mk b1
    have hsz : (((w.alloc (.cells #[.string a2, .string ⟨#[]⟩, .string a2] 9)).alloc (.cells #[.int .i64 a0, .int .i64 a1, .string ⟨#[]⟩, .string ⟨#[]⟩, .string ⟨#[]⟩, .string ⟨#[]⟩, .string ⟨#[]⟩, .string ⟨#[]⟩, .string a2, .string ⟨#[]⟩, .string ⟨#[]⟩, .string ⟨#[]⟩, .slice (some ⟨w.heap.size, 0, none⟩) 3 3] 36)).alloc (.cells #[.int .i64 a0, .int .i64 a1, .string ⟨#[]⟩, .string ⟨#[]⟩, .string ⟨#[]⟩, .string ⟨#[]⟩, .string ⟨#[]⟩, .string ⟨#[]⟩, .string a2, .string ⟨#[]⟩, .string ⟨#[]⟩, .string ⟨#[]⟩, .slice (some ⟨w.heap.size, 0, none⟩) 3 3, .int .i64 a0, .int .i64 a1, .string ⟨#[]⟩, .string ⟨#[]⟩, .string ⟨#[]⟩, .string ⟨#[]⟩, .string ⟨#[]⟩, .string ⟨#[]⟩, .string a2, .string ⟨#[]⟩, .string ⟨#[]⟩, .string ⟨#[]⟩, .slice (some ⟨w.heap.size, 0, none⟩) 3 3] 36)).heap.size = w.heap.size + 1 + 1 + 1 := b3
    have HSZ := Aside0.mk hsz
    clear b0 b1 b2 b3 hsz
    refine (script_Print.calls (some ⟨w.heap.size + 1 + 1, 0, none⟩) 2 [x, x] (ba (textL [x, x])) _ HCC.out (Nat.le_refl 2) HP.out (hG := HG.out.below HB.out)).mono ?_
    rintro e w1 ⟨rfl, hb⟩
    have BK1' := Aside0.mk (blk_below BK1.out hb)
    have HC3' := Aside0.mk (Kd.C_below HC3.out hb)
    have HB' := Aside0.mk (below_step HB.out hb)
    clear hb BK1 HC3 HB HCC HSZ
    go_wp2_with fail
    refine (script_Parse.calls kp (ba (textL [x, x])) [x, x] 0 0 w1 HPA.out (hG := HG.out.below HB'.out)).mono ?_
    rintro e w2 ⟨v, rfl, hN, hb⟩
    obtain ⟨A, c, rfl, hlc, hCN⟩ := Kd.N_reads hN
    have HN := Aside0.mk (show k36.C w2 A 2 [x, x] from hCN)
    have hlc2 : 2 ≤ c := hlc
    have BK2 := Aside0.mk (blk_below BK1'.out hb)
    have HC4 := Aside0.mk (Kd.C_below HC3'.out hb)
    have HB2 := Aside0.mk (below_step HB'.out hb)
    clear hb BK1' HC3' HB' hN hCN hlc
    go_wp2_with fail
    refine (exequaturlaw24_answers.calls ka true w2 HKA.out (hG := HG.out.below HB2.out)).mono ?_
    rintro e w3 ⟨rfl, hb⟩
    have BK3 := Aside0.mk (blk_below BK2.out hb)
    have HC5 := Aside0.mk (Kd.C_below HC4.out hb)
    have HB3 := Aside0.mk (below_step HB2.out hb)
    have HN3 := Aside0.mk (Kd.C_below HN.out hb)
    clear hb BK2 HC4 HB2 HN
    obtain ⟨d0, d1, d2, d3, d4, d5, d6, d7, d8, d9, d10, d11, d12⟩ := cells13 BK3.out
    have hb4 := blk_new w3 (.cells #[.int .i64 a0, .int .i64 a1, .string ⟨#[]⟩, .string ⟨#[]⟩, .string ⟨#[]⟩, .string ⟨#[]⟩, .string ⟨#[]⟩, .string ⟨#[]⟩, .string a2, .string ⟨#[]⟩, .string ⟨#[]⟩, .string ⟨#[]⟩, .slice (some ⟨w.heap.size, 0, none⟩) 3 3, .int .i64 a0, .int .i64 a1, .string ⟨#[]⟩, .string ⟨#[]⟩, .string ⟨#[]⟩, .string ⟨#[]⟩, .string ⟨#[]⟩, .string ⟨#[]⟩, .string a2, .string ⟨#[]⟩, .string ⟨#[]⟩, .string ⟨#[]⟩, .slice (some ⟨w.heap.size, 0, none⟩) 3 3] 36)
    have HCC := Aside0.mk (two_C (c := [.int .i64 a0, .int .i64 a1, .string ⟨#[]⟩, .string ⟨#[]⟩, .string ⟨#[]⟩, .string ⟨#[]⟩, .string ⟨#[]⟩, .string ⟨#[]⟩, .string a2, .string ⟨#[]⟩, .string ⟨#[]⟩, .string ⟨#[]⟩, .slice (some ⟨w.heap.size, 0, none⟩) 3 3]) hb4 (HKX.out _ (Kd.C_alloc HC5.out (.cells #[.int .i64 a0, .int .i64 a1, .string ⟨#[]⟩, .string ⟨#[]⟩, .string ⟨#[]⟩, .string ⟨#[]⟩, .string ⟨#[]⟩, .string ⟨#[]⟩, .string a2, .string ⟨#[]⟩, .string ⟨#[]⟩, .string ⟨#[]⟩, .slice (some ⟨w.heap.size, 0, none⟩) 3 3, .int .i64 a0, .int .i64 a1, .string ⟨#[]⟩, .string ⟨#[]⟩, .string ⟨#[]⟩, .string ⟨#[]⟩, .string ⟨#[]⟩, .string ⟨#[]⟩, .string a2, .string ⟨#[]⟩, .string ⟨#[]⟩, .string ⟨#[]⟩, .slice (some ⟨w.heap.size, 0, none⟩) 3 3] 36))))
    have HN4 := Aside0.mk (Kd.C_alloc HN3.out (.cells #[.int .i64 a0, .int .i64 a1, .string ⟨#[]⟩, .string ⟨#[]⟩, .string ⟨#[]⟩, .string ⟨#[]⟩, .string ⟨#[]⟩, .string ⟨#[]⟩, .string a2, .string ⟨#[]⟩, .string ⟨#[]⟩, .string ⟨#[]⟩, .slice (some ⟨w.heap.size, 0, none⟩) 3 3, .int .i64 a0, .int .i64 a1, .string ⟨#[]⟩, .string ⟨#[]⟩, .string ⟨#[]⟩, .string ⟨#[]⟩, .string ⟨#[]⟩, .string ⟨#[]⟩, .string a2, .string ⟨#[]⟩, .string ⟨#[]⟩, .string ⟨#[]⟩, .slice (some ⟨w.heap.size, 0, none⟩) 3 3] 36))
    have HB4 := Aside0.mk (below_alloc HB3.out (.cells #[.int .i64 a0, .int .i64 a1, .string ⟨#[]⟩, .string ⟨#[]⟩, .string ⟨#[]⟩, .string ⟨#[]⟩, .string ⟨#[]⟩, .string ⟨#[]⟩, .string a2, .string ⟨#[]⟩, .string ⟨#[]⟩, .string ⟨#[]⟩, .slice (some ⟨w.heap.size, 0, none⟩) 3 3, .int .i64 a0, .int .i64 a1, .string ⟨#[]⟩, .string ⟨#[]⟩, .string ⟨#[]⟩, .string ⟨#[]⟩, .string ⟨#[]⟩, .string ⟨#[]⟩, .string a2, .string ⟨#[]⟩, .string ⟨#[]⟩, .string ⟨#[]⟩, .slice (some ⟨w.heap.size, 0, none⟩) 3 3] 36))
    clear hb4
    go_wp2_with fail
    refine (exequaturlaw24_same.calls ks A c [x, x] (some ⟨w3.heap.size, 0, none⟩) 2 [x, x] true _ HN4.out hlc2 HCC.out (Nat.le_refl 2) HSA.out).mono ?_
    rintro e w5 ⟨rfl, hb⟩
    have HB5 := Aside0.mk (below_step HB4.out hb)
    clear hb
    go_wp2
    go_ret
    exact ⟨rfl, HB5.out⟩
end Go.Proofs.YtjfajkdamechiaaDoor.X
