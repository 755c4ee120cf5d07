/- script.step: the step of a line. -/
import Derived.Test.YtjfajkdamechiaaDoorHStepP
import Derived.Test.YtjfajkdamechiaaDoorHSet
import Derived.WalkKit
import Derived.Deep.LoopGhost
import Derived.IntWalk
namespace Go.Proofs.YtjfajkdamechiaaDoor.X
open Go.RowKit Go.Proofs.YtjfajkdamechiaaDoorW.PrintWords Go.Proofs.YtjfajkdamechiaaDoorW.PrintLast Go.Proofs.YtjfajkdamechiaaDoorW.PrintMore Go.Proofs.YtjfajkdamechiaaDoor.Spec
set_option linter.unusedVariables false
set_option linter.unusedSimpArgs false

theorem istr : (Tryd.prog.info? 9).map (fun i => (i.zero, i.size, i.bytes)) = some (some (.string ⟨#[]⟩), 1, 16) := by kernel_rfl
theorem one_C (w : World) (x : ByteArray) : Kd.C Kd.string (w.alloc (.cells #[.string x] 9)) (some ⟨w.heap.size, 0, none⟩) 1 [x] :=
  Kd.C_of_reads (d := ByteArray.empty) ⟨rfl, by decide, fun _ => ⟨_, rfl, fun j hj => by
    obtain rfl : j = 0 := by omega
    have h := World.cell?_alloc_new w #[.string x] 9 0
    rw [Addr.add_lit, h]
    rfl⟩⟩
theorem ret13 {g : Nat} {w : World} {tmps : Array Value} {u0 u1 u2 u3 u4 u5 u6 u7 u8 u9 u10 u11 u12 v : Value} {Q : Ending → World → Prop}
    (h : w.heap[g]? = some (.cells #[u0, u1, u2, u3, u4, u5, u6, u7, u8, u9, u10, u11, u12] 36 (0, 0))) (h2 : tmps.getD 2 undef = .pointer (some ⟨g, 0, none⟩)) (h3 : tmps.getD 3 undef = v)
    (hQ : Q (.returned (.tuple #[.agg #[u0, u1, u2, u3, u4, u5, u6, u7, u8, u9, u10, u11, u12], v])) w) : bodyPost Tryd.prog Tryd.f18 Q .ret ⟨tmps, []⟩ w := by
  subst h3
  exact bodyPost_ret (results_ct rfl _ _ g 36 #[u0, u1, u2, u3, u4, u5, u6, u7, u8, u9, u10, u11, u12] (0, 0) _ h2 h Tryd.underlying36 rfl (by kernel_rfl)) rfl hQ
def Z13 : Array Value := #[.int .i64 0, .int .i64 0, .string ⟨#[]⟩, .string ⟨#[]⟩, .string ⟨#[]⟩, .string ⟨#[]⟩, .string ⟨#[]⟩, .string ⟨#[]⟩, .string ⟨#[]⟩, .string ⟨#[]⟩, .string ⟨#[]⟩, .string ⟨#[]⟩, .slice none 0 0]
theorem fill13 {g t : Nat} {w : World} {u0 u1 u2 u3 u4 u5 u6 u7 u8 u9 u10 u11 u12 v0 v1 v2 v3 v4 v5 v6 v7 v8 v9 v10 v11 v12 : Value} (h : w.heap[g]? = some (.cells #[v0, v1, v2, v3, v4, v5, v6, v7, v8, v9, v10, v11, v12] t (0, 0))) :
    (((((((((((((w.setCell ⟨g, 0, none⟩ u0).setCell ⟨g, 1, none⟩ u1).setCell ⟨g, 2, none⟩ u2).setCell ⟨g, 3, none⟩ u3).setCell ⟨g, 4, none⟩ u4).setCell ⟨g, 5, none⟩ u5).setCell ⟨g, 6, none⟩ u6).setCell ⟨g, 7, none⟩ u7).setCell ⟨g, 8, none⟩ u8).setCell ⟨g, 9, none⟩ u9).setCell ⟨g, 10, none⟩ u10).setCell ⟨g, 11, none⟩ u11).setCell ⟨g, 12, none⟩ u12).heap[g]? = some (.cells #[u0, u1, u2, u3, u4, u5, u6, u7, u8, u9, u10, u11, u12] t (0, 0)) :=
  fillR (us := [u0, u1, u2, u3, u4, u5, u6, u7, u8, u9, u10, u11, u12]) (cs := [v0, v1, v2, v3, v4, v5, v6, v7, v8, v9, v10, v11, v12]) rfl rfl h rfl
theorem bel13 {B g : Nat} {w0 w : World} {u0 u1 u2 u3 u4 u5 u6 u7 u8 u9 u10 u11 u12 : Value} (h : Below B w0 w) (hg : B ≤ g) : Below B w0 (((((((((((((w.setCell ⟨g, 0, none⟩ u0).setCell ⟨g, 1, none⟩ u1).setCell ⟨g, 2, none⟩ u2).setCell ⟨g, 3, none⟩ u3).setCell ⟨g, 4, none⟩ u4).setCell ⟨g, 5, none⟩ u5).setCell ⟨g, 6, none⟩ u6).setCell ⟨g, 7, none⟩ u7).setCell ⟨g, 8, none⟩ u8).setCell ⟨g, 9, none⟩ u9).setCell ⟨g, 10, none⟩ u10).setCell ⟨g, 11, none⟩ u11).setCell ⟨g, 12, none⟩ u12) := bel_all hg [u0, u1, u2, u3, u4, u5, u6, u7, u8, u9, u10, u11, u12] 0 w h
theorem far13 {g k : Nat} {w : World} {u0 u1 u2 u3 u4 u5 u6 u7 u8 u9 u10 u11 u12 : Value} (hk : k ≠ g) : (((((((((((((w.setCell ⟨g, 0, none⟩ u0).setCell ⟨g, 1, none⟩ u1).setCell ⟨g, 2, none⟩ u2).setCell ⟨g, 3, none⟩ u3).setCell ⟨g, 4, none⟩ u4).setCell ⟨g, 5, none⟩ u5).setCell ⟨g, 6, none⟩ u6).setCell ⟨g, 7, none⟩ u7).setCell ⟨g, 8, none⟩ u8).setCell ⟨g, 9, none⟩ u9).setCell ⟨g, 10, none⟩ u10).setCell ⟨g, 11, none⟩ u11).setCell ⟨g, 12, none⟩ u12).heap[k]? = w.heap[k]? := setAll_other hk [u0, u1, u2, u3, u4, u5, u6, u7, u8, u9, u10, u11, u12] 0 w
theorem drewH (W : World) (k : Nat) : W.drew.heap[k]? = W.heap[k]? := rfl
theorem bel6_ {B g : Nat} {w0 w : World} {u0 u1 u2 u3 u4 u5 : Value} (h : Below B w0 w) (hg : B ≤ g) : Below B w0 ((((((w.setCell ⟨g, 2, none⟩ (u0)).setCell ⟨g, 3, none⟩ (u1)).setCell ⟨g, 4, none⟩ (u2)).setCell ⟨g, 5, none⟩ (u3)).setCell ⟨g, 6, none⟩ (u4)).setCell ⟨g, 7, none⟩ (u5)) := bel_all hg [u0, u1, u2, u3, u4, u5] 2 w h
theorem put6a {g t : Nat} {w : World} {u0 u1 u2 u3 u4 u5 w2 w3 w4 w5 w6 w7 v0 v1 v8 v9 v10 v11 v12 : Value} (h : w.heap[g]? = some (.cells #[v0, v1, w2, w3, w4, w5, w6, w7, v8, v9, v10, v11, v12] t (0, 0))) :
    ((((((w.setCell ⟨g, 2, none⟩ (u0)).setCell ⟨g, 3, none⟩ (u1)).setCell ⟨g, 4, none⟩ (u2)).setCell ⟨g, 5, none⟩ (u3)).setCell ⟨g, 6, none⟩ (u4)).setCell ⟨g, 7, none⟩ (u5)).heap[g]? = some (.cells #[v0, v1, u0, u1, u2, u3, u4, u5, v8, v9, v10, v11, v12] t (0, 0)) := by
  have e : ((((((w.setCell ⟨g, 2, none⟩ (u0)).setCell ⟨g, 3, none⟩ (u1)).setCell ⟨g, 4, none⟩ (u2)).setCell ⟨g, 5, none⟩ (u3)).setCell ⟨g, 6, none⟩ (u4)).setCell ⟨g, 7, none⟩ (u5)) = setAll w g 2 [u0, u1, u2, u3, u4, u5] := rfl
  rw [e]
  exact fillM [v0, v1] [u0, u1, u2, u3, u4, u5] [w2, w3, w4, w5, w6, w7] [v8, v9, v10, v11, v12] h rfl
theorem put6_ {g t : Nat} {w : World} {u0 u1 u2 u3 u4 u5 w2 w3 w4 w5 w6 w7 v0 v1 v8 v9 v10 v11 v12 : Value} (h : w.heap[g]? = some (.cells #[v0, v1, w2, w3, w4, w5, w6, w7, v8, v9, v10, v11, v12] t (0, 0))) :
    ((((((w.setCell ⟨g, 2, none⟩ (u0)).setCell ⟨g, 3, none⟩ (u1)).setCell ⟨g, 4, none⟩ (u2)).setCell ⟨g, 5, none⟩ (u3)).setCell ⟨g, 6, none⟩ (u4)).setCell ⟨g, 7, none⟩ (u5)).drew.heap[g]? = some (.cells #[v0, v1, u0, u1, u2, u3, u4, u5, v8, v9, v10, v11, v12] t (0, 0)) := by
  rw [drewH]
  exact put6a h
theorem far13d {g k : Nat} {w : World} {u0 u1 u2 u3 u4 u5 u6 u7 u8 u9 u10 u11 u12 : Value} (hk : k ≠ g) : (((((((((((((w.setCell ⟨g, 0, none⟩ (u0)).setCell ⟨g, 1, none⟩ (u1)).setCell ⟨g, 2, none⟩ (u2)).setCell ⟨g, 3, none⟩ (u3)).setCell ⟨g, 4, none⟩ (u4)).setCell ⟨g, 5, none⟩ (u5)).setCell ⟨g, 6, none⟩ (u6)).setCell ⟨g, 7, none⟩ (u7)).setCell ⟨g, 8, none⟩ (u8)).setCell ⟨g, 9, none⟩ (u9)).setCell ⟨g, 10, none⟩ (u10)).setCell ⟨g, 11, none⟩ (u11)).setCell ⟨g, 12, none⟩ (u12)).drew.heap[k]? = w.heap[k]? := by
  rw [drewH]
  exact far13 hk
theorem fill13d {g t : Nat} {w : World} {u0 u1 u2 u3 u4 u5 u6 u7 u8 u9 u10 u11 u12 v0 v1 v2 v3 v4 v5 v6 v7 v8 v9 v10 v11 v12 : Value} (h : w.heap[g]? = some (.cells #[v0, v1, v2, v3, v4, v5, v6, v7, v8, v9, v10, v11, v12] t (0, 0))) :
    (((((((((((((w.setCell ⟨g, 0, none⟩ (u0)).setCell ⟨g, 1, none⟩ (u1)).setCell ⟨g, 2, none⟩ (u2)).setCell ⟨g, 3, none⟩ (u3)).setCell ⟨g, 4, none⟩ (u4)).setCell ⟨g, 5, none⟩ (u5)).setCell ⟨g, 6, none⟩ (u6)).setCell ⟨g, 7, none⟩ (u7)).setCell ⟨g, 8, none⟩ (u8)).setCell ⟨g, 9, none⟩ (u9)).setCell ⟨g, 10, none⟩ (u10)).setCell ⟨g, 11, none⟩ (u11)).setCell ⟨g, 12, none⟩ (u12)).drew.heap[g]? = some (.cells #[u0, u1, u2, u3, u4, u5, u6, u7, u8, u9, u10, u11, u12] t (0, 0)) := by
  rw [drewH]
  exact fill13 h
theorem bel13d {B g : Nat} {w0 w : World} {u0 u1 u2 u3 u4 u5 u6 u7 u8 u9 u10 u11 u12 : Value} (h : Below B w0 w) (hg : B ≤ g) : Below B w0 (((((((((((((w.setCell ⟨g, 0, none⟩ (u0)).setCell ⟨g, 1, none⟩ (u1)).setCell ⟨g, 2, none⟩ (u2)).setCell ⟨g, 3, none⟩ (u3)).setCell ⟨g, 4, none⟩ (u4)).setCell ⟨g, 5, none⟩ (u5)).setCell ⟨g, 6, none⟩ (u6)).setCell ⟨g, 7, none⟩ (u7)).setCell ⟨g, 8, none⟩ (u8)).setCell ⟨g, 9, none⟩ (u9)).setCell ⟨g, 10, none⟩ (u10)).setCell ⟨g, 11, none⟩ (u11)).setCell ⟨g, 12, none⟩ (u12)).drew := (bel13 h hg).drew
def StepPost (w : World) (x : S36 × Bool) (e : Ending) (w' : World) : Prop := ∃ v12 : Value, e = .returned (.tuple #[.agg #[.int .i64 x.1.f0, .int .i64 x.1.f1, .string x.1.f2.f0, .string x.1.f2.f1, .string x.1.f2.f2, .string x.1.f2.f3, .string x.1.f2.f4, .string x.1.f2.f5, .string x.1.f3, .string x.1.f4, .string x.1.f5, .string x.1.f6, v12], .bool x.2]) ∧ Kd.V Kd.string 9 w' w.heap.size (fun k_ => (w.heap.size ≤ k_)) v12 x.1.f7 ∧ Below w.heap.size w w'

set_option maxHeartbeats 16000000 in
set_option maxRecDepth 100000 in
theorem step_calls_ (a0 : ByteArray) (hs : a0.size ≤ 1000000000) (x : S36 × Bool) (hx : stepR (bl a0) = x) (w : World) (hG : GOK w) :
    Calls Tryd.prog 18 #[.string a0] w (StepPost w x) := by
  have hu := Tryd.underlying36
  have hu2 := Tryd.underlying34
  have HG := Aside0.mk hG
  have HS := Aside0.mk hs
  obtain ⟨P, hP⟩ : ∃ P, splitL 32 (bl a0) = P := ⟨_, rfl⟩
  have HX := Aside0.mk (show stepOf (bl a0) P = x by rw [← hx, ← hP]; rfl)
  have HPS := Aside0.mk (show (P.map fun w => w.length + 1).sum = a0.size + 1 by rw [← hP, split_sum, bl_length])
  have HSP := Aside0.mk (show strings_Split.f a0 ⟨#[32]⟩ = some (P.map ba) by unfold strings_Split.f; rw [if_pos ⟨by omega, rfl⟩, ← hP]; rfl)
  have HPL := Aside0.mk (show P.length ≤ 1000000001 by have := sum_len P; have := HPS.out; omega)
  clear hP hx hG hs
  go_enter Tryd.func18, Tryd.ntmps18
  go_wp2_with fail
  refine (strings_Split.calls a0 ⟨#[32]⟩ (P.map ba) _ HSP.out (hG := HG.out.below (below_alloc (Below.refl _ w) _))).mono ?_
  rintro e w1 ⟨v1, rfl, hr1, hb1⟩
  obtain ⟨A1, c1, rfl, hl1, hC1⟩ := Kd.R_reads hr1
  have BK0 := Aside0.mk (blk_below (blk_new w (.cells #[.int .i64 0, .int .i64 0, .string ⟨#[]⟩, .string ⟨#[]⟩, .string ⟨#[]⟩, .string ⟨#[]⟩, .string ⟨#[]⟩, .string ⟨#[]⟩, .string ⟨#[]⟩, .string ⟨#[]⟩, .string ⟨#[]⟩, .string ⟨#[]⟩, .slice none 0 0] 36)) hb1)
  have HB := Aside0.mk (below_step (below_alloc (Below.refl _ w) (.cells #[.int .i64 0, .int .i64 0, .string ⟨#[]⟩, .string ⟨#[]⟩, .string ⟨#[]⟩, .string ⟨#[]⟩, .string ⟨#[]⟩, .string ⟨#[]⟩, .string ⟨#[]⟩, .string ⟨#[]⟩, .string ⟨#[]⟩, .string ⟨#[]⟩, .slice none 0 0] 36)) hb1)
  have HC := Aside0.mk hC1
  have hl2 : (P.map ba).length ≤ c1 := hl1
  rw [List.length_map] at hl2 HC
  have hpl : P.length ≤ 1000000001 := HPL.out
  clear hr1 hb1 hl1 hC1
  rw [List.length_map]
  by_cases h12 : P.length < 12
  · have h12d : decide ((P.length : Int) < 12) = true := decide_eq_true (by omega)
    obtain rfl : (z36, false) = x := by rw [← HX.out, stepOf, if_pos h12]
    obtain ⟨d0, d1, d2, d3, d4, d5, d6, d7, d8, d9, d10, d11, d12⟩ := cells13 BK0.out
    obtain ⟨f0, f1, f2, f3, f4, f5, f6, f7, f8, f9, f10, f11, f12⟩ := froz13 BK0.out
    go_wp2
    refine ret13 (fill13 BK0.out) rfl rfl ⟨_, rfl, Kd.V_nil _ _ _ _ _, bel13 HB.out (Nat.le_refl _)⟩
  · have h12d : decide ((P.length : Int) < 12) = false := decide_eq_false (by omega)
    have hge : 12 ≤ P.length := by omega
    have hg0 : (ba (P.getD 0 []) : ByteArray) = rdOf ByteArray.empty (P.map ba) 0 := by
      rw [rdOf, List.getD_eq_getElem?_getD, List.getD_eq_getElem?_getD, List.getElem?_map, show (0 : Int).toNat = 0 from rfl, List.getElem?_eq_getElem (show 0 < P.length by omega)]; rfl
    have hg1 : (ba (P.getD 1 []) : ByteArray) = rdOf ByteArray.empty (P.map ba) 1 := by
      rw [rdOf, List.getD_eq_getElem?_getD, List.getD_eq_getElem?_getD, List.getElem?_map, show (1 : Int).toNat = 1 from rfl, List.getElem?_eq_getElem (show 1 < P.length by omega)]; rfl
    obtain ⟨p0, hp0⟩ : ∃ p, P.getD 0 [] = p := ⟨_, rfl⟩
    obtain ⟨p1, hp1⟩ : ∃ p, P.getD 1 [] = p := ⟨_, rfl⟩
    have hm0 : p0 ∈ P := by rw [← hp0, List.getD_eq_getElem?_getD, List.getElem?_eq_getElem (show 0 < P.length by omega)]; exact List.getElem_mem _
    have hm1 : p1 ∈ P := by rw [← hp1, List.getD_eq_getElem?_getD, List.getElem?_eq_getElem (show 1 < P.length by omega)]; exact List.getElem_mem _
    have hs0 := sum_mem hm0
    have hs1 := sum_mem hm1
    rw [HPS.out] at hs0 hs1
    rw [hp0] at hg0
    rw [hp1] at hg1
    obtain ⟨ad, rfl, hc0⟩ := Kd.at_string HC.out 0 (by omega) (by omega)
    obtain ⟨ad_, he_, hc1⟩ := Kd.at_string HC.out 1 (by omega) (by omega)
    obtain rfl := Option.some.inj he_
    rw [← hg0] at hc0
    rw [← hg1] at hc1
    have hc0 : w1.cell? ad = some (.string (ba p0)) := hc0
    have hc1 : w1.cell? ⟨ad.block, ad.off + 1, none⟩ = some (.string (ba p1)) := hc1
    have HC1 := Aside0.mk hc1
    have HX2 := Aside0.mk (show stepEnd (bl a0) (atv p0) (atv p1) (atOk p0) (atOk p1) (wdG (P.drop 2)) = x by rw [← HX.out, stepOf, if_neg h12, hp0, hp1])
    have HAT0 := Aside0.mk (atoi_calls (ba p0) (by rw [size_ba]; have := HS.out; omega) w1 (HG.out.below HB.out))
    have HV0 := Aside0.mk (atv_range p0)
    have HV1 := Aside0.mk (atv_range p1)
    have HL1 := Aside0.mk (show p1.length ≤ 1000000001 by have := HS.out; omega)
    rw [bl_ba] at HAT0
    clear hg0 hg1 hp0 hp1 hm0 hm1 hs0 hs1 he_ hc1 HX
    obtain ⟨k0, hk0⟩ : ∃ v, atv p0 = v := ⟨_, rfl⟩
    obtain ⟨o0, ho0⟩ : ∃ v, atOk p0 = v := ⟨_, rfl⟩
    obtain ⟨k1, hk1⟩ : ∃ v, atv p1 = v := ⟨_, rfl⟩
    obtain ⟨o1, ho1⟩ : ∃ v, atOk p1 = v := ⟨_, rfl⟩
    have HK1 := Aside0.mk hk1
    have HO1 := Aside0.mk ho1
    rw [hk0] at HX2 HAT0 HV0
    rw [ho0] at HX2 HAT0
    rw [hk1] at HX2 HV1
    rw [ho1] at HX2
    clear hk0 ho0 hk1 ho1
    go_wp2_with fail
    refine HAT0.out.mono ?_
    rintro e w2 ⟨ev0, rfl, hev0, hb2⟩
    have HEV0 := Aside0.mk hev0
    have BK02 := Aside0.mk (blk_below BK0.out hb2)
    have HB2 := Aside0.mk (below_step HB.out hb2)
    have HC2 := Aside0.mk (Kd.C_below HC.out hb2)
    have hc1 := (hb2.cell (World.block_lt_of_cell? w1 _ HC1.out)).trans HC1.out
    have HAT1 := Aside0.mk (atoi_calls (ba p1) (by rw [size_ba]; have := HL1.out; omega) w2 (HG.out.below HB2.out))
    rw [bl_ba, HK1.out, HO1.out] at HAT1
    clear hb2 HC BK0 HB hev0 hc0 HC1
    have HC1 := Aside0.mk hc1
    go_wp2_with fail
    refine HAT1.out.mono ?_
    rintro e w3 ⟨ev1, rfl, hev1, hb3⟩
    have HEV1 := Aside0.mk hev1
    have BK03 := Aside0.mk (blk_below BK02.out hb3)
    have HB3 := Aside0.mk (below_step HB2.out hb3)
    have HC3 := Aside0.mk (Kd.C_below HC2.out hb3)
    clear hb3 HC2 BK02 HB2 hev1 hc1 HC1
    have HMS := Aside0.mk (show ((P.drop 2).map fun w => w.length + 1).sum ≤ 1000000001 by have h1 := sum_drop P 2; have h2 := HPS.out; have := HS.out; omega)
    obtain ⟨M, hM⟩ : ∃ M, P.drop 2 = M := ⟨_, rfl⟩
    have hML : M.length + 2 = P.length := by rw [← hM, List.length_drop]; omega
    have hMM : (P.map ba).drop 2 = M.map ba := by rw [← hM, List.map_drop]
    rw [hM] at HX2 HMS
    obtain ⟨A2, c2, hcut, HC4⟩ : ∃ A2 c2, (∀ W : World, (Instr.slice 31 (.slice (some ad) P.length c1) (some (.int .i64 2)) none none).run Tryd.prog W = .ok (.slice A2 M.length c2) W) ∧ Aside0 (Kd.C Kd.string w3 A2 M.length (M.map ba)) := by
      have h1 := cut_from (P := Tryd.prog) 31 9 .i64 Tryd.underlying31 (show Tryd.prog.info? 9 = some _ from rfl) 1 (by kernel_rfl) (some ad) P.length c1 2 (by omega) (by omega)
      have h2 := Kd.C_drop (m := 2) (c := c1) (A := some ad) (xs := P.map ba) (k := Kd.string) (w := w3) (by rw [List.length_map]; exact HC3.out) (by rw [List.length_map]; omega) (by rw [List.length_map]; exact hl2)
      rw [hMM, List.length_map] at h2
      refine ⟨_, c1 - 2, fun W => ?_, ⟨h2⟩⟩
      have h3 := h1 W
      rw [show P.length - (2 : Int).toNat = M.length from by have : (2 : Int).toNat = 2 := rfl; omega] at h3
      exact h3
    clear hMM hM HC3 HPL hc0
    have hml : M.length ≤ 1000000001 := by omega
    go_wp2
    clear hcut
    go_loopw [9, 40] (fun tv i wr => ∃ (k : Nat) (acc : List ByteArray), k ≤ M.length ∧ i = .int .i64 k ∧ acc.length = k ∧ Aside0 (wdG M = (wdG (M.drop k)).map (acc ++ ·)) ∧ Aside0 (Kd.R Kd.string 9 wr w3.heap.size (fun _ => True) tv acc) ∧ Aside0 (Below w3.heap.size w3 wr)) (fun _ i _ => M.length - (intOf i).toNat)
    case atStart => exact ⟨0, [], Nat.zero_le _, rfl, rfl, ⟨by rw [List.drop_zero]; cases wdG M <;> rfl⟩, ⟨Kd.R_nil _ _ _ _ _⟩, ⟨Below.refl _ w3⟩⟩
    case round =>
      obtain ⟨k, acc, hk, rfl, hal, HW, HR, HBr⟩ := hrel
      have BK0r := Aside0.mk (blk_below BK03.out HBr.out)
      have HB0r := Aside0.mk (below_step HB3.out HBr.out)
      by_cases hlt : k < M.length
      · have hkd : decide ((k : Int) < M.length) = true := decide_eq_true (by omega)
        obtain ⟨m, hm⟩ : ∃ m, M[k]'hlt = m := ⟨_, rfl⟩
        have hdr : M.drop k = m :: M.drop (k + 1) := by rw [← hm]; exact List.drop_eq_getElem_cons hlt
        have hms := sum_mem (hm ▸ List.getElem_mem hlt : m ∈ M)
        have HMZ := Aside0.mk (show m.length ≤ 1000000001 by have := HMS.out; omega)
        obtain ⟨ad2, rfl, hcm⟩ := Kd.at_string (Kd.C_below HC4.out HBr.out) (k : Int) (by omega) (by omega)
        rw [show rdOf ByteArray.empty (M.map ba) (k : Int) = ba m from by simp [rdOf, List.getD_eq_getElem?_getD, List.getElem?_eq_getElem hlt, hm]] at hcm
        simp only [Int.toNat_natCast] at hcm
        have HW2 := Aside0.mk (show wdG M = (if isWord m = true then (wdG (M.drop (k + 1))).map (ba (decR (inner m)).1 :: ·) else none).map (acc ++ ·) by rw [HW.out, hdr, wdG])
        clear hdr hms hm HW
        obtain ⟨hp, hhp⟩ : ∃ b, Lib.hasPrefix m [120] = b := ⟨_, rfl⟩
        obtain ⟨dv, hdv⟩ : ∃ b, (decR (inner m)).1 = b := ⟨_, rfl⟩
        obtain ⟨dk, hdk⟩ : ∃ b, (decR (inner m)).2 = b := ⟨_, rfl⟩
        have hiw : isWord m = (hp && dk) := by rw [isWord, hhp, hdk]
        rw [hiw, hdv] at HW2
        have HCP := Aside0.mk (Tryd.strings_CutPrefix (ba m) ⟨#[120]⟩ wr)
        rw [show (ba m).data.toList = m from bl_ba m, show (⟨#[120]⟩ : ByteArray).data.toList = [120] from rfl, hhp] at HCP
        have HIN := Aside0.mk (show text_Decode.f (ba (inner m)) = some (if dk then (ba dv, 0) else (ba [], 2)) by
          have hi := inner_length m
          unfold text_Decode.f
          rw [size_ba, if_pos (by have := HMZ.out; omega), bl_ba, hdk, hdv])
        clear hhp hdv hdk hiw
        go_wp2_with fail
        refine HCP.out.mono ?_
        rintro e w4 ⟨rfl, rfl⟩
        go_wp2_with fail
        obtain ⟨r1, r2, hr⟩ : ∃ r1 r2, (if dk then (ba dv, 0) else (ba [], 2) : ByteArray × Int) = (r1, r2) := ⟨_, _, rfl⟩
        have HRR := Aside0.mk hr
        refine (text_Decode.calls (ba (inner m)) r1 r2 _ (by rw [HIN.out, hr])).mono ?_
        clear hr
        rintro e w5 ⟨rfl, hb5⟩
        have HB5 := Aside0.mk (below_step HBr.out hb5)
        have BK5 := Aside0.mk (blk_below BK0r.out hb5)
        have HB05 := Aside0.mk (below_step HB0r.out hb5)
        have HR5 := Aside0.mk (Kd.R_below HR.out hb5)
        clear hb5 HBr BK0r HB0r HR hcm
        by_cases hgo : (hp && dk) = true
        · obtain ⟨rfl, rfl⟩ : hp = true ∧ dk = true := by simpa using hgo
          obtain ⟨rfl, rfl⟩ : ba dv = r1 ∧ 0 = r2 := by have := HRR.out; simpa using this
          have HW3 := Aside0.mk (show wdG M = (wdG (M.drop (k + 1))).map ((acc ++ [ba dv]) ++ ·) by
            rw [HW2.out, if_pos hgo, Option.map_map]
            congr 1
            funext z
            simp)
          clear HW2 HRR hgo
          have HRA := Aside0.mk (Kd.R_below HR5.out (below_alloc (Below.refl _ w5) (.cells #[.string (ba dv)] 9)))
          have HBA := Aside0.mk (below_alloc HB5.out (.cells #[.string (ba dv)] 9))
          have HC1 := Aside0.mk (one_C w5 (ba dv))
          have HAC := Aside0.mk (show (acc.length + 1) * 16 ≤ 140737488355328 by omega)
          have sk : IntKind.i64.wrap ((k : Int) + 1) = (k : Int) + 1 := IntWalk.i64_in _ (by omega)
          go_wp2_with (at_builtin; refine Kd.R_append_row (α := ByteArray) Value.string ByteArray.empty (w0 := w3) w3.heap.size rfl (.tmp 61) (.tmp 63) 31 9 (.string ⟨#[]⟩) 16 rfl Tryd.underlying31 istr rfl (by decide) _ acc [ba dv] (some ⟨w5.heap.size, 0, none⟩) 1 1 (fun _ => True) rfl rfl (fun _ _ => trivial) HRA.out HC1.out HBA.out HBA.out.size HAC.out ?_)
          intro v6 w6 r1' r2' r3' r4'
          have HR6 := Aside0.mk r1'
          have HB6 := Aside0.mk r2'
          clear r1' r2' r3' r4'
          go_wp2
          go_roundw
          case rel => exact ⟨k + 1, acc ++ [ba dv], by omega, by go_num, by rw [List.length_append, hal]; rfl, HW3, HR6, HB6⟩
          case measure => simp [intOf]; omega
        · have hno := Aside0.mk (show wdG M = none by rw [HW2.out, if_neg hgo]; rfl)
          obtain rfl : (z36, false) = x := by rw [← HX2.out, hno.out]; rfl
          obtain ⟨d0, d1, d2, d3, d4, d5, d6, d7, d8, d9, d10, d11, d12⟩ := cells13 BK5.out
          obtain ⟨f0, f1, f2, f3, f4, f5, f6, f7, f8, f9, f10, f11, f12⟩ := froz13 BK5.out
          cases hp with
          | false =>
            clear hgo HRR
            go_wp2
            exact ret13 (fill13 BK5.out) rfl rfl ⟨_, rfl, Kd.V_nil _ _ _ _ _, bel13 HB05.out (Nat.le_refl _)⟩
          | true =>
            obtain rfl : dk = false := by cases dk <;> simp_all
            obtain ⟨rfl, rfl⟩ : ba [] = r1 ∧ 2 = r2 := by have := HRR.out; simpa using this
            clear hgo HRR
            go_wp2
            exact ret13 (fill13 BK5.out) rfl rfl ⟨_, rfl, Kd.V_nil _ _ _ _ _, bel13 HB05.out (Nat.le_refl _)⟩
      · have hkd : decide ((k : Int) < M.length) = false := decide_eq_false (by omega)
        have hdn : M.drop k = [] := List.drop_of_length_le (by omega)
        have hsome : wdG M = some acc := by rw [HW.out, hdn]; simp [wdG]
        have hal10 : 10 ≤ acc.length := by omega
        have hsz := (wdG_len M acc hsome).2
        have HZ5 := Aside0.mk (show szs acc ≤ 1000000001 by have := HMS.out; omega)
        obtain rfl : (mkS k0 k1 acc, o0 && o1 && decide (lineL (mkS k0 k1 acc) = bl a0 ++ [10])) = x := by rw [← HX2.out, hsome]; rfl
        obtain ⟨A5, c5, rfl, hl5, hC5⟩ := Kd.R_reads HR.out
        obtain ⟨a5, rfl, y0⟩ := Kd.at_string hC5 0 (by omega) (by omega)
        obtain ⟨a5_, he1, y1⟩ := Kd.at_string hC5 1 (by omega) (by omega)
        obtain rfl := Option.some.inj he1
        obtain ⟨a5_, he2, y2⟩ := Kd.at_string hC5 2 (by omega) (by omega)
        obtain rfl := Option.some.inj he2
        obtain ⟨a5_, he3, y3⟩ := Kd.at_string hC5 3 (by omega) (by omega)
        obtain rfl := Option.some.inj he3
        obtain ⟨a5_, he4, y4⟩ := Kd.at_string hC5 4 (by omega) (by omega)
        obtain rfl := Option.some.inj he4
        obtain ⟨a5_, he5, y5⟩ := Kd.at_string hC5 5 (by omega) (by omega)
        obtain rfl := Option.some.inj he5
        obtain ⟨a5_, he6, y6⟩ := Kd.at_string hC5 6 (by omega) (by omega)
        obtain rfl := Option.some.inj he6
        obtain ⟨a5_, he7, y7⟩ := Kd.at_string hC5 7 (by omega) (by omega)
        obtain rfl := Option.some.inj he7
        obtain ⟨a5_, he8, y8⟩ := Kd.at_string hC5 8 (by omega) (by omega)
        obtain rfl := Option.some.inj he8
        obtain ⟨a5_, he9, y9⟩ := Kd.at_string hC5 9 (by omega) (by omega)
        obtain rfl := Option.some.inj he9
        have y0 : wr.cell? a5 = some (.string (acc.getD 0 ByteArray.empty)) := y0
        have y1 : wr.cell? ⟨a5.block, a5.off + 1, none⟩ = some (.string (acc.getD 1 ByteArray.empty)) := y1
        have y2 : wr.cell? ⟨a5.block, a5.off + 2, none⟩ = some (.string (acc.getD 2 ByteArray.empty)) := y2
        have y3 : wr.cell? ⟨a5.block, a5.off + 3, none⟩ = some (.string (acc.getD 3 ByteArray.empty)) := y3
        have y4 : wr.cell? ⟨a5.block, a5.off + 4, none⟩ = some (.string (acc.getD 4 ByteArray.empty)) := y4
        have y5 : wr.cell? ⟨a5.block, a5.off + 5, none⟩ = some (.string (acc.getD 5 ByteArray.empty)) := y5
        have y6 : wr.cell? ⟨a5.block, a5.off + 6, none⟩ = some (.string (acc.getD 6 ByteArray.empty)) := y6
        have y7 : wr.cell? ⟨a5.block, a5.off + 7, none⟩ = some (.string (acc.getD 7 ByteArray.empty)) := y7
        have y8 : wr.cell? ⟨a5.block, a5.off + 8, none⟩ = some (.string (acc.getD 8 ByteArray.empty)) := y8
        have y9 : wr.cell? ⟨a5.block, a5.off + 9, none⟩ = some (.string (acc.getD 9 ByteArray.empty)) := y9
        obtain ⟨A6, c6, hcut, HV6⟩ : ∃ A6 c6, (∀ W : World, (Instr.slice 31 (.slice (some a5) acc.length c5) (some (.int .i64 10)) none none).run Tryd.prog W = .ok (.slice A6 (acc.drop 10).length c6) W) ∧ Aside0 (Kd.V Kd.string 9 wr w.heap.size (fun k_ => w3.heap.size ≤ k_ ∧ k_ < wr.heap.size) (.slice A6 (acc.drop 10).length c6) (acc.drop 10)) := by
          have h1 := cut_from (P := Tryd.prog) 31 9 .i64 Tryd.underlying31 (show Tryd.prog.info? 9 = some _ from rfl) 1 (by kernel_rfl) (some a5) acc.length c5 10 (by omega) (by omega)
          have h2 := Kd.F_cut (m := 10) (Kd.F_mono (Kd.R_F (Kd.R_bound HR.out)) (ok' := fun k_ => w3.heap.size ≤ k_ ∧ k_ < wr.heap.size) (fun k_ hk_ => ⟨hk_.2.1, hk_.2.2.1⟩)) hal10 hl5
          refine ⟨_, c5 - 10, fun W => ?_, ⟨Kd.V_mk (by rw [List.length_drop]; omega) h2⟩⟩
          have h3 := h1 W
          rw [show acc.length - (10 : Int).toNat = (acc.drop 10).length from by rw [List.length_drop]; rfl] at h3
          exact h3
        have hdl : ((acc.drop 10).length : Int) = acc.length - 10 := by rw [List.length_drop]; omega
        obtain ⟨t0, ht0⟩ : ∃ t, acc.getD 0 ByteArray.empty = t := ⟨_, rfl⟩
        rw [ht0] at y0
        have HT0 := Aside0.mk ht0
        clear ht0
        obtain ⟨t1, ht1⟩ : ∃ t, acc.getD 1 ByteArray.empty = t := ⟨_, rfl⟩
        rw [ht1] at y1
        have HT1 := Aside0.mk ht1
        clear ht1
        obtain ⟨t2, ht2⟩ : ∃ t, acc.getD 2 ByteArray.empty = t := ⟨_, rfl⟩
        rw [ht2] at y2
        have HT2 := Aside0.mk ht2
        clear ht2
        obtain ⟨t3, ht3⟩ : ∃ t, acc.getD 3 ByteArray.empty = t := ⟨_, rfl⟩
        rw [ht3] at y3
        have HT3 := Aside0.mk ht3
        clear ht3
        obtain ⟨t4, ht4⟩ : ∃ t, acc.getD 4 ByteArray.empty = t := ⟨_, rfl⟩
        rw [ht4] at y4
        have HT4 := Aside0.mk ht4
        clear ht4
        obtain ⟨t5, ht5⟩ : ∃ t, acc.getD 5 ByteArray.empty = t := ⟨_, rfl⟩
        rw [ht5] at y5
        have HT5 := Aside0.mk ht5
        clear ht5
        obtain ⟨t6, ht6⟩ : ∃ t, acc.getD 6 ByteArray.empty = t := ⟨_, rfl⟩
        rw [ht6] at y6
        have HT6 := Aside0.mk ht6
        clear ht6
        obtain ⟨t7, ht7⟩ : ∃ t, acc.getD 7 ByteArray.empty = t := ⟨_, rfl⟩
        rw [ht7] at y7
        have HT7 := Aside0.mk ht7
        clear ht7
        obtain ⟨t8, ht8⟩ : ∃ t, acc.getD 8 ByteArray.empty = t := ⟨_, rfl⟩
        rw [ht8] at y8
        have HT8 := Aside0.mk ht8
        clear ht8
        obtain ⟨t9, ht9⟩ : ∃ t, acc.getD 9 ByteArray.empty = t := ⟨_, rfl⟩
        rw [ht9] at y9
        have HT9 := Aside0.mk ht9
        clear ht9
        obtain ⟨ds, hds⟩ : ∃ ds, acc.drop 10 = ds := ⟨_, rfl⟩
        rw [hds] at hcut HV6
        have HDS := Aside0.mk hds
        clear hds
        have hX : mkS k0 k1 acc = (⟨k0, k1, ⟨t0, t1, t2, t3, t4, t5⟩, t6, t7, t8, t9, ds⟩ : S36) := by unfold mkS; rw [HT0.out, HT1.out, HT2.out, HT3.out, HT4.out, HT5.out, HT6.out, HT7.out, HT8.out, HT9.out, HDS.out]
        have hok := mkS_ok k0 k1 acc HV0.out HV1.out hal10 (by have := HZ5.out; omega)
        have HXX := Aside0.mk hX
        rw [hX] at hok
        obtain ⟨q, hq⟩ := (line_ev _ hok).get
        obtain ⟨L, hL⟩ : ∃ L, lineL (⟨k0, k1, ⟨t0, t1, t2, t3, t4, t5⟩, t6, t7, t8, t9, ds⟩ : S36) = L := ⟨_, rfl⟩
        rw [hL] at hq
        have HQ := Aside0.mk (show script_line.f q k0 k1 t0 t1 t2 t3 t4 t5 t6 t7 t8 t9 ds = some (ba L) from hq)
        obtain ⟨fin, hfin⟩ : ∃ b, decide (L = bl a0 ++ [10]) = b := ⟨_, rfl⟩
        have HFD := Aside0.mk (show decide (lineL (⟨k0, k1, ⟨t0, t1, t2, t3, t4, t5⟩, t6, t7, t8, t9, ds⟩ : S36) = bl a0 ++ [10]) = fin by rw [hL]; exact hfin)
        have HFIN := Aside0.mk (show ((ba L).toList == (a0 ++ ⟨#[10]⟩).toList) = fin by rw [toList_eq, bl_append]; exact hfin)
        clear hX hok hq hL hfin
        have bb0 : 0 < acc.length := by omega
        have HHR := Aside0.mk HR.out
        have HAL := Aside0.mk hal10
        have HDL := Aside0.mk hdl
        clear hC5 HR hsome hdn HW HX2 hsz hdl hal
        have b0 : (0 : Int) < (acc.length : Int) := by omega
        have b1 : (1 : Int) < (acc.length : Int) := by omega
        have b2 : (2 : Int) < (acc.length : Int) := by omega
        have b3 : (3 : Int) < (acc.length : Int) := by omega
        have b4 : (4 : Int) < (acc.length : Int) := by omega
        have b5 : (5 : Int) < (acc.length : Int) := by omega
        have b6 : (6 : Int) < (acc.length : Int) := by omega
        have b7 : (7 : Int) < (acc.length : Int) := by omega
        have b8 : (8 : Int) < (acc.length : Int) := by omega
        have b9 : (9 : Int) < (acc.length : Int) := by omega
        clear hal10
        go_wp2
        have hblt : a5.block < wr.heap.size := World.block_lt_of_cell? wr a5 y0
        refine start_ (n := 19) (S := fun w' => w'.cell? ⟨a5.block, a5.off + 6, none⟩ = some (.string t6) ∧ w'.cell? ⟨a5.block, a5.off + 7, none⟩ = some (.string t7) ∧ w'.cell? ⟨a5.block, a5.off + 8, none⟩ = some (.string t8) ∧ w'.cell? ⟨a5.block, a5.off + 9, none⟩ = some (.string t9)) (ds := [18]) #[false, false, false, false, false, false, false, false, false, false, false, false, false, false, false, false, false, false, false] (by kernel_rfl) rfl rfl ⟨y6, y7, y8, y9⟩ (fun hHeld => ?_)
        refine pure_ (i := 0) (N := some 66) (v := ?_) (a' := ?_) #[true, false, false, false, false, false, false, false, false, false, false, false, false, false, false, false, false, false, false] rfl rfl (by kernel_rfl) (fun _ _ _ h => h) (Or.inl ⟨by rfl, ?_⟩) ?_ ?_
        rotate_left
        · intro w'
          go_simp
          with_reducible rfl
        rotate_left
        · simp only [Act.put, List.setIfInBounds_toArray, List.set_cons_zero, List.set_cons_succ, i64_w, i32_w]
          rfl
        refine pure_ (i := 1) (N := some 67) (v := ?_) (a' := ?_) #[true, true, false, false, false, false, false, false, false, false, false, false, false, false, false, false, false, false, false] rfl rfl (by kernel_rfl) (fun _ _ _ h => h) (Or.inl ⟨by rfl, ?_⟩) ?_ ?_
        rotate_left
        · intro w'
          go_simp
          with_reducible rfl
        rotate_left
        · simp only [Act.put, List.setIfInBounds_toArray, List.set_cons_zero, List.set_cons_succ, i64_w, i32_w]
          rfl
        refine pure_ (i := 2) (N := some 68) (v := ?_) (a' := ?_) #[true, true, true, false, false, false, false, false, false, false, false, false, false, false, false, false, false, false, false] rfl rfl (by kernel_rfl) (fun _ _ _ h => h) (Or.inl ⟨by rfl, ?_⟩) ?_ ?_
        rotate_left
        · intro w'
          go_simp
          with_reducible rfl
        rotate_left
        · simp only [Act.put, List.setIfInBounds_toArray, List.set_cons_zero, List.set_cons_succ, i64_w, i32_w]
          rfl
        refine pure_ (i := 3) (N := some 69) (v := ?_) (a' := ?_) #[true, true, true, true, false, false, false, false, false, false, false, false, false, false, false, false, false, false, false] rfl rfl (by kernel_rfl) (fun _ _ _ h => h) (Or.inl ⟨by rfl, ?_⟩) ?_ ?_
        rotate_left
        · intro w'
          go_simp
          with_reducible rfl
        rotate_left
        · simp only [Act.put, List.setIfInBounds_toArray, List.set_cons_zero, List.set_cons_succ, i64_w, i32_w]
          rfl
        refine pure_ (i := 5) (N := some 71) (v := ?_) (a' := ?_) #[true, true, true, true, false, true, false, false, false, false, false, false, false, false, false, false, false, false, false] rfl rfl (by kernel_rfl) (fun _ _ _ h => h) (Or.inl ⟨by rfl, ?_⟩) ?_ ?_
        rotate_left
        · intro w'
          go_simp
          with_reducible rfl
        rotate_left
        · simp only [Act.put, List.setIfInBounds_toArray, List.set_cons_zero, List.set_cons_succ, i64_w, i32_w]
          rfl
        refine pure_ (i := 6) (N := some 72) (v := ?_) (a' := ?_) #[true, true, true, true, false, true, true, false, false, false, false, false, false, false, false, false, false, false, false] rfl rfl (by kernel_rfl) (fun _ _ _ h => h) (Or.inl ⟨by rfl, ?_⟩) ?_ ?_
        rotate_left
        · intro w'
          go_simp
          with_reducible rfl
        rotate_left
        · simp only [Act.put, List.setIfInBounds_toArray, List.set_cons_zero, List.set_cons_succ, i64_w, i32_w]
          rfl
        refine pure_ (i := 8) (N := some 74) (v := ?_) (a' := ?_) #[true, true, true, true, false, true, true, false, true, false, false, false, false, false, false, false, false, false, false] rfl rfl (by kernel_rfl) (fun _ _ _ h => h) (Or.inl ⟨by rfl, ?_⟩) ?_ ?_
        rotate_left
        · intro w'
          go_simp
          with_reducible rfl
        rotate_left
        · simp only [Act.put, List.setIfInBounds_toArray, List.set_cons_zero, List.set_cons_succ, i64_w, i32_w]
          rfl
        refine pure_ (i := 9) (N := some 75) (v := ?_) (a' := ?_) #[true, true, true, true, false, true, true, false, true, true, false, false, false, false, false, false, false, false, false] rfl rfl (by kernel_rfl) (fun _ _ _ h => h) (Or.inl ⟨by rfl, ?_⟩) ?_ ?_
        rotate_left
        · intro w'
          go_simp
          with_reducible rfl
        rotate_left
        · simp only [Act.put, List.setIfInBounds_toArray, List.set_cons_zero, List.set_cons_succ, i64_w, i32_w]
          rfl
        refine pure_ (i := 11) (N := some 77) (v := ?_) (a' := ?_) #[true, true, true, true, false, true, true, false, true, true, false, true, false, false, false, false, false, false, false] rfl rfl (by kernel_rfl) (fun _ _ _ h => h) (Or.inl ⟨by rfl, ?_⟩) ?_ ?_
        rotate_left
        · intro w'
          go_simp
          with_reducible rfl
        rotate_left
        · simp only [Act.put, List.setIfInBounds_toArray, List.set_cons_zero, List.set_cons_succ, i64_w, i32_w]
          rfl
        refine pure_ (i := 12) (N := some 78) (v := ?_) (a' := ?_) #[true, true, true, true, false, true, true, false, true, true, false, true, true, false, false, false, false, false, false] rfl rfl (by kernel_rfl) (fun _ _ _ h => h) (Or.inl ⟨by rfl, ?_⟩) ?_ ?_
        rotate_left
        · intro w'
          go_simp
          with_reducible rfl
        rotate_left
        · simp only [Act.put, List.setIfInBounds_toArray, List.set_cons_zero, List.set_cons_succ, i64_w, i32_w]
          rfl
        refine pure_ (i := 14) (N := some 80) (v := ?_) (a' := ?_) #[true, true, true, true, false, true, true, false, true, true, false, true, true, false, true, false, false, false, false] rfl rfl (by kernel_rfl) (fun _ _ _ h => h) (Or.inl ⟨by rfl, ?_⟩) ?_ ?_
        rotate_left
        · intro w'
          go_simp
          with_reducible rfl
        rotate_left
        · simp only [Act.put, List.setIfInBounds_toArray, List.set_cons_zero, List.set_cons_succ, i64_w, i32_w]
          rfl
        refine pure_ (i := 15) (N := some 81) (v := ?_) (a' := ?_) #[true, true, true, true, false, true, true, false, true, true, false, true, true, false, true, true, false, false, false] rfl rfl (by kernel_rfl) (fun _ _ _ h => h) (Or.inl ⟨by rfl, ?_⟩) ?_ ?_
        rotate_left
        · intro w'
          go_simp
          with_reducible rfl
        rotate_left
        · simp only [Act.put, List.setIfInBounds_toArray, List.set_cons_zero, List.set_cons_succ, i64_w, i32_w]
          rfl
        refine take_ (i := 4) (N := some 70) (v := ?_) (a' := ?_) #[true, true, true, true, true, true, true, false, true, true, false, true, true, false, true, true, false, false, false] rfl rfl (by kernel_rfl) (fun _ _ _ h => h) (Or.inl ⟨by rfl, ?_⟩) hHeld ?_ ?_
        rotate_left
        · rintro w' ⟨s0, s1, s2, s3⟩
          go_simp
          with_reducible rfl
        rotate_left
        · simp only [Act.put, List.setIfInBounds_toArray, List.set_cons_zero, List.set_cons_succ, i64_w, i32_w]
          rfl
        refine take_ (i := 7) (N := some 73) (v := ?_) (a' := ?_) #[true, true, true, true, true, true, true, true, true, true, false, true, true, false, true, true, false, false, false] rfl rfl (by kernel_rfl) (fun _ _ _ h => h) (Or.inl ⟨by rfl, ?_⟩) hHeld ?_ ?_
        rotate_left
        · rintro w' ⟨s0, s1, s2, s3⟩
          go_simp
          with_reducible rfl
        rotate_left
        · simp only [Act.put, List.setIfInBounds_toArray, List.set_cons_zero, List.set_cons_succ, i64_w, i32_w]
          rfl
        refine take_ (i := 10) (N := some 76) (v := ?_) (a' := ?_) #[true, true, true, true, true, true, true, true, true, true, true, true, true, false, true, true, false, false, false] rfl rfl (by kernel_rfl) (fun _ _ _ h => h) (Or.inl ⟨by rfl, ?_⟩) hHeld ?_ ?_
        rotate_left
        · rintro w' ⟨s0, s1, s2, s3⟩
          go_simp
          with_reducible rfl
        rotate_left
        · simp only [Act.put, List.setIfInBounds_toArray, List.set_cons_zero, List.set_cons_succ, i64_w, i32_w]
          rfl
        refine take_ (i := 13) (N := some 79) (v := ?_) (a' := ?_) #[true, true, true, true, true, true, true, true, true, true, true, true, true, true, true, true, false, false, false] rfl rfl (by kernel_rfl) (fun _ _ _ h => h) (Or.inl ⟨by rfl, ?_⟩) hHeld ?_ ?_
        rotate_left
        · rintro w' ⟨s0, s1, s2, s3⟩
          go_simp
          with_reducible rfl
        rotate_left
        · simp only [Act.put, List.setIfInBounds_toArray, List.set_cons_zero, List.set_cons_succ, i64_w, i32_w]
          rfl
        refine pure_ (i := 16) (N := some 82) (v := ?_) (a' := ?_) #[true, true, true, true, true, true, true, true, true, true, true, true, true, true, true, true, true, false, false] rfl rfl (by kernel_rfl) (fun _ _ _ h => h) (Or.inl ⟨by rfl, ?_⟩) ?_ ?_
        rotate_left
        · intro w'
          go_simp
          with_reducible rfl
        rotate_left
        · simp only [Act.put, List.setIfInBounds_toArray, List.set_cons_zero, List.set_cons_succ, i64_w, i32_w]
          rfl
        refine one_ (i := 17) (N := some 16) #[true, true, true, true, true, true, true, true, true, true, true, true, true, true, true, true, true, true, false] rfl rfl (by kernel_rfl) (by decide) (fun K hK => ?_)
        refine value_ (w1 := ?_) (v := ?_) (by rfl) rfl ?_ ?_
        rotate_left 2
        · go_simp
          constructor
          · rfl
          · rfl
        refine hK.out _ _ ⟨(((below_alloc (Below.refl _ wr.drew) _).cell (p := ⟨a5.block, a5.off + 6, none⟩) hblt).trans y6), (((below_alloc (Below.refl _ wr.drew) _).cell (p := ⟨a5.block, a5.off + 7, none⟩) hblt).trans y7), (((below_alloc (Below.refl _ wr.drew) _).cell (p := ⟨a5.block, a5.off + 8, none⟩) hblt).trans y8), (((below_alloc (Below.refl _ wr.drew) _).cell (p := ⟨a5.block, a5.off + 9, none⟩) hblt).trans y9)⟩ (fun hHeld => ?_)
        clear hK K
        refine norm_ (a' := ?_) ?_ ?_
        rotate_left
        · show Act.put _ (some 16) _ = _
          simp only [Act.put, List.setIfInBounds_toArray, List.set_cons_zero, List.set_cons_succ, i64_w, i32_w]
          rfl
        refine last_ (i := 18) (N := none) #[true, true, true, true, true, true, true, true, true, true, true, true, true, true, true, true, true, true, true] rfl rfl (by kernel_rfl) (by decide) (fun K hK => ?_)
        refine skip_ (w1 := ?_) (by rfl) rfl ?_ ?_
        rotate_left
        · go_simp
          rfl
        refine hK.out _ _ ?_
        clear hK K
        refine done_ (by kernel_rfl) ?_
        go_wp2
        have hbl1 : Below wr.heap.size wr (wr.alloc (.cells #[.int .i64 k0, .int .i64 k1, .string ⟨#[]⟩, .string ⟨#[]⟩, .string ⟨#[]⟩, .string ⟨#[]⟩, .string ⟨#[]⟩, .string ⟨#[]⟩, .string t6, .string t7, .string t8, .string t9, .slice A6 ds.length c6] 36)).drew := below_drew1 (below_alloc (Below.refl _ wr) _)
        have BG1 : (wr.alloc (.cells #[.int .i64 k0, .int .i64 k1, .string ⟨#[]⟩, .string ⟨#[]⟩, .string ⟨#[]⟩, .string ⟨#[]⟩, .string ⟨#[]⟩, .string ⟨#[]⟩, .string t6, .string t7, .string t8, .string t9, .slice A6 ds.length c6] 36)).drew.heap[wr.heap.size]? = some (.cells #[.int .i64 k0, .int .i64 k1, .string ⟨#[]⟩, .string ⟨#[]⟩, .string ⟨#[]⟩, .string ⟨#[]⟩, .string ⟨#[]⟩, .string ⟨#[]⟩, .string t6, .string t7, .string t8, .string t9, .slice A6 ds.length c6] 36 (0, 0)) := blk_new wr (.cells #[.int .i64 k0, .int .i64 k1, .string ⟨#[]⟩, .string ⟨#[]⟩, .string ⟨#[]⟩, .string ⟨#[]⟩, .string ⟨#[]⟩, .string ⟨#[]⟩, .string t6, .string t7, .string t8, .string t9, .slice A6 ds.length c6] 36)
        generalize (wr.alloc (.cells #[.int .i64 k0, .int .i64 k1, .string ⟨#[]⟩, .string ⟨#[]⟩, .string ⟨#[]⟩, .string ⟨#[]⟩, .string ⟨#[]⟩, .string ⟨#[]⟩, .string t6, .string t7, .string t8, .string t9, .slice A6 ds.length c6] 36)).drew = W1 at hbl1 BG1 ⊢
        have z0 : W1.cell? a5 = some (.string t0) := (hbl1.cell (p := a5) hblt).trans y0
        have z1 : W1.cell? ⟨a5.block, a5.off + 1, none⟩ = some (.string t1) := (hbl1.cell (p := ⟨a5.block, a5.off + 1, none⟩) hblt).trans y1
        have z2 : W1.cell? ⟨a5.block, a5.off + 2, none⟩ = some (.string t2) := (hbl1.cell (p := ⟨a5.block, a5.off + 2, none⟩) hblt).trans y2
        have z3 : W1.cell? ⟨a5.block, a5.off + 3, none⟩ = some (.string t3) := (hbl1.cell (p := ⟨a5.block, a5.off + 3, none⟩) hblt).trans y3
        have z4 : W1.cell? ⟨a5.block, a5.off + 4, none⟩ = some (.string t4) := (hbl1.cell (p := ⟨a5.block, a5.off + 4, none⟩) hblt).trans y4
        have z5 : W1.cell? ⟨a5.block, a5.off + 5, none⟩ = some (.string t5) := (hbl1.cell (p := ⟨a5.block, a5.off + 5, none⟩) hblt).trans y5
        have BGA := Aside0.mk BG1
        have HBL1 := Aside0.mk hbl1
        obtain ⟨d0, d1, d2, d3, d4, d5, d6, d7, d8, d9, d10, d11, d12⟩ := cells13 BG1
        obtain ⟨f0, f1, f2, f3, f4, f5, f6, f7, f8, f9, f10, f11, f12⟩ := froz13 BG1
        have hg1 : wr.heap.size < W1.heap.size := blk_lt BG1
        clear y0 y1 y2 y3 y4 y5 y6 y7 y8 y9 BG1 hbl1
        have y0 := z0
        have y1 := z1
        have y2 := z2
        have y3 := z3
        have y4 := z4
        have y5 := z5
        clear z0 z1 z2 z3 z4 z5
        go_wp2
        refine start_ (n := 21) (S := fun w' => w'.cell? a5 = some (.string t0) ∧ w'.cell? ⟨a5.block, a5.off + 1, none⟩ = some (.string t1) ∧ w'.cell? ⟨a5.block, a5.off + 2, none⟩ = some (.string t2) ∧ w'.cell? ⟨a5.block, a5.off + 3, none⟩ = some (.string t3) ∧ w'.cell? ⟨a5.block, a5.off + 4, none⟩ = some (.string t4) ∧ w'.cell? ⟨a5.block, a5.off + 5, none⟩ = some (.string t5)) (ds := [20]) #[false, false, false, false, false, false, false, false, false, false, false, false, false, false, false, false, false, false, false, false, false] (by kernel_rfl) rfl rfl ⟨y0, y1, y2, y3, y4, y5⟩ (fun hHeld => ?_)
        refine pure_ (i := 0) (N := some 83) (v := ?_) (a' := ?_) #[true, false, false, false, false, false, false, false, false, false, false, false, false, false, false, false, false, false, false, false, false] rfl rfl (by kernel_rfl) (fun _ _ _ h => h) (Or.inl ⟨by rfl, ?_⟩) ?_ ?_
        rotate_left
        · intro w'
          go_simp
          with_reducible rfl
        rotate_left
        · simp only [Act.put, List.setIfInBounds_toArray, List.set_cons_zero, List.set_cons_succ, i64_w, i32_w]
          rfl
        refine pure_ (i := 1) (N := some 84) (v := ?_) (a' := ?_) #[true, true, false, false, false, false, false, false, false, false, false, false, false, false, false, false, false, false, false, false, false] rfl rfl (by kernel_rfl) (fun _ _ _ h => h) (Or.inl ⟨by rfl, ?_⟩) ?_ ?_
        rotate_left
        · intro w'
          go_simp
          with_reducible rfl
        rotate_left
        · simp only [Act.put, List.setIfInBounds_toArray, List.set_cons_zero, List.set_cons_succ, i64_w, i32_w]
          rfl
        refine pure_ (i := 3) (N := some 86) (v := ?_) (a' := ?_) #[true, true, false, true, false, false, false, false, false, false, false, false, false, false, false, false, false, false, false, false, false] rfl rfl (by kernel_rfl) (fun _ _ _ h => h) (Or.inl ⟨by rfl, ?_⟩) ?_ ?_
        rotate_left
        · intro w'
          go_simp
          with_reducible rfl
        rotate_left
        · simp only [Act.put, List.setIfInBounds_toArray, List.set_cons_zero, List.set_cons_succ, i64_w, i32_w]
          rfl
        refine pure_ (i := 4) (N := some 87) (v := ?_) (a' := ?_) #[true, true, false, true, true, false, false, false, false, false, false, false, false, false, false, false, false, false, false, false, false] rfl rfl (by kernel_rfl) (fun _ _ _ h => h) (Or.inl ⟨by rfl, ?_⟩) ?_ ?_
        rotate_left
        · intro w'
          go_simp
          with_reducible rfl
        rotate_left
        · simp only [Act.put, List.setIfInBounds_toArray, List.set_cons_zero, List.set_cons_succ, i64_w, i32_w]
          rfl
        refine pure_ (i := 6) (N := some 89) (v := ?_) (a' := ?_) #[true, true, false, true, true, false, true, false, false, false, false, false, false, false, false, false, false, false, false, false, false] rfl rfl (by kernel_rfl) (fun _ _ _ h => h) (Or.inl ⟨by rfl, ?_⟩) ?_ ?_
        rotate_left
        · intro w'
          go_simp
          with_reducible rfl
        rotate_left
        · simp only [Act.put, List.setIfInBounds_toArray, List.set_cons_zero, List.set_cons_succ, i64_w, i32_w]
          rfl
        refine pure_ (i := 7) (N := some 90) (v := ?_) (a' := ?_) #[true, true, false, true, true, false, true, true, false, false, false, false, false, false, false, false, false, false, false, false, false] rfl rfl (by kernel_rfl) (fun _ _ _ h => h) (Or.inl ⟨by rfl, ?_⟩) ?_ ?_
        rotate_left
        · intro w'
          go_simp
          with_reducible rfl
        rotate_left
        · simp only [Act.put, List.setIfInBounds_toArray, List.set_cons_zero, List.set_cons_succ, i64_w, i32_w]
          rfl
        refine pure_ (i := 9) (N := some 92) (v := ?_) (a' := ?_) #[true, true, false, true, true, false, true, true, false, true, false, false, false, false, false, false, false, false, false, false, false] rfl rfl (by kernel_rfl) (fun _ _ _ h => h) (Or.inl ⟨by rfl, ?_⟩) ?_ ?_
        rotate_left
        · intro w'
          go_simp
          with_reducible rfl
        rotate_left
        · simp only [Act.put, List.setIfInBounds_toArray, List.set_cons_zero, List.set_cons_succ, i64_w, i32_w]
          rfl
        refine pure_ (i := 10) (N := some 93) (v := ?_) (a' := ?_) #[true, true, false, true, true, false, true, true, false, true, true, false, false, false, false, false, false, false, false, false, false] rfl rfl (by kernel_rfl) (fun _ _ _ h => h) (Or.inl ⟨by rfl, ?_⟩) ?_ ?_
        rotate_left
        · intro w'
          go_simp
          with_reducible rfl
        rotate_left
        · simp only [Act.put, List.setIfInBounds_toArray, List.set_cons_zero, List.set_cons_succ, i64_w, i32_w]
          rfl
        refine pure_ (i := 12) (N := some 95) (v := ?_) (a' := ?_) #[true, true, false, true, true, false, true, true, false, true, true, false, true, false, false, false, false, false, false, false, false] rfl rfl (by kernel_rfl) (fun _ _ _ h => h) (Or.inl ⟨by rfl, ?_⟩) ?_ ?_
        rotate_left
        · intro w'
          go_simp
          with_reducible rfl
        rotate_left
        · simp only [Act.put, List.setIfInBounds_toArray, List.set_cons_zero, List.set_cons_succ, i64_w, i32_w]
          rfl
        refine pure_ (i := 13) (N := some 96) (v := ?_) (a' := ?_) #[true, true, false, true, true, false, true, true, false, true, true, false, true, true, false, false, false, false, false, false, false] rfl rfl (by kernel_rfl) (fun _ _ _ h => h) (Or.inl ⟨by rfl, ?_⟩) ?_ ?_
        rotate_left
        · intro w'
          go_simp
          with_reducible rfl
        rotate_left
        · simp only [Act.put, List.setIfInBounds_toArray, List.set_cons_zero, List.set_cons_succ, i64_w, i32_w]
          rfl
        refine pure_ (i := 15) (N := some 98) (v := ?_) (a' := ?_) #[true, true, false, true, true, false, true, true, false, true, true, false, true, true, false, true, false, false, false, false, false] rfl rfl (by kernel_rfl) (fun _ _ _ h => h) (Or.inl ⟨by rfl, ?_⟩) ?_ ?_
        rotate_left
        · intro w'
          go_simp
          with_reducible rfl
        rotate_left
        · simp only [Act.put, List.setIfInBounds_toArray, List.set_cons_zero, List.set_cons_succ, i64_w, i32_w]
          rfl
        refine pure_ (i := 16) (N := some 99) (v := ?_) (a' := ?_) #[true, true, false, true, true, false, true, true, false, true, true, false, true, true, false, true, true, false, false, false, false] rfl rfl (by kernel_rfl) (fun _ _ _ h => h) (Or.inl ⟨by rfl, ?_⟩) ?_ ?_
        rotate_left
        · intro w'
          go_simp
          with_reducible rfl
        rotate_left
        · simp only [Act.put, List.setIfInBounds_toArray, List.set_cons_zero, List.set_cons_succ, i64_w, i32_w]
          rfl
        refine take_ (i := 2) (N := some 85) (v := ?_) (a' := ?_) #[true, true, true, true, true, false, true, true, false, true, true, false, true, true, false, true, true, false, false, false, false] rfl rfl (by kernel_rfl) (fun _ _ _ h => h) (Or.inl ⟨by rfl, ?_⟩) hHeld ?_ ?_
        rotate_left
        · rintro w' ⟨s0, s1, s2, s3, s4, s5⟩
          go_simp
          with_reducible rfl
        rotate_left
        · simp only [Act.put, List.setIfInBounds_toArray, List.set_cons_zero, List.set_cons_succ, i64_w, i32_w]
          rfl
        refine take_ (i := 5) (N := some 88) (v := ?_) (a' := ?_) #[true, true, true, true, true, true, true, true, false, true, true, false, true, true, false, true, true, false, false, false, false] rfl rfl (by kernel_rfl) (fun _ _ _ h => h) (Or.inl ⟨by rfl, ?_⟩) hHeld ?_ ?_
        rotate_left
        · rintro w' ⟨s0, s1, s2, s3, s4, s5⟩
          go_simp
          with_reducible rfl
        rotate_left
        · simp only [Act.put, List.setIfInBounds_toArray, List.set_cons_zero, List.set_cons_succ, i64_w, i32_w]
          rfl
        refine take_ (i := 8) (N := some 91) (v := ?_) (a' := ?_) #[true, true, true, true, true, true, true, true, true, true, true, false, true, true, false, true, true, false, false, false, false] rfl rfl (by kernel_rfl) (fun _ _ _ h => h) (Or.inl ⟨by rfl, ?_⟩) hHeld ?_ ?_
        rotate_left
        · rintro w' ⟨s0, s1, s2, s3, s4, s5⟩
          go_simp
          with_reducible rfl
        rotate_left
        · simp only [Act.put, List.setIfInBounds_toArray, List.set_cons_zero, List.set_cons_succ, i64_w, i32_w]
          rfl
        refine take_ (i := 11) (N := some 94) (v := ?_) (a' := ?_) #[true, true, true, true, true, true, true, true, true, true, true, true, true, true, false, true, true, false, false, false, false] rfl rfl (by kernel_rfl) (fun _ _ _ h => h) (Or.inl ⟨by rfl, ?_⟩) hHeld ?_ ?_
        rotate_left
        · rintro w' ⟨s0, s1, s2, s3, s4, s5⟩
          go_simp
          with_reducible rfl
        rotate_left
        · simp only [Act.put, List.setIfInBounds_toArray, List.set_cons_zero, List.set_cons_succ, i64_w, i32_w]
          rfl
        refine take_ (i := 14) (N := some 97) (v := ?_) (a' := ?_) #[true, true, true, true, true, true, true, true, true, true, true, true, true, true, true, true, true, false, false, false, false] rfl rfl (by kernel_rfl) (fun _ _ _ h => h) (Or.inl ⟨by rfl, ?_⟩) hHeld ?_ ?_
        rotate_left
        · rintro w' ⟨s0, s1, s2, s3, s4, s5⟩
          go_simp
          with_reducible rfl
        rotate_left
        · simp only [Act.put, List.setIfInBounds_toArray, List.set_cons_zero, List.set_cons_succ, i64_w, i32_w]
          rfl
        refine take_ (i := 17) (N := some 100) (v := ?_) (a' := ?_) #[true, true, true, true, true, true, true, true, true, true, true, true, true, true, true, true, true, true, false, false, false] rfl rfl (by kernel_rfl) (fun _ _ _ h => h) (Or.inl ⟨by rfl, ?_⟩) hHeld ?_ ?_
        rotate_left
        · rintro w' ⟨s0, s1, s2, s3, s4, s5⟩
          go_simp
          with_reducible rfl
        rotate_left
        · simp only [Act.put, List.setIfInBounds_toArray, List.set_cons_zero, List.set_cons_succ, i64_w, i32_w]
          rfl
        refine pure_ (i := 18) (N := some 101) (v := ?_) (a' := ?_) #[true, true, true, true, true, true, true, true, true, true, true, true, true, true, true, true, true, true, true, false, false] rfl rfl (by kernel_rfl) (fun _ _ _ h => h) (Or.inl ⟨by rfl, ?_⟩) ?_ ?_
        rotate_left
        · intro w'
          go_simp
          with_reducible rfl
        rotate_left
        · simp only [Act.put, List.setIfInBounds_toArray, List.set_cons_zero, List.set_cons_succ, i64_w, i32_w]
          rfl
        refine pure_ (i := 19) (N := some 102) (v := ?_) (a' := ?_) #[true, true, true, true, true, true, true, true, true, true, true, true, true, true, true, true, true, true, true, true, false] rfl rfl (by kernel_rfl) (fun _ _ _ h => h) (Or.inl ⟨by rfl, ?_⟩) ?_ ?_
        rotate_left
        · intro w'
          go_simp
          with_reducible rfl
        rotate_left
        · simp only [Act.put, List.setIfInBounds_toArray, List.set_cons_zero, List.set_cons_succ, i64_w, i32_w]
          rfl
        refine last_ (i := 20) (N := none) #[true, true, true, true, true, true, true, true, true, true, true, true, true, true, true, true, true, true, true, true, true] rfl rfl (by kernel_rfl) (by decide) (fun K hK => ?_)
        refine skip_ (w1 := ?_) (by rfl) rfl ?_ ?_
        rotate_left
        · go_simp
          rfl
        refine hK.out _ _ ?_
        clear hK K
        refine done_ (by kernel_rfl) ?_
        go_wp2
        have hbl2 : Below wr.heap.size wr ((((((W1.setCell ⟨wr.heap.size, 2, none⟩ (.string t0)).setCell ⟨wr.heap.size, 3, none⟩ (.string t1)).setCell ⟨wr.heap.size, 4, none⟩ (.string t2)).setCell ⟨wr.heap.size, 5, none⟩ (.string t3)).setCell ⟨wr.heap.size, 6, none⟩ (.string t4)).setCell ⟨wr.heap.size, 7, none⟩ (.string t5)).drew := below_drew1 (bel6_ HBL1.out (Nat.le_refl _))
        have BG2 : ((((((W1.setCell ⟨wr.heap.size, 2, none⟩ (.string t0)).setCell ⟨wr.heap.size, 3, none⟩ (.string t1)).setCell ⟨wr.heap.size, 4, none⟩ (.string t2)).setCell ⟨wr.heap.size, 5, none⟩ (.string t3)).setCell ⟨wr.heap.size, 6, none⟩ (.string t4)).setCell ⟨wr.heap.size, 7, none⟩ (.string t5)).drew.heap[wr.heap.size]? = some (.cells #[.int .i64 k0, .int .i64 k1, .string t0, .string t1, .string t2, .string t3, .string t4, .string t5, .string t6, .string t7, .string t8, .string t9, .slice A6 ds.length c6] 36 (0, 0)) := put6_ BGA.out
        clear d0 d1 d2 d3 d4 d5 d6 d7 d8 d9 d10 d11 d12 f0 f1 f2 f3 f4 f5 f6 f7 f8 f9 f10 f11 f12 BGA HBL1 y0 y1 y2 y3 y4 y5 hg1
        generalize ((((((W1.setCell ⟨wr.heap.size, 2, none⟩ (.string t0)).setCell ⟨wr.heap.size, 3, none⟩ (.string t1)).setCell ⟨wr.heap.size, 4, none⟩ (.string t2)).setCell ⟨wr.heap.size, 5, none⟩ (.string t3)).setCell ⟨wr.heap.size, 6, none⟩ (.string t4)).setCell ⟨wr.heap.size, 7, none⟩ (.string t5)).drew = W2 at hbl2 BG2 ⊢
        have HBL2 := Aside0.mk hbl2
        have HBW2 := Aside0.mk (below_step HB0r.out hbl2)
        have BKZ := Aside0.mk (blk_below BK0r.out hbl2)
        have HCV := Aside0.mk (Kd.V_drew (Kd.V_below HV6.out hbl2))
        have hcl : ds.length ≤ c6 := (Kd.V_reads' HCV.out).2.1
        have HCL := Aside0.mk (Kd.V_reads' HCV.out).2.2
        have HG2 := Aside0.mk (HG.out.below (below_drew1 HBW2.out))
        obtain ⟨x0, x1, x2, x3, x4, x5, x6, x7, x8, x9, x10, x11, x12⟩ := cells13 BG2
        have hg2 : wr.heap.size < W2.heap.size := blk_lt BG2
        have hg3 : w.heap.size < wr.heap.size := blk_lt BK0r.out
        have hg4 : w.heap.size < w3.heap.size := blk_lt BK03.out
        obtain ⟨g, hg⟩ : ∃ g, wr.heap.size = g := ⟨_, rfl⟩
        have HGG := Aside0.mk hg
        rw [hg] at x0 x1 x2 x3 x4 x5 x6 x7 x8 x9 x10 x11 x12 hg2 ⊢
        clear BG2 hbl2 hblt hg
        rcases HEV0.out with ⟨rfl, rfl⟩ | ⟨⟨et, ep, rfl⟩, rfl⟩
        · rcases HEV1.out with ⟨rfl, rfl⟩ | ⟨⟨et, ep, rfl⟩, rfl⟩
          · have hfin := HFIN.out
            have zz : (9223372036854775807 < a0.size + 1) = False := eq_false (by have := HS.out; omega)
            refine start_ (n := 16) (S := fun w' => w'.cell? ⟨g, 0, none⟩ = some (.int .i64 k0) ∧ w'.cell? ⟨g, 1, none⟩ = some (.int .i64 k1) ∧ w'.cell? ⟨g, 2, none⟩ = some (.string t0) ∧ w'.cell? ⟨g, 3, none⟩ = some (.string t1) ∧ w'.cell? ⟨g, 4, none⟩ = some (.string t2) ∧ w'.cell? ⟨g, 5, none⟩ = some (.string t3) ∧ w'.cell? ⟨g, 6, none⟩ = some (.string t4) ∧ w'.cell? ⟨g, 7, none⟩ = some (.string t5) ∧ w'.cell? ⟨g, 8, none⟩ = some (.string t6) ∧ w'.cell? ⟨g, 9, none⟩ = some (.string t7) ∧ w'.cell? ⟨g, 10, none⟩ = some (.string t8) ∧ w'.cell? ⟨g, 11, none⟩ = some (.string t9) ∧ w'.cell? ⟨g, 12, none⟩ = some (.slice A6 ds.length c6)) (ds := [14]) #[false, false, false, false, false, false, false, false, false, false, false, false, false, false, false, false] (by kernel_rfl) rfl rfl ⟨x0, x1, x2, x3, x4, x5, x6, x7, x8, x9, x10, x11, x12⟩ (fun hHeld => ?_)
            refine pure_ (i := 1) (N := some 104) (v := ?_) (a' := ?_) #[false, true, false, false, false, false, false, false, false, false, false, false, false, false, false, false] rfl rfl (by kernel_rfl) (fun _ _ _ h => h) (Or.inl ⟨by rfl, ?_⟩) ?_ ?_
            rotate_left
            · intro w'
              go_simp
              with_reducible rfl
            rotate_left
            · simp only [Act.put, List.setIfInBounds_toArray, List.set_cons_zero, List.set_cons_succ, i64_w, i32_w]
              rfl
            refine pure_ (i := 2) (N := some 105) (v := ?_) (a' := ?_) #[false, true, true, false, false, false, false, false, false, false, false, false, false, false, false, false] rfl rfl (by kernel_rfl) (fun _ _ _ h => h) (Or.inl ⟨by rfl, ?_⟩) ?_ ?_
            rotate_left
            · intro w'
              go_simp
              with_reducible rfl
            rotate_left
            · simp only [Act.put, List.setIfInBounds_toArray, List.set_cons_zero, List.set_cons_succ, i64_w, i32_w]
              rfl
            refine pure_ (i := 3) (N := some 106) (v := ?_) (a' := ?_) #[false, true, true, true, false, false, false, false, false, false, false, false, false, false, false, false] rfl rfl (by kernel_rfl) (fun _ _ _ h => h) (Or.inl ⟨by rfl, ?_⟩) ?_ ?_
            rotate_left
            · intro w'
              go_simp
              with_reducible rfl
            rotate_left
            · simp only [Act.put, List.setIfInBounds_toArray, List.set_cons_zero, List.set_cons_succ, i64_w, i32_w]
              rfl
            refine pure_ (i := 4) (N := some 107) (v := ?_) (a' := ?_) #[false, true, true, true, true, false, false, false, false, false, false, false, false, false, false, false] rfl rfl (by kernel_rfl) (fun _ _ _ h => h) (Or.inl ⟨by rfl, ?_⟩) ?_ ?_
            rotate_left
            · intro w'
              go_simp
              with_reducible rfl
            rotate_left
            · simp only [Act.put, List.setIfInBounds_toArray, List.set_cons_zero, List.set_cons_succ, i64_w, i32_w]
              rfl
            refine pure_ (i := 5) (N := some 108) (v := ?_) (a' := ?_) #[false, true, true, true, true, true, false, false, false, false, false, false, false, false, false, false] rfl rfl (by kernel_rfl) (fun _ _ _ h => h) (Or.inl ⟨by rfl, ?_⟩) ?_ ?_
            rotate_left
            · intro w'
              go_simp
              with_reducible rfl
            rotate_left
            · simp only [Act.put, List.setIfInBounds_toArray, List.set_cons_zero, List.set_cons_succ, i64_w, i32_w]
              rfl
            refine pure_ (i := 6) (N := some 109) (v := ?_) (a' := ?_) #[false, true, true, true, true, true, true, false, false, false, false, false, false, false, false, false] rfl rfl (by kernel_rfl) (fun _ _ _ h => h) (Or.inl ⟨by rfl, ?_⟩) ?_ ?_
            rotate_left
            · intro w'
              go_simp
              with_reducible rfl
            rotate_left
            · simp only [Act.put, List.setIfInBounds_toArray, List.set_cons_zero, List.set_cons_succ, i64_w, i32_w]
              rfl
            refine pure_ (i := 7) (N := some 110) (v := ?_) (a' := ?_) #[false, true, true, true, true, true, true, true, false, false, false, false, false, false, false, false] rfl rfl (by kernel_rfl) (fun _ _ _ h => h) (Or.inl ⟨by rfl, ?_⟩) ?_ ?_
            rotate_left
            · intro w'
              go_simp
              with_reducible rfl
            rotate_left
            · simp only [Act.put, List.setIfInBounds_toArray, List.set_cons_zero, List.set_cons_succ, i64_w, i32_w]
              rfl
            refine pure_ (i := 10) (N := some 113) (v := ?_) (a' := ?_) #[false, true, true, true, true, true, true, true, false, false, true, false, false, false, false, false] rfl rfl (by kernel_rfl) (fun _ _ _ h => h) (Or.inl ⟨by rfl, ?_⟩) ?_ ?_
            rotate_left
            · intro w'
              go_simp
              with_reducible rfl
            rotate_left
            · simp only [Act.put, List.setIfInBounds_toArray, List.set_cons_zero, List.set_cons_succ, i64_w, i32_w]
              rfl
            refine pure_ (i := 11) (N := some 114) (v := ?_) (a' := ?_) #[false, true, true, true, true, true, true, true, false, false, true, true, false, false, false, false] rfl rfl (by kernel_rfl) (fun _ _ _ h => h) (Or.inl ⟨by rfl, ?_⟩) ?_ ?_
            rotate_left
            · intro w'
              go_simp
              with_reducible rfl
            rotate_left
            · simp only [Act.put, List.setIfInBounds_toArray, List.set_cons_zero, List.set_cons_succ, i64_w, i32_w]
              rfl
            refine take_ (i := 0) (N := some 103) (v := ?_) (a' := ?_) #[true, true, true, true, true, true, true, true, false, false, true, true, false, false, false, false] rfl rfl (by kernel_rfl) (fun _ _ _ h => h) (Or.inl ⟨by rfl, ?_⟩) hHeld ?_ ?_
            rotate_left
            · rintro w' ⟨s0, s1, s2, s3, s4, s5, s6, s7, s8, s9, s10, s11, s12⟩
              go_simp
              with_reducible rfl
            rotate_left
            · simp only [Act.put, List.setIfInBounds_toArray, List.set_cons_zero, List.set_cons_succ, i64_w, i32_w]
              rfl
            refine take_ (i := 8) (N := some 111) (v := ?_) (a' := ?_) #[true, true, true, true, true, true, true, true, true, false, true, true, false, false, false, false] rfl rfl (by kernel_rfl) (fun _ _ _ h => h) (Or.inl ⟨by rfl, ?_⟩) hHeld ?_ ?_
            rotate_left
            · rintro w' ⟨s0, s1, s2, s3, s4, s5, s6, s7, s8, s9, s10, s11, s12⟩
              go_simp
              with_reducible rfl
            rotate_left
            · simp only [Act.put, List.setIfInBounds_toArray, List.set_cons_zero, List.set_cons_succ, i64_w, i32_w]
              rfl
            refine one_ (i := 9) (N := some 112) #[true, true, true, true, true, true, true, true, true, true, true, true, false, false, false, false] rfl rfl (by kernel_rfl) (by decide) (fun K hK => ?_)
            refine goes_ Tryd.func15 (by kernel_rfl) rfl #[.agg #[.int .i64 k0, .int .i64 k1, .string t0, .string t1, .string t2, .string t3, .string t4, .string t5, .string t6, .string t7, .string t8, .string t9, .slice A6 ds.length c6]] (by rfl) rfl rfl (by simp only [List.map_toArray, List.map_cons, List.map_nil]; rfl) ?_
            with_reducible refine (script_line.calls q k0 k1 t0 t1 t2 t3 t4 t5 t6 t7 t8 t9 A6 c6 ds _ W2.drew HCL.out hcl HQ.out (hG := HG2.out)).mono ?_
            rintro e w8 ⟨rfl, hb3_⟩
            refine ⟨_, rfl, ?_⟩
            have HB8 := Aside0.mk hb3_
            have BK8 := Aside0.mk (blk_below (show W2.drew.heap[w.heap.size]? = _ from BKZ.out) hb3_)
            clear hb3_
            obtain ⟨e0, e1, e2, e3, e4, e5, e6, e7, e8, e9, e10, e11, e12⟩ := cells13 BK8.out
            obtain ⟨f0, f1, f2, f3, f4, f5, f6, f7, f8, f9, f10, f11, f12⟩ := froz13 BK8.out
            refine hK.out _ _ ⟨((HB8.out.cell (p := ⟨g, 0, none⟩) hg2).trans x0), ((HB8.out.cell (p := ⟨g, 1, none⟩) hg2).trans x1), ((HB8.out.cell (p := ⟨g, 2, none⟩) hg2).trans x2), ((HB8.out.cell (p := ⟨g, 3, none⟩) hg2).trans x3), ((HB8.out.cell (p := ⟨g, 4, none⟩) hg2).trans x4), ((HB8.out.cell (p := ⟨g, 5, none⟩) hg2).trans x5), ((HB8.out.cell (p := ⟨g, 6, none⟩) hg2).trans x6), ((HB8.out.cell (p := ⟨g, 7, none⟩) hg2).trans x7), ((HB8.out.cell (p := ⟨g, 8, none⟩) hg2).trans x8), ((HB8.out.cell (p := ⟨g, 9, none⟩) hg2).trans x9), ((HB8.out.cell (p := ⟨g, 10, none⟩) hg2).trans x10), ((HB8.out.cell (p := ⟨g, 11, none⟩) hg2).trans x11), ((HB8.out.cell (p := ⟨g, 12, none⟩) hg2).trans x12)⟩ (fun hHeld => ?_)
            clear hK K
            refine norm_ (a' := ?_) ?_ ?_
            rotate_left
            · show Act.put _ (some 112) _ = _
              simp only [Act.put, List.setIfInBounds_toArray, List.set_cons_zero, List.set_cons_succ, i64_w, i32_w]
              rfl
            refine pure_ (i := 12) (N := some 115) (v := ?_) (a' := ?_) #[true, true, true, true, true, true, true, true, true, true, true, true, true, false, false, false] rfl rfl (by kernel_rfl) (fun _ _ _ h => h) (Or.inl ⟨by rfl, ?_⟩) ?_ ?_
            rotate_left
            · intro w'
              go_simp
              with_reducible rfl
            rotate_left
            · simp only [Act.put, List.setIfInBounds_toArray, List.set_cons_zero, List.set_cons_succ, i64_w, i32_w]
              rfl
            refine pure_ (i := 13) (N := some 116) (v := ?_) (a' := ?_) #[true, true, true, true, true, true, true, true, true, true, true, true, true, true, false, false] rfl rfl (by kernel_rfl) (fun _ _ _ h => h) (Or.inl ⟨by rfl, ?_⟩) ?_ ?_
            rotate_left
            · intro w'
              go_simp
              with_reducible rfl
            rotate_left
            · simp only [Act.put, List.setIfInBounds_toArray, List.set_cons_zero, List.set_cons_succ, i64_w, i32_w]
              rfl
            refine last_ (i := 14) (N := none) #[true, true, true, true, true, true, true, true, true, true, true, true, true, true, true, false] rfl rfl (by kernel_rfl) (by decide) (fun K hK => ?_)
            refine skip_ (w1 := ?_) (by rfl) rfl ?_ ?_
            rotate_left
            · go_simp
              rfl
            refine hK.out _ _ ?_
            clear hK K
            refine pure_ (i := 15) (N := some 3) (v := ?_) (a' := ?_) #[true, true, true, true, true, true, true, true, true, true, true, true, true, true, true, true] rfl rfl (by kernel_rfl) (fun _ _ _ h => h) (Or.inl ⟨by rfl, ?_⟩) ?_ ?_
            rotate_left
            · intro w'
              go_simp
              with_reducible rfl
            rotate_left
            · simp only [Act.put, List.setIfInBounds_toArray, List.set_cons_zero, List.set_cons_succ, i64_w, i32_w]
              rfl
            refine done_ (by kernel_rfl) ?_
            go_wp2
            have hgg := HGG.out
            have hb9 : Below wr.heap.size wr w8 := HBL2.out.trans ((below_drew1 (Below.refl _ W2)).trans (HB8.out.mono (Nat.le_refl _)) |>.mono HBL2.out.size)
            have hv9 := Kd.V_step (w1 := (((((((((((((w8.setCell ⟨w.heap.size, 0, none⟩ (.int .i64 k0)).setCell ⟨w.heap.size, 1, none⟩ (.int .i64 k1)).setCell ⟨w.heap.size, 2, none⟩ (.string t0)).setCell ⟨w.heap.size, 3, none⟩ (.string t1)).setCell ⟨w.heap.size, 4, none⟩ (.string t2)).setCell ⟨w.heap.size, 5, none⟩ (.string t3)).setCell ⟨w.heap.size, 6, none⟩ (.string t4)).setCell ⟨w.heap.size, 7, none⟩ (.string t5)).setCell ⟨w.heap.size, 8, none⟩ (.string t6)).setCell ⟨w.heap.size, 9, none⟩ (.string t7)).setCell ⟨w.heap.size, 10, none⟩ (.string t8)).setCell ⟨w.heap.size, 11, none⟩ (.string t9)).setCell ⟨w.heap.size, 12, none⟩ (.slice A6 ds.length c6))) (Kd.V_below HV6.out hb9) (fun k_ hk_ _ => far13 (by have := hk_.1; omega))
            rw [HXX.out, HFD.out]
            exact ret13 (fill13 BK8.out) rfl rfl ⟨_, rfl, Kd.V_mono hv9 (fun k_ hk_ => by have := hk_.1; omega), bel13 (below_step HB0r.out hb9) (Nat.le_refl _)⟩
          · obtain ⟨e0, e1, e2, e3, e4, e5, e6, e7, e8, e9, e10, e11, e12⟩ := cells13 BKZ.out
            obtain ⟨f0, f1, f2, f3, f4, f5, f6, f7, f8, f9, f10, f11, f12⟩ := froz13 BKZ.out
            refine start_ (n := 16) (S := fun w' => w'.cell? ⟨g, 0, none⟩ = some (.int .i64 k0) ∧ w'.cell? ⟨g, 1, none⟩ = some (.int .i64 k1) ∧ w'.cell? ⟨g, 2, none⟩ = some (.string t0) ∧ w'.cell? ⟨g, 3, none⟩ = some (.string t1) ∧ w'.cell? ⟨g, 4, none⟩ = some (.string t2) ∧ w'.cell? ⟨g, 5, none⟩ = some (.string t3) ∧ w'.cell? ⟨g, 6, none⟩ = some (.string t4) ∧ w'.cell? ⟨g, 7, none⟩ = some (.string t5) ∧ w'.cell? ⟨g, 8, none⟩ = some (.string t6) ∧ w'.cell? ⟨g, 9, none⟩ = some (.string t7) ∧ w'.cell? ⟨g, 10, none⟩ = some (.string t8) ∧ w'.cell? ⟨g, 11, none⟩ = some (.string t9) ∧ w'.cell? ⟨g, 12, none⟩ = some (.slice A6 ds.length c6)) (ds := [14]) #[false, false, false, false, false, false, false, false, false, false, false, false, false, false, false, false] (by kernel_rfl) rfl rfl ⟨x0, x1, x2, x3, x4, x5, x6, x7, x8, x9, x10, x11, x12⟩ (fun hHeld => ?_)
            refine pure_ (i := 1) (N := some 104) (v := ?_) (a' := ?_) #[false, true, false, false, false, false, false, false, false, false, false, false, false, false, false, false] rfl rfl (by kernel_rfl) (fun _ _ _ h => h) (Or.inl ⟨by rfl, ?_⟩) ?_ ?_
            rotate_left
            · intro w'
              go_simp
              with_reducible rfl
            rotate_left
            · simp only [Act.put, List.setIfInBounds_toArray, List.set_cons_zero, List.set_cons_succ, i64_w, i32_w]
              rfl
            refine pure_ (i := 2) (N := some 105) (v := ?_) (a' := ?_) #[false, true, true, false, false, false, false, false, false, false, false, false, false, false, false, false] rfl rfl (by kernel_rfl) (fun _ _ _ h => h) (Or.inl ⟨by rfl, ?_⟩) ?_ ?_
            rotate_left
            · intro w'
              go_simp
              with_reducible rfl
            rotate_left
            · simp only [Act.put, List.setIfInBounds_toArray, List.set_cons_zero, List.set_cons_succ, i64_w, i32_w]
              rfl
            refine pure_ (i := 3) (N := some 106) (v := ?_) (a' := ?_) #[false, true, true, true, false, false, false, false, false, false, false, false, false, false, false, false] rfl rfl (by kernel_rfl) (fun _ _ _ h => h) (Or.inl ⟨by rfl, ?_⟩) ?_ ?_
            rotate_left
            · intro w'
              go_simp
              with_reducible rfl
            rotate_left
            · simp only [Act.put, List.setIfInBounds_toArray, List.set_cons_zero, List.set_cons_succ, i64_w, i32_w]
              rfl
            refine pure_ (i := 4) (N := some 107) (v := ?_) (a' := ?_) #[false, true, true, true, true, false, false, false, false, false, false, false, false, false, false, false] rfl rfl (by kernel_rfl) (fun _ _ _ h => h) (Or.inl ⟨by rfl, ?_⟩) ?_ ?_
            rotate_left
            · intro w'
              go_simp
              with_reducible rfl
            rotate_left
            · simp only [Act.put, List.setIfInBounds_toArray, List.set_cons_zero, List.set_cons_succ, i64_w, i32_w]
              rfl
            refine pure_ (i := 5) (N := some 108) (v := ?_) (a' := ?_) #[false, true, true, true, true, true, false, false, false, false, false, false, false, false, false, false] rfl rfl (by kernel_rfl) (fun _ _ _ h => h) (Or.inl ⟨by rfl, ?_⟩) ?_ ?_
            rotate_left
            · intro w'
              go_simp
              with_reducible rfl
            rotate_left
            · simp only [Act.put, List.setIfInBounds_toArray, List.set_cons_zero, List.set_cons_succ, i64_w, i32_w]
              rfl
            refine pure_ (i := 6) (N := some 109) (v := ?_) (a' := ?_) #[false, true, true, true, true, true, true, false, false, false, false, false, false, false, false, false] rfl rfl (by kernel_rfl) (fun _ _ _ h => h) (Or.inl ⟨by rfl, ?_⟩) ?_ ?_
            rotate_left
            · intro w'
              go_simp
              with_reducible rfl
            rotate_left
            · simp only [Act.put, List.setIfInBounds_toArray, List.set_cons_zero, List.set_cons_succ, i64_w, i32_w]
              rfl
            refine pure_ (i := 7) (N := some 110) (v := ?_) (a' := ?_) #[false, true, true, true, true, true, true, true, false, false, false, false, false, false, false, false] rfl rfl (by kernel_rfl) (fun _ _ _ h => h) (Or.inl ⟨by rfl, ?_⟩) ?_ ?_
            rotate_left
            · intro w'
              go_simp
              with_reducible rfl
            rotate_left
            · simp only [Act.put, List.setIfInBounds_toArray, List.set_cons_zero, List.set_cons_succ, i64_w, i32_w]
              rfl
            refine pure_ (i := 8) (N := some 111) (v := undef) (a' := ?_) #[false, true, true, true, true, true, true, true, true, false, false, false, false, false, false, false] rfl rfl (by kernel_rfl) (fun _ _ _ h => h) (Or.inr ⟨by rfl, rfl⟩) ?_ ?_
            rotate_left
            · simp only [Act.put, List.setIfInBounds_toArray, List.set_cons_zero, List.set_cons_succ, i64_w, i32_w]
              rfl
            refine pure_ (i := 9) (N := some 112) (v := undef) (a' := ?_) #[false, true, true, true, true, true, true, true, true, true, false, false, false, false, false, false] rfl rfl (by kernel_rfl) (fun _ _ _ h => h) (Or.inr ⟨by rfl, rfl⟩) ?_ ?_
            rotate_left
            · simp only [Act.put, List.setIfInBounds_toArray, List.set_cons_zero, List.set_cons_succ, i64_w, i32_w]
              rfl
            refine pure_ (i := 10) (N := some 113) (v := undef) (a' := ?_) #[false, true, true, true, true, true, true, true, true, true, true, false, false, false, false, false] rfl rfl (by kernel_rfl) (fun _ _ _ h => h) (Or.inr ⟨by rfl, rfl⟩) ?_ ?_
            rotate_left
            · simp only [Act.put, List.setIfInBounds_toArray, List.set_cons_zero, List.set_cons_succ, i64_w, i32_w]
              rfl
            refine pure_ (i := 11) (N := some 114) (v := undef) (a' := ?_) #[false, true, true, true, true, true, true, true, true, true, true, true, false, false, false, false] rfl rfl (by kernel_rfl) (fun _ _ _ h => h) (Or.inr ⟨by rfl, rfl⟩) ?_ ?_
            rotate_left
            · simp only [Act.put, List.setIfInBounds_toArray, List.set_cons_zero, List.set_cons_succ, i64_w, i32_w]
              rfl
            refine pure_ (i := 12) (N := some 115) (v := undef) (a' := ?_) #[false, true, true, true, true, true, true, true, true, true, true, true, true, false, false, false] rfl rfl (by kernel_rfl) (fun _ _ _ h => h) (Or.inr ⟨by rfl, rfl⟩) ?_ ?_
            rotate_left
            · simp only [Act.put, List.setIfInBounds_toArray, List.set_cons_zero, List.set_cons_succ, i64_w, i32_w]
              rfl
            refine pure_ (i := 13) (N := some 116) (v := ?_) (a' := ?_) #[false, true, true, true, true, true, true, true, true, true, true, true, true, true, false, false] rfl rfl (by kernel_rfl) (fun _ _ _ h => h) (Or.inl ⟨by rfl, ?_⟩) ?_ ?_
            rotate_left
            · intro w'
              go_simp
              with_reducible rfl
            rotate_left
            · simp only [Act.put, List.setIfInBounds_toArray, List.set_cons_zero, List.set_cons_succ, i64_w, i32_w]
              rfl
            refine take_ (i := 0) (N := some 103) (v := ?_) (a' := ?_) #[true, true, true, true, true, true, true, true, true, true, true, true, true, true, false, false] rfl rfl (by kernel_rfl) (fun _ _ _ h => h) (Or.inl ⟨by rfl, ?_⟩) hHeld ?_ ?_
            rotate_left
            · rintro w' ⟨s0, s1, s2, s3, s4, s5, s6, s7, s8, s9, s10, s11, s12⟩
              go_simp
              with_reducible rfl
            rotate_left
            · simp only [Act.put, List.setIfInBounds_toArray, List.set_cons_zero, List.set_cons_succ, i64_w, i32_w]
              rfl
            refine last_ (i := 14) (N := none) #[true, true, true, true, true, true, true, true, true, true, true, true, true, true, true, false] rfl rfl (by kernel_rfl) (by decide) (fun K hK => ?_)
            refine skip_ (w1 := ?_) (by rfl) rfl ?_ ?_
            rotate_left
            · go_simp
              rfl
            refine hK.out _ _ ?_
            clear hK K
            refine pure_ (i := 15) (N := some 3) (v := ?_) (a' := ?_) #[true, true, true, true, true, true, true, true, true, true, true, true, true, true, true, true] rfl rfl (by kernel_rfl) (fun _ _ _ h => h) (Or.inl ⟨by rfl, ?_⟩) ?_ ?_
            rotate_left
            · intro w'
              go_simp
              with_reducible rfl
            rotate_left
            · simp only [Act.put, List.setIfInBounds_toArray, List.set_cons_zero, List.set_cons_succ, i64_w, i32_w]
              rfl
            refine done_ (by kernel_rfl) ?_
            go_wp2
            have hgg := HGG.out
            have hb9 : Below wr.heap.size wr W2 := HBL2.out
            have hv9 := Kd.V_step (w1 := (((((((((((((W2.setCell ⟨w.heap.size, 0, none⟩ (.int .i64 k0)).setCell ⟨w.heap.size, 1, none⟩ (.int .i64 k1)).setCell ⟨w.heap.size, 2, none⟩ (.string t0)).setCell ⟨w.heap.size, 3, none⟩ (.string t1)).setCell ⟨w.heap.size, 4, none⟩ (.string t2)).setCell ⟨w.heap.size, 5, none⟩ (.string t3)).setCell ⟨w.heap.size, 6, none⟩ (.string t4)).setCell ⟨w.heap.size, 7, none⟩ (.string t5)).setCell ⟨w.heap.size, 8, none⟩ (.string t6)).setCell ⟨w.heap.size, 9, none⟩ (.string t7)).setCell ⟨w.heap.size, 10, none⟩ (.string t8)).setCell ⟨w.heap.size, 11, none⟩ (.string t9)).setCell ⟨w.heap.size, 12, none⟩ (.slice A6 ds.length c6)).drew) (Kd.V_below HV6.out hb9) (fun k_ hk_ _ => far13d (by have := hk_.1; omega))
            rw [HXX.out]
            exact ret13 (fill13d BKZ.out) rfl rfl ⟨_, rfl, Kd.V_mono hv9 (fun k_ hk_ => by have := hk_.1; omega), bel13d (below_step HB0r.out hb9) (Nat.le_refl _)⟩
        · obtain ⟨e0, e1, e2, e3, e4, e5, e6, e7, e8, e9, e10, e11, e12⟩ := cells13 BKZ.out
          obtain ⟨f0, f1, f2, f3, f4, f5, f6, f7, f8, f9, f10, f11, f12⟩ := froz13 BKZ.out
          refine start_ (n := 16) (S := fun w' => w'.cell? ⟨g, 0, none⟩ = some (.int .i64 k0) ∧ w'.cell? ⟨g, 1, none⟩ = some (.int .i64 k1) ∧ w'.cell? ⟨g, 2, none⟩ = some (.string t0) ∧ w'.cell? ⟨g, 3, none⟩ = some (.string t1) ∧ w'.cell? ⟨g, 4, none⟩ = some (.string t2) ∧ w'.cell? ⟨g, 5, none⟩ = some (.string t3) ∧ w'.cell? ⟨g, 6, none⟩ = some (.string t4) ∧ w'.cell? ⟨g, 7, none⟩ = some (.string t5) ∧ w'.cell? ⟨g, 8, none⟩ = some (.string t6) ∧ w'.cell? ⟨g, 9, none⟩ = some (.string t7) ∧ w'.cell? ⟨g, 10, none⟩ = some (.string t8) ∧ w'.cell? ⟨g, 11, none⟩ = some (.string t9) ∧ w'.cell? ⟨g, 12, none⟩ = some (.slice A6 ds.length c6)) (ds := [14]) #[false, false, false, false, false, false, false, false, false, false, false, false, false, false, false, false] (by kernel_rfl) rfl rfl ⟨x0, x1, x2, x3, x4, x5, x6, x7, x8, x9, x10, x11, x12⟩ (fun hHeld => ?_)
          refine pure_ (i := 1) (N := some 104) (v := ?_) (a' := ?_) #[false, true, false, false, false, false, false, false, false, false, false, false, false, false, false, false] rfl rfl (by kernel_rfl) (fun _ _ _ h => h) (Or.inl ⟨by rfl, ?_⟩) ?_ ?_
          rotate_left
          · intro w'
            go_simp
            with_reducible rfl
          rotate_left
          · simp only [Act.put, List.setIfInBounds_toArray, List.set_cons_zero, List.set_cons_succ, i64_w, i32_w]
            rfl
          refine pure_ (i := 2) (N := some 105) (v := ?_) (a' := ?_) #[false, true, true, false, false, false, false, false, false, false, false, false, false, false, false, false] rfl rfl (by kernel_rfl) (fun _ _ _ h => h) (Or.inl ⟨by rfl, ?_⟩) ?_ ?_
          rotate_left
          · intro w'
            go_simp
            with_reducible rfl
          rotate_left
          · simp only [Act.put, List.setIfInBounds_toArray, List.set_cons_zero, List.set_cons_succ, i64_w, i32_w]
            rfl
          refine pure_ (i := 3) (N := some 106) (v := ?_) (a' := ?_) #[false, true, true, true, false, false, false, false, false, false, false, false, false, false, false, false] rfl rfl (by kernel_rfl) (fun _ _ _ h => h) (Or.inl ⟨by rfl, ?_⟩) ?_ ?_
          rotate_left
          · intro w'
            go_simp
            with_reducible rfl
          rotate_left
          · simp only [Act.put, List.setIfInBounds_toArray, List.set_cons_zero, List.set_cons_succ, i64_w, i32_w]
            rfl
          refine pure_ (i := 4) (N := some 107) (v := undef) (a' := ?_) #[false, true, true, true, true, false, false, false, false, false, false, false, false, false, false, false] rfl rfl (by kernel_rfl) (fun _ _ _ h => h) (Or.inr ⟨by rfl, rfl⟩) ?_ ?_
          rotate_left
          · simp only [Act.put, List.setIfInBounds_toArray, List.set_cons_zero, List.set_cons_succ, i64_w, i32_w]
            rfl
          refine pure_ (i := 5) (N := some 108) (v := undef) (a' := ?_) #[false, true, true, true, true, true, false, false, false, false, false, false, false, false, false, false] rfl rfl (by kernel_rfl) (fun _ _ _ h => h) (Or.inr ⟨by rfl, rfl⟩) ?_ ?_
          rotate_left
          · simp only [Act.put, List.setIfInBounds_toArray, List.set_cons_zero, List.set_cons_succ, i64_w, i32_w]
            rfl
          refine pure_ (i := 6) (N := some 109) (v := ?_) (a' := ?_) #[false, true, true, true, true, true, true, false, false, false, false, false, false, false, false, false] rfl rfl (by kernel_rfl) (fun _ _ _ h => h) (Or.inl ⟨by rfl, ?_⟩) ?_ ?_
          rotate_left
          · intro w'
            go_simp
            with_reducible rfl
          rotate_left
          · simp only [Act.put, List.setIfInBounds_toArray, List.set_cons_zero, List.set_cons_succ, i64_w, i32_w]
            rfl
          refine pure_ (i := 7) (N := some 110) (v := ?_) (a' := ?_) #[false, true, true, true, true, true, true, true, false, false, false, false, false, false, false, false] rfl rfl (by kernel_rfl) (fun _ _ _ h => h) (Or.inl ⟨by rfl, ?_⟩) ?_ ?_
          rotate_left
          · intro w'
            go_simp
            with_reducible rfl
          rotate_left
          · simp only [Act.put, List.setIfInBounds_toArray, List.set_cons_zero, List.set_cons_succ, i64_w, i32_w]
            rfl
          refine pure_ (i := 8) (N := some 111) (v := undef) (a' := ?_) #[false, true, true, true, true, true, true, true, true, false, false, false, false, false, false, false] rfl rfl (by kernel_rfl) (fun _ _ _ h => h) (Or.inr ⟨by rfl, rfl⟩) ?_ ?_
          rotate_left
          · simp only [Act.put, List.setIfInBounds_toArray, List.set_cons_zero, List.set_cons_succ, i64_w, i32_w]
            rfl
          refine pure_ (i := 9) (N := some 112) (v := undef) (a' := ?_) #[false, true, true, true, true, true, true, true, true, true, false, false, false, false, false, false] rfl rfl (by kernel_rfl) (fun _ _ _ h => h) (Or.inr ⟨by rfl, rfl⟩) ?_ ?_
          rotate_left
          · simp only [Act.put, List.setIfInBounds_toArray, List.set_cons_zero, List.set_cons_succ, i64_w, i32_w]
            rfl
          refine pure_ (i := 10) (N := some 113) (v := undef) (a' := ?_) #[false, true, true, true, true, true, true, true, true, true, true, false, false, false, false, false] rfl rfl (by kernel_rfl) (fun _ _ _ h => h) (Or.inr ⟨by rfl, rfl⟩) ?_ ?_
          rotate_left
          · simp only [Act.put, List.setIfInBounds_toArray, List.set_cons_zero, List.set_cons_succ, i64_w, i32_w]
            rfl
          refine pure_ (i := 11) (N := some 114) (v := undef) (a' := ?_) #[false, true, true, true, true, true, true, true, true, true, true, true, false, false, false, false] rfl rfl (by kernel_rfl) (fun _ _ _ h => h) (Or.inr ⟨by rfl, rfl⟩) ?_ ?_
          rotate_left
          · simp only [Act.put, List.setIfInBounds_toArray, List.set_cons_zero, List.set_cons_succ, i64_w, i32_w]
            rfl
          refine pure_ (i := 12) (N := some 115) (v := undef) (a' := ?_) #[false, true, true, true, true, true, true, true, true, true, true, true, true, false, false, false] rfl rfl (by kernel_rfl) (fun _ _ _ h => h) (Or.inr ⟨by rfl, rfl⟩) ?_ ?_
          rotate_left
          · simp only [Act.put, List.setIfInBounds_toArray, List.set_cons_zero, List.set_cons_succ, i64_w, i32_w]
            rfl
          refine pure_ (i := 13) (N := some 116) (v := ?_) (a' := ?_) #[false, true, true, true, true, true, true, true, true, true, true, true, true, true, false, false] rfl rfl (by kernel_rfl) (fun _ _ _ h => h) (Or.inl ⟨by rfl, ?_⟩) ?_ ?_
          rotate_left
          · intro w'
            go_simp
            with_reducible rfl
          rotate_left
          · simp only [Act.put, List.setIfInBounds_toArray, List.set_cons_zero, List.set_cons_succ, i64_w, i32_w]
            rfl
          refine take_ (i := 0) (N := some 103) (v := ?_) (a' := ?_) #[true, true, true, true, true, true, true, true, true, true, true, true, true, true, false, false] rfl rfl (by kernel_rfl) (fun _ _ _ h => h) (Or.inl ⟨by rfl, ?_⟩) hHeld ?_ ?_
          rotate_left
          · rintro w' ⟨s0, s1, s2, s3, s4, s5, s6, s7, s8, s9, s10, s11, s12⟩
            go_simp
            with_reducible rfl
          rotate_left
          · simp only [Act.put, List.setIfInBounds_toArray, List.set_cons_zero, List.set_cons_succ, i64_w, i32_w]
            rfl
          refine last_ (i := 14) (N := none) #[true, true, true, true, true, true, true, true, true, true, true, true, true, true, true, false] rfl rfl (by kernel_rfl) (by decide) (fun K hK => ?_)
          refine skip_ (w1 := ?_) (by rfl) rfl ?_ ?_
          rotate_left
          · go_simp
            rfl
          refine hK.out _ _ ?_
          clear hK K
          refine pure_ (i := 15) (N := some 3) (v := ?_) (a' := ?_) #[true, true, true, true, true, true, true, true, true, true, true, true, true, true, true, true] rfl rfl (by kernel_rfl) (fun _ _ _ h => h) (Or.inl ⟨by rfl, ?_⟩) ?_ ?_
          rotate_left
          · intro w'
            go_simp
            with_reducible rfl
          rotate_left
          · simp only [Act.put, List.setIfInBounds_toArray, List.set_cons_zero, List.set_cons_succ, i64_w, i32_w]
            rfl
          refine done_ (by kernel_rfl) ?_
          go_wp2
          have hgg := HGG.out
          have hb9 : Below wr.heap.size wr W2 := HBL2.out
          have hv9 := Kd.V_step (w1 := (((((((((((((W2.setCell ⟨w.heap.size, 0, none⟩ (.int .i64 k0)).setCell ⟨w.heap.size, 1, none⟩ (.int .i64 k1)).setCell ⟨w.heap.size, 2, none⟩ (.string t0)).setCell ⟨w.heap.size, 3, none⟩ (.string t1)).setCell ⟨w.heap.size, 4, none⟩ (.string t2)).setCell ⟨w.heap.size, 5, none⟩ (.string t3)).setCell ⟨w.heap.size, 6, none⟩ (.string t4)).setCell ⟨w.heap.size, 7, none⟩ (.string t5)).setCell ⟨w.heap.size, 8, none⟩ (.string t6)).setCell ⟨w.heap.size, 9, none⟩ (.string t7)).setCell ⟨w.heap.size, 10, none⟩ (.string t8)).setCell ⟨w.heap.size, 11, none⟩ (.string t9)).setCell ⟨w.heap.size, 12, none⟩ (.slice A6 ds.length c6)).drew) (Kd.V_below HV6.out hb9) (fun k_ hk_ _ => far13d (by have := hk_.1; omega))
          rw [HXX.out]
          exact ret13 (fill13d BKZ.out) rfl rfl ⟨_, rfl, Kd.V_mono hv9 (fun k_ hk_ => by have := hk_.1; omega), bel13d (below_step HB0r.out hb9) (Nat.le_refl _)⟩
theorem script_step.calls (a0 : ByteArray) (r1 r2 : Int) (r3 r4 r5 r6 r7 r8 r9 r10 r11 r12 : ByteArray) (r13 : List ByteArray) (r14 : Bool) (w : World) (h : script_step.f a0 = some (r1, r2, r3, r4, r5, r6, r7, r8, r9, r10, r11, r12, r13, r14)) (hG : GOK w := by first | assumption | exact hG | exact GOK.drewN _ hG | exact GOK.below hG (by repeat (first | (with_reducible first | exact HB.out | apply below_alloc | apply pw_below_drewN | apply below_drew1 | refine below_set ?_ (Aside0.out (by assumption))) | exact HB.out))) :
    Calls Tryd.prog 18 #[.string a0] w fun e w' => ∃ v12_ : Value, e = .returned (.tuple #[.agg #[.int .i64 r1, .int .i64 r2, .string r3, .string r4, .string r5, .string r6, .string r7, .string r8, .string r9, .string r10, .string r11, .string r12, v12_], .bool r14]) ∧ Kd.V Kd.string 9 w' w.heap.size (fun k_ => (w.heap.size ≤ k_)) v12_ r13 ∧ Below w.heap.size w w' := by
  unfold script_step.f at h
  split at h
  case isFalse => cases h
  rename_i hs
  simp only [Option.some.injEq, Prod.mk.injEq] at h
  obtain ⟨rfl, rfl, rfl, rfl, rfl, rfl, rfl, rfl, rfl, rfl, rfl, rfl, rfl, rfl⟩ := h
  exact step_calls_ a0 hs _ rfl w hG
end Go.Proofs.YtjfajkdamechiaaDoor.X
