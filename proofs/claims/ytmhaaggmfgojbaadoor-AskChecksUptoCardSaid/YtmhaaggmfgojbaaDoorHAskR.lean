/- The reference's Check: what a query asks for, or what is wrong: as ask.Check. -/
import Derived.Test.YtmhaaggmfgojbaaDoorBD
import Derived.Test.YtmhaaggmfgojbaaDoorBG
import Derived.Test.YtmhaaggmfgojbaaDoorBE
namespace Go.Proofs.YtmhaaggmfgojbaaDoor.X
open Go.RowKit Go.Proofs.YtmhaaggmfgojbaaDoorW.PrintWords Go.Proofs.YtmhaaggmfgojbaaDoorW.PrintLast Go.Proofs.YtmhaaggmfgojbaaDoorW.PrintMore Go.Proofs.YtmhaaggmfgojbaaDoor.Spec
set_option linter.unusedVariables false
set_option linter.unusedSimpArgs false

theorem client_ref {a0 a1 a2 : ByteArray} {l : List S43} {l4 : List S129} {id : ByteArray} {x : ByteArray × ByteArray × List ByteArray × Bool} (h : client_Client.f a0 a1 a2 l l4 id = some x) : refClient l id = x := by
 unfold client_Client.f at h
 unfold refClient
 split at h
 ·rename_i hn
  rw [if_pos hn]; exact Option.some.inj h
 ·rename_i hn
  rw [if_neg hn]
  split at h
  ·exact Option.some.inj h
  ·cases h
theorem rgood_f (c : ByteArray) (h : c.size ≤ 35184372088832) : Ev (fun k => exequaturref01_Good.f k c) (goodC c) := by
 unfold exequaturref01_Good.f
 refine Ev.bind (ref_UnB64 c h) ?_
 unfold goodC
 cases hd : (decR (bl c)).2
 ·exact Ev.if_neg (by simp) ((Ev.some _).uni (by simp))
 ·refine Ev.if_pos (by simp) ((Ev.some _).uni ?_)
  rw [size_ba, Bool.true_and, Bool.eq_iff_iff]; simp; omega
theorem drawn_below {w w' : World} (h : Drawn0 w w') : Below w.heap.size w w' := by
 obtain ⟨n, rfl⟩ := h
 exact pw_below_drewN (Below.refl _ _) n
theorem rget_call (l : List Pr) (hl : l.length ≤ 1048576) (A : Option Addr) (c : Nat) (hc : l.length ≤ c) (key : ByteArray) (W : World) (hC : Kd.C k39 W A l.length l) :
  Calls Tryd.prog 13 #[.slice A l.length c, .string key] W fun e w' => e = .returned (.string (askGet l key)) ∧ Below W.heap.size W w' := by
 obtain ⟨k, hk⟩ := (ref_Get l hl key).get
 exact (exequaturref01_Get.calls k A c l key _ W hC hc hk).mono fun e w' ⟨he, hd⟩ => ⟨he, drawn_below hd⟩
theorem rret6 {g : Nat} {w : World} {tmps : Array Value} {u0 u1 u2 u3 u4 u5 v0 v1 : Value} {Q : Ending → World → Prop}
  (h : w.heap[g]? = some (.cells #[u0, u1, u2, u3, u4, u5] 33 (0, 0))) (h4 : tmps.getD 4 undef = .pointer (some ⟨g, 0, none⟩)) (h5 : tmps.getD 5 undef = v0) (h6 : tmps.getD 6 undef = v1)
  (hQ : Q (.returned (.tuple #[.agg #[u0, u1, u2, u3, u4, u5], v0, v1])) w) : bodyPost Tryd.prog Tryd.f9 Q .ret ⟨tmps, []⟩ w := by
 subst h5 h6
 exact bodyPost_ret (results_ctt rfl _ _ g 33 #[u0, u1, u2, u3, u4, u5] (0, 0) _ h4 h Tryd.underlying33 rfl (by kernel_rfl)) rfl hQ
theorem has_take (x : ByteArray) (l : List ByteArray) (i : Nat) (h : i < l.length) : hasT x (l.take (i + 1)) = (hasT x (l.take i) || (x.toList == l[i].toList)) := by
 unfold hasT
 rw [List.take_succ_eq_append_getElem h, List.any_append]
 simp

set_option maxHeartbeats 16000000 in
set_option maxRecDepth 100000 in
theorem ref_Check_ (a0_0 a0_1 a0_2 : ByteArray) (A0_3 : Option Addr) (c0_3 : Nat) (l0_3 : List (S43)) (A0_4 : Option Addr) (c0_4 : Nat) (l0_4 : List (S129)) (a1 : ByteArray) (r : Ask6) (w : World) (hr0_3 : Kd.C k43 w A0_3 l0_3.length l0_3) (hc0_3 : l0_3.length ≤ c0_3) (hr0_4 : Kd.C k129 w A0_4 l0_4.length l0_4) (hc0_4 : l0_4.length ≤ c0_4)
  (h : ask_Check.f a0_0 a0_1 a0_2 l0_3 l0_4 a1 = some r) (hl43 : l0_3.length ≤ 4611686018427387904) :
  Calls Tryd.prog 9 #[.agg #[.string a0_0, .string a0_1, .string a0_2, .slice A0_3 l0_3.length c0_3, .slice A0_4 l0_4.length c0_4], .string a1] w (AskPost w r) := by
 have hu := Tryd.underlying33
 have hu2 := Tryd.underlying27
 have hu3 := Tryd.underlying43
 have HR3 := Aside0.mk hr0_3
 have HR4 := Aside0.mk hr0_4
 unfold ask_Check.f at h
 obtain ⟨⟨l, e⟩, hp, h1⟩ := Option.bind_eq_some_iff.mp h
 have hl64 : l.length ≤ 64 := parse_small _ _ hp
 obtain ⟨kf, hkf⟩ := (ref_Form a1 _ hp).get
 have HP := Aside0.mk hkf
 have H := Aside0.mk h1
 dsimp only at H
 clear hr0_3 hr0_4 hp h h1 hkf
 go_enter Tryd.func9, Tryd.ntmps9
 go_wp2_with fail
 refine (exequaturref01_Form.calls kf a1 l e _ HP.out).mono ?_
 rintro e_ w2 ⟨v2, rfl, hr2, hb⟩
 obtain ⟨A2, c2, rfl, hl2, hC2⟩ := Kd.R_reads hr2
 have HF := Aside0.mk (Kd.F_mono (Kd.R_F (Kd.R_bound hr2)) (ok' := fun k => w.heap.size + 2 ≤ k) (fun k hk => by have := hk.2.1; simp at this; omega))
 have HZ := Aside0.mk (show 0 ≤ w2.heap.size from Nat.zero_le _)
 have HGET := Aside0.mk (fun (key : ByteArray) (W : World) (hC : Kd.C k39 W A2 l.length l) => rget_call l (by omega) A2 c2 hl2 key W hC)
 have b0 : ((w.alloc (.cells #[.string a0_0, .string a0_1, .string a0_2, .slice A0_3 l0_3.length c0_3, .slice A0_4 l0_4.length c0_4] 27)).alloc (.cells #[.string (⟨#[]⟩ : ByteArray), .string (⟨#[]⟩ : ByteArray), .string (⟨#[]⟩ : ByteArray), .string (⟨#[]⟩ : ByteArray), .string (⟨#[]⟩ : ByteArray), .string (⟨#[]⟩ : ByteArray)] 33)).heap[w.heap.size]? = some (.cells #[.string a0_0, .string a0_1, .string a0_2, .slice A0_3 l0_3.length c0_3, .slice A0_4 l0_4.length c0_4] 27) := blk_alloc (blk_new w _) _
 have b4 : ((w.alloc (.cells #[.string a0_0, .string a0_1, .string a0_2, .slice A0_3 l0_3.length c0_3, .slice A0_4 l0_4.length c0_4] 27)).alloc (.cells #[.string (⟨#[]⟩ : ByteArray), .string (⟨#[]⟩ : ByteArray), .string (⟨#[]⟩ : ByteArray), .string (⟨#[]⟩ : ByteArray), .string (⟨#[]⟩ : ByteArray), .string (⟨#[]⟩ : ByteArray)] 33)).heap[w.heap.size + 1]? = some (.cells #[.string (⟨#[]⟩ : ByteArray), .string (⟨#[]⟩ : ByteArray), .string (⟨#[]⟩ : ByteArray), .string (⟨#[]⟩ : ByteArray), .string (⟨#[]⟩ : ByteArray), .string (⟨#[]⟩ : ByteArray)] 33) := by
  have := blk_new (w.alloc (.cells #[.string a0_0, .string a0_1, .string a0_2, .slice A0_3 l0_3.length c0_3, .slice A0_4 l0_4.length c0_4] 27)) (.cells #[.string (⟨#[]⟩ : ByteArray), .string (⟨#[]⟩ : ByteArray), .string (⟨#[]⟩ : ByteArray), .string (⟨#[]⟩ : ByteArray), .string (⟨#[]⟩ : ByteArray), .string (⟨#[]⟩ : ByteArray)] 33)
  simpa using this
 have BK0 := Aside0.mk (blk_below b0 hb)
 have BK4 := Aside0.mk (blk_below b4 hb)
 have HB := Aside0.mk (below_step (below_alloc (below_alloc (Below.refl _ w) (.cells #[.string a0_0, .string a0_1, .string a0_2, .slice A0_3 l0_3.length c0_3, .slice A0_4 l0_4.length c0_4] 27)) (.cells #[.string (⟨#[]⟩ : ByteArray), .string (⟨#[]⟩ : ByteArray), .string (⟨#[]⟩ : ByteArray), .string (⟨#[]⟩ : ByteArray), .string (⟨#[]⟩ : ByteArray), .string (⟨#[]⟩ : ByteArray)] 33)) hb)
 clear hr2 hC2 hb b0 b4
 by_cases he : e = 0
 ·subst he
  have H1 := Aside0.mk (by have := H.out; rw [if_pos rfl] at this; exact this)
  clear H
  obtain ⟨tw, ht, h2⟩ := Option.bind_eq_some_iff.mp H1.out
  have htw : tw = ((distinct (keysOf l)).length != l.length) := by
   unfold pairs_Twice.f at ht
   split at ht
   ·exact (Option.some.inj ht).symm
   ·cases ht
  obtain ⟨kt, hkt⟩ := (ref_Twice l (by omega)).get
  rw [← htw] at hkt
  have HT := Aside0.mk hkt
  have H2 := Aside0.mk h2
  clear ht h2 H1 htw hkt
  go_wp2_with fail
  refine (exequaturref01_Twice.calls kt A2 c2 l tw _ (Kd.F_now HF.out) hl2 HT.out).mono ?_
  rintro e_ w4 ⟨rfl, hd⟩
  have hb := drawn_below hd
  clear hd
  have n_BK0 := Aside0.mk (blk_below BK0.out hb)
  have n_BK4 := Aside0.mk (blk_below BK4.out hb)
  have n_HB := Aside0.mk (below_step HB.out hb)
  have n_HF := Aside0.mk (Kd.F_below HF.out hb)
  have n_HZ := Aside0.mk (Nat.le_trans HZ.out hb.size)
  clear BK0 BK4 HB HF HZ
  have BK0 := n_BK0
  have BK4 := n_BK4
  have HB := n_HB
  have HF := n_HF
  have HZ := n_HZ
  clear n_BK0 n_BK4 n_HB n_HF n_HZ hb
  cases tw with
  | true =>
   have H3 := Aside0.mk (show r = askNo ⟨#[105, 110, 118, 97, 108, 105, 100, 95, 114, 101, 113, 117, 101, 115, 116]⟩ from (Option.some.inj H2.out).symm)
   obtain ⟨d_0, d_1, d_2, d_3, d_4, d_5⟩ := cl6 BK4.out
   obtain ⟨e_0, e_1, e_2, e_3, e_4, e_5⟩ := fz6 BK4.out
   go_wp2
   obtain rfl := H3.out
   refine rret6 (fill6 BK4.out) rfl rfl rfl ?_
   exact ⟨rfl, bel6 HB.out (Nat.le_succ _)⟩
  | false =>
   have H3 := Aside0.mk (by have := H2.out; rw [if_neg (by simp)] at this; exact this)
   clear H2
   obtain ⟨⟨id, sec, tos, found⟩, hcl, h4⟩ := Option.bind_eq_some_iff.mp H3.out
   obtain ⟨kcl, hkcl⟩ := (ref_Client a0_0 a0_1 a0_2 l0_3 l0_4 hl43 (askGet l ⟨#[99, 108, 105, 101, 110, 116, 95, 105, 100]⟩)).get
   rw [client_ref hcl] at hkcl
   have HCL := Aside0.mk hkcl
   have H4 := Aside0.mk h4
   dsimp only at H4
   clear hcl h4 H3 hkcl
   obtain ⟨n4, hn4⟩ : ∃ n, n = w4.heap.size := ⟨_, rfl⟩
   have h4n : w.heap.size + 1 < n4 := by rw [hn4]; exact blk_lt BK4.out
   have m_HF := Aside0.mk (Kd.F_mono (Kd.F_bound HF.out) (ok' := fun k => w.heap.size + 2 ≤ k ∧ k < n4) (fun k hk => by rw [hn4]; exact hk))
   have m_HZ := Aside0.mk (show n4 ≤ w4.heap.size from Nat.le_of_eq hn4)
   clear HF HZ hn4
   have HF := m_HF
   have HZ := m_HZ
   clear m_HF m_HZ
   go_wp2_with fail
   have n_BK0 := Aside0.mk (show w4.drew.heap[w.heap.size]? = _ from BK0.out)
   have n_BK4 := Aside0.mk (show w4.drew.heap[w.heap.size + 1]? = _ from BK4.out)
   have n_HB := Aside0.mk (below_drew1 HB.out)
   have n_HF := Aside0.mk (Kd.F_drew HF.out)
   have n_HZ := Aside0.mk (show _ ≤ w4.drew.heap.size from HZ.out)
   clear BK0 BK4 HB HF HZ
   refine start_ (n := 10) (S := fun w' => w'.cell? ⟨w.heap.size, 0, none⟩ = some (.string a0_0) ∧ w'.cell? ⟨w.heap.size, 1, none⟩ = some (.string a0_1) ∧ w'.cell? ⟨w.heap.size, 2, none⟩ = some (.string a0_2) ∧ w'.cell? ⟨w.heap.size, 3, none⟩ = some (.slice A0_3 l0_3.length c0_3) ∧ w'.cell? ⟨w.heap.size, 4, none⟩ = some (.slice A0_4 l0_4.length c0_4)) (ds := []) #[false, false, false, false, false, false, false, false, false, false] (by kernel_rfl) rfl rfl ⟨((blk_cell n_BK0.out 0).trans rfl), ((blk_cell n_BK0.out 1).trans rfl), ((blk_cell n_BK0.out 2).trans rfl), ((blk_cell n_BK0.out 3).trans rfl), ((blk_cell n_BK0.out 4).trans rfl)⟩ (fun hHeld => ?_)
   have BK0 := n_BK0
   have BK4 := n_BK4
   have HB := n_HB
   have HF := n_HF
   have HZ := n_HZ
   clear n_BK0 n_BK4 n_HB n_HF n_HZ
   generalize w4.drew = w40 at BK0 BK4 HB HF HZ hHeld ⊢
   refine pure_ (i := 1) (N := some 30) (v := ?_) (a' := ?_) #[false, true, false, false, false, false, false, false, false, false] rfl rfl (by kernel_rfl) (fun _ _ _ h => h) (Or.inl ⟨by rfl, ?_⟩) ?_ ?_
   rotate_left
   ·intro w'
    go_simp
    with_reducible rfl
   rotate_left
   ·simp only [Act.put, List.setIfInBounds_toArray, List.set_cons_zero, List.set_cons_succ, i64_w, i32_w]
    rfl
   refine take_ (i := 0) (N := some 29) (v := ?_) (a' := ?_) #[true, true, false, false, false, false, false, false, false, false] rfl rfl (by kernel_rfl) (fun _ _ _ h => h) (Or.inl ⟨by rfl, ?_⟩) hHeld ?_ ?_
   rotate_left
   ·rintro w' ⟨s0, s1, s2, s3, s4⟩
    go_simp
    with_reducible rfl
   rotate_left
   ·simp only [Act.put, List.setIfInBounds_toArray, List.set_cons_zero, List.set_cons_succ, i64_w, i32_w]
    rfl
   refine join_ (σ := Nat × Value) 2 #[true, true, true, true, true, true, true, true, false, false] (fun s_ => [(31, .string (askGet l ⟨#[99, 108, 105, 101, 110, 116, 95, 105, 100]⟩)), (32, .tuple #[.agg #[.string id, .string sec, s_.2], .bool found]), (9, .pointer (some ⟨s_.1, 0, none⟩)), (28, .tuple #[.agg #[.string id, .string sec, s_.2], .bool found]), (33, .agg #[.string id, .string sec, s_.2]), (34, .bool found)]) (fun s_ w' => (w'.cell? ⟨w.heap.size, 0, none⟩ = some (.string a0_0) ∧ w'.cell? ⟨w.heap.size, 1, none⟩ = some (.string a0_1) ∧ w'.cell? ⟨w.heap.size, 2, none⟩ = some (.string a0_2) ∧ w'.cell? ⟨w.heap.size, 3, none⟩ = some (.slice A0_3 l0_3.length c0_3) ∧ w'.cell? ⟨w.heap.size, 4, none⟩ = some (.slice A0_4 l0_4.length c0_4)) ∧ (w'.heap[w.heap.size]? = some (.cells #[.string a0_0, .string a0_1, .string a0_2, .slice A0_3 l0_3.length c0_3, .slice A0_4 l0_4.length c0_4] 27 (0, 0))) ∧ (w'.heap[w.heap.size + 1]? = some (.cells #[.string (⟨#[]⟩ : ByteArray), .string (⟨#[]⟩ : ByteArray), .string (⟨#[]⟩ : ByteArray), .string (⟨#[]⟩ : ByteArray), .string (⟨#[]⟩ : ByteArray), .string (⟨#[]⟩ : ByteArray)] 33 (0, 0))) ∧ (w'.heap[s_.1]? = some (.cells #[.string (⟨#[]⟩ : ByteArray), .string (⟨#[]⟩ : ByteArray), .slice none 0 0] 43 (0, 0))) ∧ n4 ≤ s_.1 ∧ n4 ≤ w'.heap.size ∧ Kd.V Kd.string 9 w' 0 (fun k => (k < w.heap.size ∨ n4 ≤ k) ∧ k ≠ s_.1) s_.2 tos ∧ Kd.F k39 w' (fun k => w.heap.size + 2 ≤ k ∧ k < n4) A2 l.length l ∧ Below w.heap.size w w') ?_ ?_
   rotate_left
   ·intro hCont
    refine two_ (i := 2) (j := 7) (Ni := some 31) (Nj := some 9) #[true, true, true, false, false, false, false, false, false, false] #[true, true, false, false, false, false, false, true, false, false] rfl rfl rfl rfl (by kernel_rfl) (by decide) (by decide) (fun K hK => ?_) (fun K hK => ?_)
    ·skip
     refine goes_ Tryd.func13 (by kernel_rfl) rfl #[.slice A2 l.length c2, .string ⟨#[99, 108, 105, 101, 110, 116, 95, 105, 100]⟩] (by rfl) rfl rfl (by simp only [List.map_toArray, List.map_cons, List.map_nil]; rfl) ?_
     refine (HGET.out ⟨#[99, 108, 105, 101, 110, 116, 95, 105, 100]⟩ _ (Kd.F_now HF.out)).mono ?_
     rintro e_ w_ ⟨rfl, hb⟩
     refine ⟨_, rfl, ?_⟩
     have n_BK0 := Aside0.mk (blk_below BK0.out hb)
     have n_BK4 := Aside0.mk (blk_below BK4.out hb)
     have n_HB := Aside0.mk (below_step HB.out hb)
     have n_HF := Aside0.mk (Kd.F_below HF.out hb)
     have n_HZ := Aside0.mk (Nat.le_trans HZ.out hb.size)
     clear BK0 BK4 HB HF HZ
     have BK0 := n_BK0
     have BK4 := n_BK4
     have HB := n_HB
     have HF := n_HF
     have HZ := n_HZ
     clear n_BK0 n_BK4 n_HB n_HF n_HZ hb
     refine hK.out _ _ ⟨((blk_cell BK0.out 0).trans rfl), ((blk_cell BK0.out 1).trans rfl), ((blk_cell BK0.out 2).trans rfl), ((blk_cell BK0.out 3).trans rfl), ((blk_cell BK0.out 4).trans rfl)⟩ (fun hHeld => ?_)
     clear hK K
     refine norm_ (a' := ?_) ?_ ?_
     rotate_left
     ·show Act.put _ (some 31) _ = _
      simp only [Act.put, List.setIfInBounds_toArray, List.set_cons_zero, List.set_cons_succ, i64_w, i32_w]
      rfl
     refine two_ (i := 3) (j := 7) (Ni := some 32) (Nj := some 9) #[true, true, true, true, false, false, false, false, false, false] #[true, true, true, false, false, false, false, true, false, false] rfl rfl rfl rfl (by kernel_rfl) (by decide) (by decide) (fun K hK => ?_) (fun K hK => ?_)
     ·skip
      refine goes_ Tryd.func11 (by kernel_rfl) rfl #[.agg #[.string a0_0, .string a0_1, .string a0_2, .slice A0_3 l0_3.length c0_3, .slice A0_4 l0_4.length c0_4], .string (askGet l ⟨#[99, 108, 105, 101, 110, 116, 95, 105, 100]⟩)] (by rfl) rfl rfl (by simp only [List.map_toArray, List.map_cons, List.map_nil]; rfl) ?_
      refine (exequaturref13_Client.calls kcl a0_0 a0_1 a0_2 (fun k_ => k_ < w.heap.size) A0_3 c0_3 l0_3 A0_4 c0_4 l0_4 (askGet l ⟨#[99, 108, 105, 101, 110, 116, 95, 105, 100]⟩) id sec tos found _ (Kd.V_mk hc0_3 (Kd.F_below (Kd.C_F k43_heap HR3.out) HB.out)) (Kd.C_below HR4.out HB.out) hc0_4 HCL.out).mono ?_
      rintro e_ w_ ⟨v5, rfl, hv, hb⟩
      refine ⟨_, rfl, ?_⟩
      have HV := Aside0.mk (Kd.V_lower (Kd.V_mono hv (ok' := fun k => k < w.heap.size ∨ n4 ≤ k) (fun k hk => hk.elim Or.inl (fun h => Or.inr (Nat.le_trans HZ.out h)))) (Nat.zero_le _))
      clear hv
      have n_BK0 := Aside0.mk (blk_below BK0.out hb)
      have n_BK4 := Aside0.mk (blk_below BK4.out hb)
      have n_HB := Aside0.mk (below_step HB.out hb)
      have n_HF := Aside0.mk (Kd.F_below HF.out hb)
      have n_HZ := Aside0.mk (Nat.le_trans HZ.out hb.size)
      clear BK0 BK4 HB HF HZ
      have BK0 := n_BK0
      have BK4 := n_BK4
      have HB := n_HB
      have HF := n_HF
      have HZ := n_HZ
      clear n_BK0 n_BK4 n_HB n_HF n_HZ hb
      refine hK.out _ _ ⟨((blk_cell BK0.out 0).trans rfl), ((blk_cell BK0.out 1).trans rfl), ((blk_cell BK0.out 2).trans rfl), ((blk_cell BK0.out 3).trans rfl), ((blk_cell BK0.out 4).trans rfl)⟩ (fun hHeld => ?_)
      clear hK K
      refine norm_ (a' := ?_) ?_ ?_
      rotate_left
      ·show Act.put _ (some 32) _ = _
       simp only [Act.put, List.setIfInBounds_toArray, List.set_cons_zero, List.set_cons_succ, i64_w, i32_w]
       rfl
      refine pure_ (i := 4) (N := some 28) (v := ?_) (a' := ?_) #[true, true, true, true, true, false, false, false, false, false] rfl rfl (by kernel_rfl) (fun _ _ _ h => h) (Or.inl ⟨by rfl, ?_⟩) ?_ ?_
      rotate_left
      ·intro w'
       go_simp
       with_reducible rfl
      rotate_left
      ·simp only [Act.put, List.setIfInBounds_toArray, List.set_cons_zero, List.set_cons_succ, i64_w, i32_w]
       rfl
      refine pure_ (i := 5) (N := some 33) (v := ?_) (a' := ?_) #[true, true, true, true, true, true, false, false, false, false] rfl rfl (by kernel_rfl) (fun _ _ _ h => h) (Or.inl ⟨by rfl, ?_⟩) ?_ ?_
      rotate_left
      ·intro w'
       go_simp
       with_reducible rfl
      rotate_left
      ·simp only [Act.put, List.setIfInBounds_toArray, List.set_cons_zero, List.set_cons_succ, i64_w, i32_w]
       rfl
      refine pure_ (i := 6) (N := some 34) (v := ?_) (a' := ?_) #[true, true, true, true, true, true, true, false, false, false] rfl rfl (by kernel_rfl) (fun _ _ _ h => h) (Or.inl ⟨by rfl, ?_⟩) ?_ ?_
      rotate_left
      ·intro w'
       go_simp
       with_reducible rfl
      rotate_left
      ·simp only [Act.put, List.setIfInBounds_toArray, List.set_cons_zero, List.set_cons_succ, i64_w, i32_w]
       rfl
      refine one_ (i := 7) (N := some 9) #[true, true, true, true, true, true, true, true, false, false] rfl rfl (by kernel_rfl) (by decide) (fun K hK => ?_)
      refine box_step ?hg (N := 9) ?hd (cs := #[.string (⟨#[]⟩ : ByteArray), .string (⟨#[]⟩ : ByteArray), .slice none 0 0]) (t := 43) ?hr ?_; (case hd => rfl); (case hg => rfl); (case hr => first | (go_simp; done) | (go_simp; rfl))
      intro g9 hg w_ hbox hb
      have BK9 := Aside0.mk hbox
      have HGE := (show n4 ≤ g9 from by rw [hg]; exact HZ.out)
      have n_HV := Aside0.mk (Kd.V_elderB HV.out g9 (Nat.le_of_eq hg.symm))
      clear HV
      have HV := n_HV
      clear n_HV
      clear hg hbox
      have n_BK0 := Aside0.mk (blk_below BK0.out hb)
      have n_BK4 := Aside0.mk (blk_below BK4.out hb)
      have n_HB := Aside0.mk (below_step HB.out hb)
      have n_HF := Aside0.mk (Kd.F_below HF.out hb)
      have n_HZ := Aside0.mk (Nat.le_trans HZ.out hb.size)
      have n_HV := Aside0.mk (Kd.V_below HV.out hb)
      clear BK0 BK4 HB HF HZ HV
      have BK0 := n_BK0
      have BK4 := n_BK4
      have HB := n_HB
      have HF := n_HF
      have HZ := n_HZ
      have HV := n_HV
      clear n_BK0 n_BK4 n_HB n_HF n_HZ n_HV hb
      refine hK.out _ _ ⟨((blk_cell BK0.out 0).trans rfl), ((blk_cell BK0.out 1).trans rfl), ((blk_cell BK0.out 2).trans rfl), ((blk_cell BK0.out 3).trans rfl), ((blk_cell BK0.out 4).trans rfl)⟩ (fun hHeld => ?_)
      clear hK K
      refine norm_ (a' := ?_) ?_ ?_
      rotate_left
      ·show Act.put _ (some 9) _ = _
       simp only [Act.put, List.setIfInBounds_toArray, List.set_cons_zero, List.set_cons_succ, i64_w, i32_w]
       rfl
      exact norm_ (by simp only [putAll, Act.put, List.setIfInBounds_toArray, List.set_cons_zero, List.set_cons_succ]) (hCont (g9, v5) _ ⟨hHeld, BK0.out, BK4.out, BK9.out, HGE, HZ.out, HV.out, HF.out, HB.out⟩)
     ·skip
      refine box_step ?hg (N := 9) ?hd (cs := #[.string (⟨#[]⟩ : ByteArray), .string (⟨#[]⟩ : ByteArray), .slice none 0 0]) (t := 43) ?hr ?_; (case hd => rfl); (case hg => rfl); (case hr => first | (go_simp; done) | (go_simp; rfl))
      intro g9 hg w_ hbox hb
      have BK9 := Aside0.mk hbox
      have HGE := (show n4 ≤ g9 from by rw [hg]; exact HZ.out)
      clear hg hbox
      have n_BK0 := Aside0.mk (blk_below BK0.out hb)
      have n_BK4 := Aside0.mk (blk_below BK4.out hb)
      have n_HB := Aside0.mk (below_step HB.out hb)
      have n_HF := Aside0.mk (Kd.F_below HF.out hb)
      have n_HZ := Aside0.mk (Nat.le_trans HZ.out hb.size)
      clear BK0 BK4 HB HF HZ
      have BK0 := n_BK0
      have BK4 := n_BK4
      have HB := n_HB
      have HF := n_HF
      have HZ := n_HZ
      clear n_BK0 n_BK4 n_HB n_HF n_HZ hb
      refine hK.out _ _ ⟨((blk_cell BK0.out 0).trans rfl), ((blk_cell BK0.out 1).trans rfl), ((blk_cell BK0.out 2).trans rfl), ((blk_cell BK0.out 3).trans rfl), ((blk_cell BK0.out 4).trans rfl)⟩ (fun hHeld => ?_)
      clear hK K
      refine norm_ (a' := ?_) ?_ ?_
      rotate_left
      ·show Act.put _ (some 9) _ = _
       simp only [Act.put, List.setIfInBounds_toArray, List.set_cons_zero, List.set_cons_succ, i64_w, i32_w]
       rfl
      refine one_ (i := 3) (N := some 32) #[true, true, true, true, false, false, false, true, false, false] rfl rfl (by kernel_rfl) (by decide) (fun K hK => ?_)
      refine goes_ Tryd.func11 (by kernel_rfl) rfl #[.agg #[.string a0_0, .string a0_1, .string a0_2, .slice A0_3 l0_3.length c0_3, .slice A0_4 l0_4.length c0_4], .string (askGet l ⟨#[99, 108, 105, 101, 110, 116, 95, 105, 100]⟩)] (by rfl) rfl rfl (by simp only [List.map_toArray, List.map_cons, List.map_nil]; rfl) ?_
      refine (exequaturref13_Client.calls kcl a0_0 a0_1 a0_2 (fun k_ => k_ < w.heap.size) A0_3 c0_3 l0_3 A0_4 c0_4 l0_4 (askGet l ⟨#[99, 108, 105, 101, 110, 116, 95, 105, 100]⟩) id sec tos found _ (Kd.V_mk hc0_3 (Kd.F_below (Kd.C_F k43_heap HR3.out) HB.out)) (Kd.C_below HR4.out HB.out) hc0_4 HCL.out).mono ?_
      rintro e_ w_ ⟨v5, rfl, hv, hb⟩
      refine ⟨_, rfl, ?_⟩
      have HV := Aside0.mk (Kd.V_lower (Kd.V_mono hv (ok' := fun k => (k < w.heap.size ∨ n4 ≤ k) ∧ k ≠ g9) (fun k hk => ⟨hk.elim Or.inl (fun h => Or.inr (Nat.le_trans HZ.out h)), hk.elim (fun h => Nat.ne_of_lt (Nat.lt_of_lt_of_le h (by omega))) (fun h => Nat.ne_of_gt (Nat.lt_of_lt_of_le (blk_lt BK9.out) h))⟩)) (Nat.zero_le _))
      clear hv
      have n_BK0 := Aside0.mk (blk_below BK0.out hb)
      have n_BK4 := Aside0.mk (blk_below BK4.out hb)
      have n_BK9 := Aside0.mk (blk_below BK9.out hb)
      have n_HB := Aside0.mk (below_step HB.out hb)
      have n_HF := Aside0.mk (Kd.F_below HF.out hb)
      have n_HZ := Aside0.mk (Nat.le_trans HZ.out hb.size)
      clear BK0 BK4 BK9 HB HF HZ
      have BK0 := n_BK0
      have BK4 := n_BK4
      have BK9 := n_BK9
      have HB := n_HB
      have HF := n_HF
      have HZ := n_HZ
      clear n_BK0 n_BK4 n_BK9 n_HB n_HF n_HZ hb
      refine hK.out _ _ ⟨((blk_cell BK0.out 0).trans rfl), ((blk_cell BK0.out 1).trans rfl), ((blk_cell BK0.out 2).trans rfl), ((blk_cell BK0.out 3).trans rfl), ((blk_cell BK0.out 4).trans rfl)⟩ (fun hHeld => ?_)
      clear hK K
      refine norm_ (a' := ?_) ?_ ?_
      rotate_left
      ·show Act.put _ (some 32) _ = _
       simp only [Act.put, List.setIfInBounds_toArray, List.set_cons_zero, List.set_cons_succ, i64_w, i32_w]
       rfl
      refine pure_ (i := 4) (N := some 28) (v := ?_) (a' := ?_) #[true, true, true, true, true, false, false, true, false, false] rfl rfl (by kernel_rfl) (fun _ _ _ h => h) (Or.inl ⟨by rfl, ?_⟩) ?_ ?_
      rotate_left
      ·intro w'
       go_simp
       with_reducible rfl
      rotate_left
      ·simp only [Act.put, List.setIfInBounds_toArray, List.set_cons_zero, List.set_cons_succ, i64_w, i32_w]
       rfl
      refine pure_ (i := 5) (N := some 33) (v := ?_) (a' := ?_) #[true, true, true, true, true, true, false, true, false, false] rfl rfl (by kernel_rfl) (fun _ _ _ h => h) (Or.inl ⟨by rfl, ?_⟩) ?_ ?_
      rotate_left
      ·intro w'
       go_simp
       with_reducible rfl
      rotate_left
      ·simp only [Act.put, List.setIfInBounds_toArray, List.set_cons_zero, List.set_cons_succ, i64_w, i32_w]
       rfl
      refine pure_ (i := 6) (N := some 34) (v := ?_) (a' := ?_) #[true, true, true, true, true, true, true, true, false, false] rfl rfl (by kernel_rfl) (fun _ _ _ h => h) (Or.inl ⟨by rfl, ?_⟩) ?_ ?_
      rotate_left
      ·intro w'
       go_simp
       with_reducible rfl
      rotate_left
      ·simp only [Act.put, List.setIfInBounds_toArray, List.set_cons_zero, List.set_cons_succ, i64_w, i32_w]
       rfl
      exact norm_ (by simp only [putAll, Act.put, List.setIfInBounds_toArray, List.set_cons_zero, List.set_cons_succ]) (hCont (g9, v5) _ ⟨hHeld, BK0.out, BK4.out, BK9.out, HGE, HZ.out, HV.out, HF.out, HB.out⟩)
    ·skip
     refine box_step ?hg (N := 9) ?hd (cs := #[.string (⟨#[]⟩ : ByteArray), .string (⟨#[]⟩ : ByteArray), .slice none 0 0]) (t := 43) ?hr ?_; (case hd => rfl); (case hg => rfl); (case hr => first | (go_simp; done) | (go_simp; rfl))
     intro g9 hg w_ hbox hb
     have BK9 := Aside0.mk hbox
     have HGE := (show n4 ≤ g9 from by rw [hg]; exact HZ.out)
     clear hg hbox
     have n_BK0 := Aside0.mk (blk_below BK0.out hb)
     have n_BK4 := Aside0.mk (blk_below BK4.out hb)
     have n_HB := Aside0.mk (below_step HB.out hb)
     have n_HF := Aside0.mk (Kd.F_below HF.out hb)
     have n_HZ := Aside0.mk (Nat.le_trans HZ.out hb.size)
     clear BK0 BK4 HB HF HZ
     have BK0 := n_BK0
     have BK4 := n_BK4
     have HB := n_HB
     have HF := n_HF
     have HZ := n_HZ
     clear n_BK0 n_BK4 n_HB n_HF n_HZ hb
     refine hK.out _ _ ⟨((blk_cell BK0.out 0).trans rfl), ((blk_cell BK0.out 1).trans rfl), ((blk_cell BK0.out 2).trans rfl), ((blk_cell BK0.out 3).trans rfl), ((blk_cell BK0.out 4).trans rfl)⟩ (fun hHeld => ?_)
     clear hK K
     refine norm_ (a' := ?_) ?_ ?_
     rotate_left
     ·show Act.put _ (some 9) _ = _
      simp only [Act.put, List.setIfInBounds_toArray, List.set_cons_zero, List.set_cons_succ, i64_w, i32_w]
      rfl
     refine one_ (i := 2) (N := some 31) #[true, true, true, false, false, false, false, true, false, false] rfl rfl (by kernel_rfl) (by decide) (fun K hK => ?_)
     refine goes_ Tryd.func13 (by kernel_rfl) rfl #[.slice A2 l.length c2, .string ⟨#[99, 108, 105, 101, 110, 116, 95, 105, 100]⟩] (by rfl) rfl rfl (by simp only [List.map_toArray, List.map_cons, List.map_nil]; rfl) ?_
     refine (HGET.out ⟨#[99, 108, 105, 101, 110, 116, 95, 105, 100]⟩ _ (Kd.F_now HF.out)).mono ?_
     rintro e_ w_ ⟨rfl, hb⟩
     refine ⟨_, rfl, ?_⟩
     have n_BK0 := Aside0.mk (blk_below BK0.out hb)
     have n_BK4 := Aside0.mk (blk_below BK4.out hb)
     have n_BK9 := Aside0.mk (blk_below BK9.out hb)
     have n_HB := Aside0.mk (below_step HB.out hb)
     have n_HF := Aside0.mk (Kd.F_below HF.out hb)
     have n_HZ := Aside0.mk (Nat.le_trans HZ.out hb.size)
     clear BK0 BK4 BK9 HB HF HZ
     have BK0 := n_BK0
     have BK4 := n_BK4
     have BK9 := n_BK9
     have HB := n_HB
     have HF := n_HF
     have HZ := n_HZ
     clear n_BK0 n_BK4 n_BK9 n_HB n_HF n_HZ hb
     refine hK.out _ _ ⟨((blk_cell BK0.out 0).trans rfl), ((blk_cell BK0.out 1).trans rfl), ((blk_cell BK0.out 2).trans rfl), ((blk_cell BK0.out 3).trans rfl), ((blk_cell BK0.out 4).trans rfl)⟩ (fun hHeld => ?_)
     clear hK K
     refine norm_ (a' := ?_) ?_ ?_
     rotate_left
     ·show Act.put _ (some 31) _ = _
      simp only [Act.put, List.setIfInBounds_toArray, List.set_cons_zero, List.set_cons_succ, i64_w, i32_w]
      rfl
     refine one_ (i := 3) (N := some 32) #[true, true, true, true, false, false, false, true, false, false] rfl rfl (by kernel_rfl) (by decide) (fun K hK => ?_)
     refine goes_ Tryd.func11 (by kernel_rfl) rfl #[.agg #[.string a0_0, .string a0_1, .string a0_2, .slice A0_3 l0_3.length c0_3, .slice A0_4 l0_4.length c0_4], .string (askGet l ⟨#[99, 108, 105, 101, 110, 116, 95, 105, 100]⟩)] (by rfl) rfl rfl (by simp only [List.map_toArray, List.map_cons, List.map_nil]; rfl) ?_
     refine (exequaturref13_Client.calls kcl a0_0 a0_1 a0_2 (fun k_ => k_ < w.heap.size) A0_3 c0_3 l0_3 A0_4 c0_4 l0_4 (askGet l ⟨#[99, 108, 105, 101, 110, 116, 95, 105, 100]⟩) id sec tos found _ (Kd.V_mk hc0_3 (Kd.F_below (Kd.C_F k43_heap HR3.out) HB.out)) (Kd.C_below HR4.out HB.out) hc0_4 HCL.out).mono ?_
     rintro e_ w_ ⟨v5, rfl, hv, hb⟩
     refine ⟨_, rfl, ?_⟩
     have HV := Aside0.mk (Kd.V_lower (Kd.V_mono hv (ok' := fun k => (k < w.heap.size ∨ n4 ≤ k) ∧ k ≠ g9) (fun k hk => ⟨hk.elim Or.inl (fun h => Or.inr (Nat.le_trans HZ.out h)), hk.elim (fun h => Nat.ne_of_lt (Nat.lt_of_lt_of_le h (by omega))) (fun h => Nat.ne_of_gt (Nat.lt_of_lt_of_le (blk_lt BK9.out) h))⟩)) (Nat.zero_le _))
     clear hv
     have n_BK0 := Aside0.mk (blk_below BK0.out hb)
     have n_BK4 := Aside0.mk (blk_below BK4.out hb)
     have n_BK9 := Aside0.mk (blk_below BK9.out hb)
     have n_HB := Aside0.mk (below_step HB.out hb)
     have n_HF := Aside0.mk (Kd.F_below HF.out hb)
     have n_HZ := Aside0.mk (Nat.le_trans HZ.out hb.size)
     clear BK0 BK4 BK9 HB HF HZ
     have BK0 := n_BK0
     have BK4 := n_BK4
     have BK9 := n_BK9
     have HB := n_HB
     have HF := n_HF
     have HZ := n_HZ
     clear n_BK0 n_BK4 n_BK9 n_HB n_HF n_HZ hb
     refine hK.out _ _ ⟨((blk_cell BK0.out 0).trans rfl), ((blk_cell BK0.out 1).trans rfl), ((blk_cell BK0.out 2).trans rfl), ((blk_cell BK0.out 3).trans rfl), ((blk_cell BK0.out 4).trans rfl)⟩ (fun hHeld => ?_)
     clear hK K
     refine norm_ (a' := ?_) ?_ ?_
     rotate_left
     ·show Act.put _ (some 32) _ = _
      simp only [Act.put, List.setIfInBounds_toArray, List.set_cons_zero, List.set_cons_succ, i64_w, i32_w]
      rfl
     refine pure_ (i := 4) (N := some 28) (v := ?_) (a' := ?_) #[true, true, true, true, true, false, false, true, false, false] rfl rfl (by kernel_rfl) (fun _ _ _ h => h) (Or.inl ⟨by rfl, ?_⟩) ?_ ?_
     rotate_left
     ·intro w'
      go_simp
      with_reducible rfl
     rotate_left
     ·simp only [Act.put, List.setIfInBounds_toArray, List.set_cons_zero, List.set_cons_succ, i64_w, i32_w]
      rfl
     refine pure_ (i := 5) (N := some 33) (v := ?_) (a' := ?_) #[true, true, true, true, true, true, false, true, false, false] rfl rfl (by kernel_rfl) (fun _ _ _ h => h) (Or.inl ⟨by rfl, ?_⟩) ?_ ?_
     rotate_left
     ·intro w'
      go_simp
      with_reducible rfl
     rotate_left
     ·simp only [Act.put, List.setIfInBounds_toArray, List.set_cons_zero, List.set_cons_succ, i64_w, i32_w]
      rfl
     refine pure_ (i := 6) (N := some 34) (v := ?_) (a' := ?_) #[true, true, true, true, true, true, true, true, false, false] rfl rfl (by kernel_rfl) (fun _ _ _ h => h) (Or.inl ⟨by rfl, ?_⟩) ?_ ?_
     rotate_left
     ·intro w'
      go_simp
      with_reducible rfl
     rotate_left
     ·simp only [Act.put, List.setIfInBounds_toArray, List.set_cons_zero, List.set_cons_succ, i64_w, i32_w]
      rfl
     exact norm_ (by simp only [putAll, Act.put, List.setIfInBounds_toArray, List.set_cons_zero, List.set_cons_succ]) (hCont (g9, v5) _ ⟨hHeld, BK0.out, BK4.out, BK9.out, HGE, HZ.out, HV.out, HF.out, HB.out⟩)
   rintro ⟨g9, v5⟩ w5 ⟨hHeld, k0, k4, k9, hge, hz, hv, hf, hb⟩
   have BK0 := Aside0.mk k0
   have BK4 := Aside0.mk k4
   have BK9 := Aside0.mk k9
   have HZ := Aside0.mk hz
   have HV := Aside0.mk hv
   have HF := Aside0.mk hf
   have HB := Aside0.mk hb
   dsimp only at hge BK9 HV
   clear k0 k4 k9 hz hv hf hb
   obtain ⟨A5, c5, rfl⟩ := Kd.V_slice HV.out
   refine norm_ (a' := ?_) ?_ ?_
   rotate_left
   ·simp only [putAll, Act.put, List.setIfInBounds_toArray, List.set_cons_zero, List.set_cons_succ]
    rfl
   refine one_ (i := 8) (N := none) #[true, true, true, true, true, true, true, true, true, false] rfl rfl (by kernel_rfl) (by decide) (fun K hK => ?_)
   obtain ⟨d_0, d_1, d_2⟩ := cl3 BK9.out
   obtain ⟨e_0, e_1, e_2⟩ := fz3 BK9.out
   refine skip_ (w1 := ?_) (by rfl) rfl ?_ ?_
   rotate_left
   ·go_simp
    rfl
   clear d_0 d_1 d_2 e_0 e_1 e_2
   have n_BK9 := Aside0.mk (fill3 (u0 := .string id) (u1 := .string sec) (u2 := .slice A5 tos.length c5) BK9.out)
   have n_BK0 := Aside0.mk (far3 (u0 := .string id) (u1 := .string sec) (u2 := .slice A5 tos.length c5) (g := g9) BK0.out (by omega))
   have n_BK4 := Aside0.mk (far3 (u0 := .string id) (u1 := .string sec) (u2 := .slice A5 tos.length c5) (g := g9) BK4.out (by omega))
   have n_HB := Aside0.mk (bel3 (u0 := .string id) (u1 := .string sec) (u2 := .slice A5 tos.length c5) (g := g9) HB.out (by omega))
   have n_HF := Aside0.mk (Ff3 (u0 := .string id) (u1 := .string sec) (u2 := .slice A5 tos.length c5) (g := g9) HF.out (fun k hk => by omega))
   have n_HZ := Aside0.mk (siz3 (u0 := .string id) (u1 := .string sec) (u2 := .slice A5 tos.length c5) (g := g9) HZ.out)
   have n_HV := Aside0.mk (Vf3 (u0 := .string id) (u1 := .string sec) (u2 := .slice A5 tos.length c5) (g := g9) HV.out (fun k hk => hk.2))
   clear BK9 BK0 BK4 HB HF HZ HV
   have BK9 := n_BK9
   have BK0 := n_BK0
   have BK4 := n_BK4
   have HB := n_HB
   have HF := n_HF
   have HZ := n_HZ
   have HV := n_HV
   clear n_BK9 n_BK0 n_BK4 n_HB n_HF n_HZ n_HV
   refine hK.out _ _ ⟨((blk_cell BK0.out 0).trans rfl), ((blk_cell BK0.out 1).trans rfl), ((blk_cell BK0.out 2).trans rfl), ((blk_cell BK0.out 3).trans rfl), ((blk_cell BK0.out 4).trans rfl)⟩ (fun hHeld => ?_)
   clear hK K
   refine pure_ (i := 9) (N := some 10) (v := ?_) (a' := ?_) #[true, true, true, true, true, true, true, true, true, true] rfl rfl (by kernel_rfl) (fun _ _ _ h => h) (Or.inl ⟨by rfl, ?_⟩) ?_ ?_
   rotate_left
   ·intro w'
    go_simp
    with_reducible rfl
   rotate_left
   ·simp only [Act.put, List.setIfInBounds_toArray, List.set_cons_zero, List.set_cons_succ, i64_w, i32_w]
    rfl
   refine done_ (by kernel_rfl) ?_
   generalize (((w5.setCell ⟨g9, 0, none⟩ (.string id)).setCell ⟨g9, 1, none⟩ (.string sec)).setCell ⟨g9, 2, none⟩ (.slice A5 tos.length c5)) = w6 at BK0 BK4 BK9 HB HF HV HZ ⊢
   cases found with
   | false =>
    have H5 := Aside0.mk (show r = askNo ⟨#[105, 110, 118, 97, 108, 105, 100, 95, 99, 108, 105, 101, 110, 116]⟩ from by have := H4.out; rw [if_neg (by simp)] at this; exact (Option.some.inj this).symm)
    obtain ⟨d_0, d_1, d_2, d_3, d_4, d_5⟩ := cl6 BK4.out
    obtain ⟨e_0, e_1, e_2, e_3, e_4, e_5⟩ := fz6 BK4.out
    go_wp2
    obtain rfl := H5.out
    refine rret6 (fill6 BK4.out) rfl rfl rfl ?_
    exact ⟨rfl, bel6 HB.out (by omega)⟩
   | true =>
    have hq := H4.out
    rw [if_pos rfl] at hq
    split at hq
    case isFalse => cases hq
    rename_i hlen
    unfold askOf at hq
    obtain ⟨re, h_re⟩ : ∃ x, x = (askGet l ⟨#[114, 101, 100, 105, 114, 101, 99, 116, 95, 117, 114, 105]⟩) := ⟨_, rfl⟩
    obtain ⟨st, h_st⟩ : ∃ x, x = (askGet l ⟨#[115, 116, 97, 116, 101]⟩) := ⟨_, rfl⟩
    obtain ⟨no, h_no⟩ : ∃ x, x = (askGet l ⟨#[110, 111, 110, 99, 101]⟩) := ⟨_, rfl⟩
    obtain ⟨sc, h_sc⟩ : ∃ x, x = (askGet l ⟨#[115, 99, 111, 112, 101]⟩) := ⟨_, rfl⟩
    obtain ⟨ch, h_ch⟩ : ∃ x, x = (askGet l ⟨#[99, 111, 100, 101, 95, 99, 104, 97, 108, 108, 101, 110, 103, 101]⟩) := ⟨_, rfl⟩
    obtain ⟨rd, hrd⟩ : ∃ x, x = hasT re tos := ⟨_, rfl⟩
    obtain ⟨pr, hpr⟩ : ∃ x, x = askProblem st no sc ch l := ⟨_, rfl⟩
    rw [← h_re, ← h_st, ← h_no, ← h_sc, ← h_ch, ← hrd, ← hpr] at hq
    have HQ := Aside0.mk hq
    have HPR := Aside0.mk hpr
    have G_re := Aside0.mk h_re
    have G_st := Aside0.mk h_st
    have G_no := Aside0.mk h_no
    have G_sc := Aside0.mk h_sc
    have G_ch := Aside0.mk h_ch
    obtain ⟨kq, hkq⟩ := (ref_Redirect id sec tos (by omega) re).get
    rw [hasB_eq, ← hrd] at hkq
    have HRD := Aside0.mk hkq
    clear hrd hkq hlen hq H4 hpr h_re h_st h_no h_sc h_ch
    go_wp2_with fail
    have n_BK0 := Aside0.mk (show w6.drew.heap[w.heap.size]? = _ from BK0.out)
    have n_BK4 := Aside0.mk (show w6.drew.heap[w.heap.size + 1]? = _ from BK4.out)
    have n_HB := Aside0.mk (below_drew1 HB.out)
    have n_HF := Aside0.mk (Kd.F_drew HF.out)
    have n_HZ := Aside0.mk (show _ ≤ w6.drew.heap.size from HZ.out)
    have n_BK9 := Aside0.mk (show w6.drew.heap[g9]? = _ from BK9.out)
    have n_HV := Aside0.mk (Kd.V_drew HV.out)
    clear BK0 BK4 HB HF HZ BK9 HV
    refine start_ (n := 15) (S := fun w' => w'.cell? ⟨g9, 0, none⟩ = some (.string id)) (ds := []) #[false, false, false, false, false, false, false, false, false, false, false, false, false, false, false] (by kernel_rfl) rfl rfl (((blk_cell n_BK9.out 0).trans rfl)) (fun hHeld => ?_)
    have BK0 := n_BK0
    have BK4 := n_BK4
    have HB := n_HB
    have HF := n_HF
    have HZ := n_HZ
    have BK9 := n_BK9
    have HV := n_HV
    clear n_BK0 n_BK4 n_HB n_HF n_HZ n_BK9 n_HV
    generalize w6.drew = w7 at BK0 BK4 HB HF HZ BK9 HV hHeld ⊢
    refine pure_ (i := 0) (N := some 38) (v := ?_) (a' := ?_) #[true, false, false, false, false, false, false, false, false, false, false, false, false, false, false] rfl rfl (by kernel_rfl) (fun _ _ _ h => h) (Or.inl ⟨by rfl, ?_⟩) ?_ ?_
    rotate_left
    ·intro w'
     go_simp
     with_reducible rfl
    rotate_left
    ·simp only [Act.put, List.setIfInBounds_toArray, List.set_cons_zero, List.set_cons_succ, i64_w, i32_w]
     rfl
    refine pure_ (i := 2) (N := some 40) (v := ?_) (a' := ?_) #[true, false, true, false, false, false, false, false, false, false, false, false, false, false, false] rfl rfl (by kernel_rfl) (fun _ _ _ h => h) (Or.inl ⟨by rfl, ?_⟩) ?_ ?_
    rotate_left
    ·intro w'
     go_simp
     with_reducible rfl
    rotate_left
    ·simp only [Act.put, List.setIfInBounds_toArray, List.set_cons_zero, List.set_cons_succ, i64_w, i32_w]
     rfl
    refine pure_ (i := 4) (N := some 42) (v := ?_) (a' := ?_) #[true, false, true, false, true, false, false, false, false, false, false, false, false, false, false] rfl rfl (by kernel_rfl) (fun _ _ _ h => h) (Or.inl ⟨by rfl, ?_⟩) ?_ ?_
    rotate_left
    ·intro w'
     go_simp
     with_reducible rfl
    rotate_left
    ·simp only [Act.put, List.setIfInBounds_toArray, List.set_cons_zero, List.set_cons_succ, i64_w, i32_w]
     rfl
    refine pure_ (i := 6) (N := some 44) (v := ?_) (a' := ?_) #[true, false, true, false, true, false, true, false, false, false, false, false, false, false, false] rfl rfl (by kernel_rfl) (fun _ _ _ h => h) (Or.inl ⟨by rfl, ?_⟩) ?_ ?_
    rotate_left
    ·intro w'
     go_simp
     with_reducible rfl
    rotate_left
    ·simp only [Act.put, List.setIfInBounds_toArray, List.set_cons_zero, List.set_cons_succ, i64_w, i32_w]
     rfl
    refine pure_ (i := 8) (N := some 46) (v := ?_) (a' := ?_) #[true, false, true, false, true, false, true, false, true, false, false, false, false, false, false] rfl rfl (by kernel_rfl) (fun _ _ _ h => h) (Or.inl ⟨by rfl, ?_⟩) ?_ ?_
    rotate_left
    ·intro w'
     go_simp
     with_reducible rfl
    rotate_left
    ·simp only [Act.put, List.setIfInBounds_toArray, List.set_cons_zero, List.set_cons_succ, i64_w, i32_w]
     rfl
    refine pure_ (i := 10) (N := some 48) (v := ?_) (a' := ?_) #[true, false, true, false, true, false, true, false, true, false, true, false, false, false, false] rfl rfl (by kernel_rfl) (fun _ _ _ h => h) (Or.inl ⟨by rfl, ?_⟩) ?_ ?_
    rotate_left
    ·intro w'
     go_simp
     with_reducible rfl
    rotate_left
    ·simp only [Act.put, List.setIfInBounds_toArray, List.set_cons_zero, List.set_cons_succ, i64_w, i32_w]
     rfl
    refine take_ (i := 1) (N := some 39) (v := ?_) (a' := ?_) #[true, true, true, false, true, false, true, false, true, false, true, false, false, false, false] rfl rfl (by kernel_rfl) (fun _ _ _ h => h) (Or.inl ⟨by rfl, ?_⟩) hHeld ?_ ?_
    rotate_left
    ·intro w' s0
     go_simp
     with_reducible rfl
    rotate_left
    ·simp only [Act.put, List.setIfInBounds_toArray, List.set_cons_zero, List.set_cons_succ, i64_w, i32_w]
     rfl
    refine join_ (σ := Nat) 1 #[true, true, true, true, true, true, true, true, true, true, true, true, true, true, false] (fun s_ => [(41, .string re), (43, .string st), (45, .string no), (47, .string sc), (49, .string ch), (11, .pointer (some ⟨s_, 0, none⟩)), (50, .agg #[.string id, .string re, .string st, .string no, .string sc, .string ch])]) (fun s_ w' => (w'.cell? ⟨g9, 0, none⟩ = some (.string id)) ∧ (w'.heap[w.heap.size]? = some (.cells #[.string a0_0, .string a0_1, .string a0_2, .slice A0_3 l0_3.length c0_3, .slice A0_4 l0_4.length c0_4] 27 (0, 0))) ∧ (w'.heap[w.heap.size + 1]? = some (.cells #[.string (⟨#[]⟩ : ByteArray), .string (⟨#[]⟩ : ByteArray), .string (⟨#[]⟩ : ByteArray), .string (⟨#[]⟩ : ByteArray), .string (⟨#[]⟩ : ByteArray), .string (⟨#[]⟩ : ByteArray)] 33 (0, 0))) ∧ (w'.heap[g9]? = some (.cells #[.string id, .string sec, .slice A5 tos.length c5] 43 (0, 0))) ∧ (w'.heap[s_]? = some (.cells #[.string (⟨#[]⟩ : ByteArray), .string (⟨#[]⟩ : ByteArray), .string (⟨#[]⟩ : ByteArray), .string (⟨#[]⟩ : ByteArray), .string (⟨#[]⟩ : ByteArray), .string (⟨#[]⟩ : ByteArray)] 33 (0, 0))) ∧ n4 ≤ s_ ∧ g9 < s_ ∧ n4 ≤ w'.heap.size ∧ Kd.V Kd.string 9 w' 0 (fun k => ((k < w.heap.size ∨ n4 ≤ k) ∧ k ≠ g9) ∧ k ≠ s_) (.slice A5 tos.length c5) tos ∧ Kd.F k39 w' (fun k => w.heap.size + 2 ≤ k ∧ k < n4) A2 l.length l ∧ Below w.heap.size w w') ?_ ?_
    rotate_left
    ·intro hCont
     refine two_ (i := 3) (j := 13) (Ni := some 41) (Nj := some 11) #[true, true, true, true, true, false, true, false, true, false, true, false, false, false, false] #[true, true, true, false, true, false, true, false, true, false, true, false, false, true, false] rfl rfl rfl rfl (by kernel_rfl) (by decide) (by decide) (fun K hK => ?_) (fun K hK => ?_)
     ·skip
      refine goes_ Tryd.func13 (by kernel_rfl) rfl #[.slice A2 l.length c2, .string ⟨#[114, 101, 100, 105, 114, 101, 99, 116, 95, 117, 114, 105]⟩] (by rfl) rfl rfl (by simp only [List.map_toArray, List.map_cons, List.map_nil]; rfl) ?_
      refine (HGET.out ⟨#[114, 101, 100, 105, 114, 101, 99, 116, 95, 117, 114, 105]⟩ _ (Kd.F_now HF.out)).mono ?_
      rw [← G_re.out]
      rintro e_ w_ ⟨rfl, hb⟩
      refine ⟨_, rfl, ?_⟩
      have n_BK0 := Aside0.mk (blk_below BK0.out hb)
      have n_BK4 := Aside0.mk (blk_below BK4.out hb)
      have n_BK9 := Aside0.mk (blk_below BK9.out hb)
      have n_HB := Aside0.mk (below_step HB.out hb)
      have n_HF := Aside0.mk (Kd.F_below HF.out hb)
      have n_HZ := Aside0.mk (Nat.le_trans HZ.out hb.size)
      have n_HV := Aside0.mk (Kd.V_below HV.out hb)
      clear BK0 BK4 BK9 HB HF HZ HV
      have BK0 := n_BK0
      have BK4 := n_BK4
      have BK9 := n_BK9
      have HB := n_HB
      have HF := n_HF
      have HZ := n_HZ
      have HV := n_HV
      clear n_BK0 n_BK4 n_BK9 n_HB n_HF n_HZ n_HV hb
      refine hK.out _ _ (((blk_cell BK9.out 0).trans rfl)) (fun hHeld => ?_)
      clear hK K
      refine norm_ (a' := ?_) ?_ ?_
      rotate_left
      ·show Act.put _ (some 41) _ = _
       simp only [Act.put, List.setIfInBounds_toArray, List.set_cons_zero, List.set_cons_succ, i64_w, i32_w]
       rfl
      refine two_ (i := 5) (j := 13) (Ni := some 43) (Nj := some 11) #[true, true, true, true, true, true, true, false, true, false, true, false, false, false, false] #[true, true, true, true, true, false, true, false, true, false, true, false, false, true, false] rfl rfl rfl rfl (by kernel_rfl) (by decide) (by decide) (fun K hK => ?_) (fun K hK => ?_)
      ·skip
       refine goes_ Tryd.func13 (by kernel_rfl) rfl #[.slice A2 l.length c2, .string ⟨#[115, 116, 97, 116, 101]⟩] (by rfl) rfl rfl (by simp only [List.map_toArray, List.map_cons, List.map_nil]; rfl) ?_
       refine (HGET.out ⟨#[115, 116, 97, 116, 101]⟩ _ (Kd.F_now HF.out)).mono ?_
       rw [← G_st.out]
       rintro e_ w_ ⟨rfl, hb⟩
       refine ⟨_, rfl, ?_⟩
       have n_BK0 := Aside0.mk (blk_below BK0.out hb)
       have n_BK4 := Aside0.mk (blk_below BK4.out hb)
       have n_BK9 := Aside0.mk (blk_below BK9.out hb)
       have n_HB := Aside0.mk (below_step HB.out hb)
       have n_HF := Aside0.mk (Kd.F_below HF.out hb)
       have n_HZ := Aside0.mk (Nat.le_trans HZ.out hb.size)
       have n_HV := Aside0.mk (Kd.V_below HV.out hb)
       clear BK0 BK4 BK9 HB HF HZ HV
       have BK0 := n_BK0
       have BK4 := n_BK4
       have BK9 := n_BK9
       have HB := n_HB
       have HF := n_HF
       have HZ := n_HZ
       have HV := n_HV
       clear n_BK0 n_BK4 n_BK9 n_HB n_HF n_HZ n_HV hb
       refine hK.out _ _ (((blk_cell BK9.out 0).trans rfl)) (fun hHeld => ?_)
       clear hK K
       refine norm_ (a' := ?_) ?_ ?_
       rotate_left
       ·show Act.put _ (some 43) _ = _
        simp only [Act.put, List.setIfInBounds_toArray, List.set_cons_zero, List.set_cons_succ, i64_w, i32_w]
        rfl
       refine two_ (i := 7) (j := 13) (Ni := some 45) (Nj := some 11) #[true, true, true, true, true, true, true, true, true, false, true, false, false, false, false] #[true, true, true, true, true, true, true, false, true, false, true, false, false, true, false] rfl rfl rfl rfl (by kernel_rfl) (by decide) (by decide) (fun K hK => ?_) (fun K hK => ?_)
       ·skip
        refine goes_ Tryd.func13 (by kernel_rfl) rfl #[.slice A2 l.length c2, .string ⟨#[110, 111, 110, 99, 101]⟩] (by rfl) rfl rfl (by simp only [List.map_toArray, List.map_cons, List.map_nil]; rfl) ?_
        refine (HGET.out ⟨#[110, 111, 110, 99, 101]⟩ _ (Kd.F_now HF.out)).mono ?_
        rw [← G_no.out]
        rintro e_ w_ ⟨rfl, hb⟩
        refine ⟨_, rfl, ?_⟩
        have n_BK0 := Aside0.mk (blk_below BK0.out hb)
        have n_BK4 := Aside0.mk (blk_below BK4.out hb)
        have n_BK9 := Aside0.mk (blk_below BK9.out hb)
        have n_HB := Aside0.mk (below_step HB.out hb)
        have n_HF := Aside0.mk (Kd.F_below HF.out hb)
        have n_HZ := Aside0.mk (Nat.le_trans HZ.out hb.size)
        have n_HV := Aside0.mk (Kd.V_below HV.out hb)
        clear BK0 BK4 BK9 HB HF HZ HV
        have BK0 := n_BK0
        have BK4 := n_BK4
        have BK9 := n_BK9
        have HB := n_HB
        have HF := n_HF
        have HZ := n_HZ
        have HV := n_HV
        clear n_BK0 n_BK4 n_BK9 n_HB n_HF n_HZ n_HV hb
        refine hK.out _ _ (((blk_cell BK9.out 0).trans rfl)) (fun hHeld => ?_)
        clear hK K
        refine norm_ (a' := ?_) ?_ ?_
        rotate_left
        ·show Act.put _ (some 45) _ = _
         simp only [Act.put, List.setIfInBounds_toArray, List.set_cons_zero, List.set_cons_succ, i64_w, i32_w]
         rfl
        refine two_ (i := 9) (j := 13) (Ni := some 47) (Nj := some 11) #[true, true, true, true, true, true, true, true, true, true, true, false, false, false, false] #[true, true, true, true, true, true, true, true, true, false, true, false, false, true, false] rfl rfl rfl rfl (by kernel_rfl) (by decide) (by decide) (fun K hK => ?_) (fun K hK => ?_)
        ·skip
         refine goes_ Tryd.func13 (by kernel_rfl) rfl #[.slice A2 l.length c2, .string ⟨#[115, 99, 111, 112, 101]⟩] (by rfl) rfl rfl (by simp only [List.map_toArray, List.map_cons, List.map_nil]; rfl) ?_
         refine (HGET.out ⟨#[115, 99, 111, 112, 101]⟩ _ (Kd.F_now HF.out)).mono ?_
         rw [← G_sc.out]
         rintro e_ w_ ⟨rfl, hb⟩
         refine ⟨_, rfl, ?_⟩
         have n_BK0 := Aside0.mk (blk_below BK0.out hb)
         have n_BK4 := Aside0.mk (blk_below BK4.out hb)
         have n_BK9 := Aside0.mk (blk_below BK9.out hb)
         have n_HB := Aside0.mk (below_step HB.out hb)
         have n_HF := Aside0.mk (Kd.F_below HF.out hb)
         have n_HZ := Aside0.mk (Nat.le_trans HZ.out hb.size)
         have n_HV := Aside0.mk (Kd.V_below HV.out hb)
         clear BK0 BK4 BK9 HB HF HZ HV
         have BK0 := n_BK0
         have BK4 := n_BK4
         have BK9 := n_BK9
         have HB := n_HB
         have HF := n_HF
         have HZ := n_HZ
         have HV := n_HV
         clear n_BK0 n_BK4 n_BK9 n_HB n_HF n_HZ n_HV hb
         refine hK.out _ _ (((blk_cell BK9.out 0).trans rfl)) (fun hHeld => ?_)
         clear hK K
         refine norm_ (a' := ?_) ?_ ?_
         rotate_left
         ·show Act.put _ (some 47) _ = _
          simp only [Act.put, List.setIfInBounds_toArray, List.set_cons_zero, List.set_cons_succ, i64_w, i32_w]
          rfl
         refine two_ (i := 11) (j := 13) (Ni := some 49) (Nj := some 11) #[true, true, true, true, true, true, true, true, true, true, true, true, false, false, false] #[true, true, true, true, true, true, true, true, true, true, true, false, false, true, false] rfl rfl rfl rfl (by kernel_rfl) (by decide) (by decide) (fun K hK => ?_) (fun K hK => ?_)
         ·skip
          refine goes_ Tryd.func13 (by kernel_rfl) rfl #[.slice A2 l.length c2, .string ⟨#[99, 111, 100, 101, 95, 99, 104, 97, 108, 108, 101, 110, 103, 101]⟩] (by rfl) rfl rfl (by simp only [List.map_toArray, List.map_cons, List.map_nil]; rfl) ?_
          refine (HGET.out ⟨#[99, 111, 100, 101, 95, 99, 104, 97, 108, 108, 101, 110, 103, 101]⟩ _ (Kd.F_now HF.out)).mono ?_
          rw [← G_ch.out]
          rintro e_ w_ ⟨rfl, hb⟩
          refine ⟨_, rfl, ?_⟩
          have n_BK0 := Aside0.mk (blk_below BK0.out hb)
          have n_BK4 := Aside0.mk (blk_below BK4.out hb)
          have n_BK9 := Aside0.mk (blk_below BK9.out hb)
          have n_HB := Aside0.mk (below_step HB.out hb)
          have n_HF := Aside0.mk (Kd.F_below HF.out hb)
          have n_HZ := Aside0.mk (Nat.le_trans HZ.out hb.size)
          have n_HV := Aside0.mk (Kd.V_below HV.out hb)
          clear BK0 BK4 BK9 HB HF HZ HV
          have BK0 := n_BK0
          have BK4 := n_BK4
          have BK9 := n_BK9
          have HB := n_HB
          have HF := n_HF
          have HZ := n_HZ
          have HV := n_HV
          clear n_BK0 n_BK4 n_BK9 n_HB n_HF n_HZ n_HV hb
          refine hK.out _ _ (((blk_cell BK9.out 0).trans rfl)) (fun hHeld => ?_)
          clear hK K
          refine norm_ (a' := ?_) ?_ ?_
          rotate_left
          ·show Act.put _ (some 49) _ = _
           simp only [Act.put, List.setIfInBounds_toArray, List.set_cons_zero, List.set_cons_succ, i64_w, i32_w]
           rfl
          refine pure_ (i := 12) (N := some 50) (v := ?_) (a' := ?_) #[true, true, true, true, true, true, true, true, true, true, true, true, true, false, false] rfl rfl (by kernel_rfl) (fun _ _ _ h => h) (Or.inl ⟨by rfl, ?_⟩) ?_ ?_
          rotate_left
          ·intro w'
           go_simp
           with_reducible rfl
          rotate_left
          ·simp only [Act.put, List.setIfInBounds_toArray, List.set_cons_zero, List.set_cons_succ, i64_w, i32_w]
           rfl
          refine one_ (i := 13) (N := some 11) #[true, true, true, true, true, true, true, true, true, true, true, true, true, true, false] rfl rfl (by kernel_rfl) (by decide) (fun K hK => ?_)
          refine box_step ?hg (N := 11) ?hd (cs := #[.string (⟨#[]⟩ : ByteArray), .string (⟨#[]⟩ : ByteArray), .string (⟨#[]⟩ : ByteArray), .string (⟨#[]⟩ : ByteArray), .string (⟨#[]⟩ : ByteArray), .string (⟨#[]⟩ : ByteArray)]) (t := 33) ?hr ?_; (case hd => rfl); (case hg => rfl); (case hr => first | (go_simp; done) | (go_simp; rfl))
          intro g11 hg w_ hbox hb
          have BK11 := Aside0.mk hbox
          have HG9 := (show g9 < g11 from by rw [hg]; exact blk_lt BK9.out)
          have HG4 := (show n4 ≤ g11 from by rw [hg]; exact HZ.out)
          have n_HV := Aside0.mk (Kd.V_elderB HV.out g11 (Nat.le_of_eq hg.symm))
          clear HV
          have HV := n_HV
          clear n_HV hg hbox
          have n_BK0 := Aside0.mk (blk_below BK0.out hb)
          have n_BK4 := Aside0.mk (blk_below BK4.out hb)
          have n_BK9 := Aside0.mk (blk_below BK9.out hb)
          have n_HB := Aside0.mk (below_step HB.out hb)
          have n_HF := Aside0.mk (Kd.F_below HF.out hb)
          have n_HZ := Aside0.mk (Nat.le_trans HZ.out hb.size)
          have n_HV := Aside0.mk (Kd.V_below HV.out hb)
          clear BK0 BK4 BK9 HB HF HZ HV
          have BK0 := n_BK0
          have BK4 := n_BK4
          have BK9 := n_BK9
          have HB := n_HB
          have HF := n_HF
          have HZ := n_HZ
          have HV := n_HV
          clear n_BK0 n_BK4 n_BK9 n_HB n_HF n_HZ n_HV hb
          refine hK.out _ _ (((blk_cell BK9.out 0).trans rfl)) (fun hHeld => ?_)
          clear hK K
          refine norm_ (a' := ?_) ?_ ?_
          rotate_left
          ·show Act.put _ (some 11) _ = _
           simp only [Act.put, List.setIfInBounds_toArray, List.set_cons_zero, List.set_cons_succ, i64_w, i32_w]
           rfl
          exact norm_ (by simp only [putAll, Act.put, List.setIfInBounds_toArray, List.set_cons_zero, List.set_cons_succ]) (hCont g11 _ ⟨hHeld, BK0.out, BK4.out, BK9.out, BK11.out, HG4, HG9, HZ.out, HV.out, HF.out, HB.out⟩)
         ·skip
          refine box_step ?hg (N := 11) ?hd (cs := #[.string (⟨#[]⟩ : ByteArray), .string (⟨#[]⟩ : ByteArray), .string (⟨#[]⟩ : ByteArray), .string (⟨#[]⟩ : ByteArray), .string (⟨#[]⟩ : ByteArray), .string (⟨#[]⟩ : ByteArray)]) (t := 33) ?hr ?_; (case hd => rfl); (case hg => rfl); (case hr => first | (go_simp; done) | (go_simp; rfl))
          intro g11 hg w_ hbox hb
          have BK11 := Aside0.mk hbox
          have HG9 := (show g9 < g11 from by rw [hg]; exact blk_lt BK9.out)
          have HG4 := (show n4 ≤ g11 from by rw [hg]; exact HZ.out)
          have n_HV := Aside0.mk (Kd.V_elderB HV.out g11 (Nat.le_of_eq hg.symm))
          clear HV
          have HV := n_HV
          clear n_HV hg hbox
          have n_BK0 := Aside0.mk (blk_below BK0.out hb)
          have n_BK4 := Aside0.mk (blk_below BK4.out hb)
          have n_BK9 := Aside0.mk (blk_below BK9.out hb)
          have n_HB := Aside0.mk (below_step HB.out hb)
          have n_HF := Aside0.mk (Kd.F_below HF.out hb)
          have n_HZ := Aside0.mk (Nat.le_trans HZ.out hb.size)
          have n_HV := Aside0.mk (Kd.V_below HV.out hb)
          clear BK0 BK4 BK9 HB HF HZ HV
          have BK0 := n_BK0
          have BK4 := n_BK4
          have BK9 := n_BK9
          have HB := n_HB
          have HF := n_HF
          have HZ := n_HZ
          have HV := n_HV
          clear n_BK0 n_BK4 n_BK9 n_HB n_HF n_HZ n_HV hb
          refine hK.out _ _ (((blk_cell BK9.out 0).trans rfl)) (fun hHeld => ?_)
          clear hK K
          refine norm_ (a' := ?_) ?_ ?_
          rotate_left
          ·show Act.put _ (some 11) _ = _
           simp only [Act.put, List.setIfInBounds_toArray, List.set_cons_zero, List.set_cons_succ, i64_w, i32_w]
           rfl
          refine one_ (i := 11) (N := some 49) #[true, true, true, true, true, true, true, true, true, true, true, true, false, true, false] rfl rfl (by kernel_rfl) (by decide) (fun K hK => ?_)
          refine goes_ Tryd.func13 (by kernel_rfl) rfl #[.slice A2 l.length c2, .string ⟨#[99, 111, 100, 101, 95, 99, 104, 97, 108, 108, 101, 110, 103, 101]⟩] (by rfl) rfl rfl (by simp only [List.map_toArray, List.map_cons, List.map_nil]; rfl) ?_
          refine (HGET.out ⟨#[99, 111, 100, 101, 95, 99, 104, 97, 108, 108, 101, 110, 103, 101]⟩ _ (Kd.F_now HF.out)).mono ?_
          rw [← G_ch.out]
          rintro e_ w_ ⟨rfl, hb⟩
          refine ⟨_, rfl, ?_⟩
          have n_BK0 := Aside0.mk (blk_below BK0.out hb)
          have n_BK4 := Aside0.mk (blk_below BK4.out hb)
          have n_BK9 := Aside0.mk (blk_below BK9.out hb)
          have n_BK11 := Aside0.mk (blk_below BK11.out hb)
          have n_HB := Aside0.mk (below_step HB.out hb)
          have n_HF := Aside0.mk (Kd.F_below HF.out hb)
          have n_HZ := Aside0.mk (Nat.le_trans HZ.out hb.size)
          have n_HV := Aside0.mk (Kd.V_below HV.out hb)
          clear BK0 BK4 BK9 BK11 HB HF HZ HV
          have BK0 := n_BK0
          have BK4 := n_BK4
          have BK9 := n_BK9
          have BK11 := n_BK11
          have HB := n_HB
          have HF := n_HF
          have HZ := n_HZ
          have HV := n_HV
          clear n_BK0 n_BK4 n_BK9 n_BK11 n_HB n_HF n_HZ n_HV hb
          refine hK.out _ _ (((blk_cell BK9.out 0).trans rfl)) (fun hHeld => ?_)
          clear hK K
          refine norm_ (a' := ?_) ?_ ?_
          rotate_left
          ·show Act.put _ (some 49) _ = _
           simp only [Act.put, List.setIfInBounds_toArray, List.set_cons_zero, List.set_cons_succ, i64_w, i32_w]
           rfl
          refine pure_ (i := 12) (N := some 50) (v := ?_) (a' := ?_) #[true, true, true, true, true, true, true, true, true, true, true, true, true, true, false] rfl rfl (by kernel_rfl) (fun _ _ _ h => h) (Or.inl ⟨by rfl, ?_⟩) ?_ ?_
          rotate_left
          ·intro w'
           go_simp
           with_reducible rfl
          rotate_left
          ·simp only [Act.put, List.setIfInBounds_toArray, List.set_cons_zero, List.set_cons_succ, i64_w, i32_w]
           rfl
          exact norm_ (by simp only [putAll, Act.put, List.setIfInBounds_toArray, List.set_cons_zero, List.set_cons_succ]) (hCont g11 _ ⟨hHeld, BK0.out, BK4.out, BK9.out, BK11.out, HG4, HG9, HZ.out, HV.out, HF.out, HB.out⟩)
        ·skip
         refine box_step ?hg (N := 11) ?hd (cs := #[.string (⟨#[]⟩ : ByteArray), .string (⟨#[]⟩ : ByteArray), .string (⟨#[]⟩ : ByteArray), .string (⟨#[]⟩ : ByteArray), .string (⟨#[]⟩ : ByteArray), .string (⟨#[]⟩ : ByteArray)]) (t := 33) ?hr ?_; (case hd => rfl); (case hg => rfl); (case hr => first | (go_simp; done) | (go_simp; rfl))
         intro g11 hg w_ hbox hb
         have BK11 := Aside0.mk hbox
         have HG9 := (show g9 < g11 from by rw [hg]; exact blk_lt BK9.out)
         have HG4 := (show n4 ≤ g11 from by rw [hg]; exact HZ.out)
         have n_HV := Aside0.mk (Kd.V_elderB HV.out g11 (Nat.le_of_eq hg.symm))
         clear HV
         have HV := n_HV
         clear n_HV hg hbox
         have n_BK0 := Aside0.mk (blk_below BK0.out hb)
         have n_BK4 := Aside0.mk (blk_below BK4.out hb)
         have n_BK9 := Aside0.mk (blk_below BK9.out hb)
         have n_HB := Aside0.mk (below_step HB.out hb)
         have n_HF := Aside0.mk (Kd.F_below HF.out hb)
         have n_HZ := Aside0.mk (Nat.le_trans HZ.out hb.size)
         have n_HV := Aside0.mk (Kd.V_below HV.out hb)
         clear BK0 BK4 BK9 HB HF HZ HV
         have BK0 := n_BK0
         have BK4 := n_BK4
         have BK9 := n_BK9
         have HB := n_HB
         have HF := n_HF
         have HZ := n_HZ
         have HV := n_HV
         clear n_BK0 n_BK4 n_BK9 n_HB n_HF n_HZ n_HV hb
         refine hK.out _ _ (((blk_cell BK9.out 0).trans rfl)) (fun hHeld => ?_)
         clear hK K
         refine norm_ (a' := ?_) ?_ ?_
         rotate_left
         ·show Act.put _ (some 11) _ = _
          simp only [Act.put, List.setIfInBounds_toArray, List.set_cons_zero, List.set_cons_succ, i64_w, i32_w]
          rfl
         refine one_ (i := 9) (N := some 47) #[true, true, true, true, true, true, true, true, true, true, true, false, false, true, false] rfl rfl (by kernel_rfl) (by decide) (fun K hK => ?_)
         refine goes_ Tryd.func13 (by kernel_rfl) rfl #[.slice A2 l.length c2, .string ⟨#[115, 99, 111, 112, 101]⟩] (by rfl) rfl rfl (by simp only [List.map_toArray, List.map_cons, List.map_nil]; rfl) ?_
         refine (HGET.out ⟨#[115, 99, 111, 112, 101]⟩ _ (Kd.F_now HF.out)).mono ?_
         rw [← G_sc.out]
         rintro e_ w_ ⟨rfl, hb⟩
         refine ⟨_, rfl, ?_⟩
         have n_BK0 := Aside0.mk (blk_below BK0.out hb)
         have n_BK4 := Aside0.mk (blk_below BK4.out hb)
         have n_BK9 := Aside0.mk (blk_below BK9.out hb)
         have n_BK11 := Aside0.mk (blk_below BK11.out hb)
         have n_HB := Aside0.mk (below_step HB.out hb)
         have n_HF := Aside0.mk (Kd.F_below HF.out hb)
         have n_HZ := Aside0.mk (Nat.le_trans HZ.out hb.size)
         have n_HV := Aside0.mk (Kd.V_below HV.out hb)
         clear BK0 BK4 BK9 BK11 HB HF HZ HV
         have BK0 := n_BK0
         have BK4 := n_BK4
         have BK9 := n_BK9
         have BK11 := n_BK11
         have HB := n_HB
         have HF := n_HF
         have HZ := n_HZ
         have HV := n_HV
         clear n_BK0 n_BK4 n_BK9 n_BK11 n_HB n_HF n_HZ n_HV hb
         refine hK.out _ _ (((blk_cell BK9.out 0).trans rfl)) (fun hHeld => ?_)
         clear hK K
         refine norm_ (a' := ?_) ?_ ?_
         rotate_left
         ·show Act.put _ (some 47) _ = _
          simp only [Act.put, List.setIfInBounds_toArray, List.set_cons_zero, List.set_cons_succ, i64_w, i32_w]
          rfl
         refine one_ (i := 11) (N := some 49) #[true, true, true, true, true, true, true, true, true, true, true, true, false, true, false] rfl rfl (by kernel_rfl) (by decide) (fun K hK => ?_)
         refine goes_ Tryd.func13 (by kernel_rfl) rfl #[.slice A2 l.length c2, .string ⟨#[99, 111, 100, 101, 95, 99, 104, 97, 108, 108, 101, 110, 103, 101]⟩] (by rfl) rfl rfl (by simp only [List.map_toArray, List.map_cons, List.map_nil]; rfl) ?_
         refine (HGET.out ⟨#[99, 111, 100, 101, 95, 99, 104, 97, 108, 108, 101, 110, 103, 101]⟩ _ (Kd.F_now HF.out)).mono ?_
         rw [← G_ch.out]
         rintro e_ w_ ⟨rfl, hb⟩
         refine ⟨_, rfl, ?_⟩
         have n_BK0 := Aside0.mk (blk_below BK0.out hb)
         have n_BK4 := Aside0.mk (blk_below BK4.out hb)
         have n_BK9 := Aside0.mk (blk_below BK9.out hb)
         have n_BK11 := Aside0.mk (blk_below BK11.out hb)
         have n_HB := Aside0.mk (below_step HB.out hb)
         have n_HF := Aside0.mk (Kd.F_below HF.out hb)
         have n_HZ := Aside0.mk (Nat.le_trans HZ.out hb.size)
         have n_HV := Aside0.mk (Kd.V_below HV.out hb)
         clear BK0 BK4 BK9 BK11 HB HF HZ HV
         have BK0 := n_BK0
         have BK4 := n_BK4
         have BK9 := n_BK9
         have BK11 := n_BK11
         have HB := n_HB
         have HF := n_HF
         have HZ := n_HZ
         have HV := n_HV
         clear n_BK0 n_BK4 n_BK9 n_BK11 n_HB n_HF n_HZ n_HV hb
         refine hK.out _ _ (((blk_cell BK9.out 0).trans rfl)) (fun hHeld => ?_)
         clear hK K
         refine norm_ (a' := ?_) ?_ ?_
         rotate_left
         ·show Act.put _ (some 49) _ = _
          simp only [Act.put, List.setIfInBounds_toArray, List.set_cons_zero, List.set_cons_succ, i64_w, i32_w]
          rfl
         refine pure_ (i := 12) (N := some 50) (v := ?_) (a' := ?_) #[true, true, true, true, true, true, true, true, true, true, true, true, true, true, false] rfl rfl (by kernel_rfl) (fun _ _ _ h => h) (Or.inl ⟨by rfl, ?_⟩) ?_ ?_
         rotate_left
         ·intro w'
          go_simp
          with_reducible rfl
         rotate_left
         ·simp only [Act.put, List.setIfInBounds_toArray, List.set_cons_zero, List.set_cons_succ, i64_w, i32_w]
          rfl
         exact norm_ (by simp only [putAll, Act.put, List.setIfInBounds_toArray, List.set_cons_zero, List.set_cons_succ]) (hCont g11 _ ⟨hHeld, BK0.out, BK4.out, BK9.out, BK11.out, HG4, HG9, HZ.out, HV.out, HF.out, HB.out⟩)
       ·skip
        refine box_step ?hg (N := 11) ?hd (cs := #[.string (⟨#[]⟩ : ByteArray), .string (⟨#[]⟩ : ByteArray), .string (⟨#[]⟩ : ByteArray), .string (⟨#[]⟩ : ByteArray), .string (⟨#[]⟩ : ByteArray), .string (⟨#[]⟩ : ByteArray)]) (t := 33) ?hr ?_; (case hd => rfl); (case hg => rfl); (case hr => first | (go_simp; done) | (go_simp; rfl))
        intro g11 hg w_ hbox hb
        have BK11 := Aside0.mk hbox
        have HG9 := (show g9 < g11 from by rw [hg]; exact blk_lt BK9.out)
        have HG4 := (show n4 ≤ g11 from by rw [hg]; exact HZ.out)
        have n_HV := Aside0.mk (Kd.V_elderB HV.out g11 (Nat.le_of_eq hg.symm))
        clear HV
        have HV := n_HV
        clear n_HV hg hbox
        have n_BK0 := Aside0.mk (blk_below BK0.out hb)
        have n_BK4 := Aside0.mk (blk_below BK4.out hb)
        have n_BK9 := Aside0.mk (blk_below BK9.out hb)
        have n_HB := Aside0.mk (below_step HB.out hb)
        have n_HF := Aside0.mk (Kd.F_below HF.out hb)
        have n_HZ := Aside0.mk (Nat.le_trans HZ.out hb.size)
        have n_HV := Aside0.mk (Kd.V_below HV.out hb)
        clear BK0 BK4 BK9 HB HF HZ HV
        have BK0 := n_BK0
        have BK4 := n_BK4
        have BK9 := n_BK9
        have HB := n_HB
        have HF := n_HF
        have HZ := n_HZ
        have HV := n_HV
        clear n_BK0 n_BK4 n_BK9 n_HB n_HF n_HZ n_HV hb
        refine hK.out _ _ (((blk_cell BK9.out 0).trans rfl)) (fun hHeld => ?_)
        clear hK K
        refine norm_ (a' := ?_) ?_ ?_
        rotate_left
        ·show Act.put _ (some 11) _ = _
         simp only [Act.put, List.setIfInBounds_toArray, List.set_cons_zero, List.set_cons_succ, i64_w, i32_w]
         rfl
        refine one_ (i := 7) (N := some 45) #[true, true, true, true, true, true, true, true, true, false, true, false, false, true, false] rfl rfl (by kernel_rfl) (by decide) (fun K hK => ?_)
        refine goes_ Tryd.func13 (by kernel_rfl) rfl #[.slice A2 l.length c2, .string ⟨#[110, 111, 110, 99, 101]⟩] (by rfl) rfl rfl (by simp only [List.map_toArray, List.map_cons, List.map_nil]; rfl) ?_
        refine (HGET.out ⟨#[110, 111, 110, 99, 101]⟩ _ (Kd.F_now HF.out)).mono ?_
        rw [← G_no.out]
        rintro e_ w_ ⟨rfl, hb⟩
        refine ⟨_, rfl, ?_⟩
        have n_BK0 := Aside0.mk (blk_below BK0.out hb)
        have n_BK4 := Aside0.mk (blk_below BK4.out hb)
        have n_BK9 := Aside0.mk (blk_below BK9.out hb)
        have n_BK11 := Aside0.mk (blk_below BK11.out hb)
        have n_HB := Aside0.mk (below_step HB.out hb)
        have n_HF := Aside0.mk (Kd.F_below HF.out hb)
        have n_HZ := Aside0.mk (Nat.le_trans HZ.out hb.size)
        have n_HV := Aside0.mk (Kd.V_below HV.out hb)
        clear BK0 BK4 BK9 BK11 HB HF HZ HV
        have BK0 := n_BK0
        have BK4 := n_BK4
        have BK9 := n_BK9
        have BK11 := n_BK11
        have HB := n_HB
        have HF := n_HF
        have HZ := n_HZ
        have HV := n_HV
        clear n_BK0 n_BK4 n_BK9 n_BK11 n_HB n_HF n_HZ n_HV hb
        refine hK.out _ _ (((blk_cell BK9.out 0).trans rfl)) (fun hHeld => ?_)
        clear hK K
        refine norm_ (a' := ?_) ?_ ?_
        rotate_left
        ·show Act.put _ (some 45) _ = _
         simp only [Act.put, List.setIfInBounds_toArray, List.set_cons_zero, List.set_cons_succ, i64_w, i32_w]
         rfl
        refine one_ (i := 9) (N := some 47) #[true, true, true, true, true, true, true, true, true, true, true, false, false, true, false] rfl rfl (by kernel_rfl) (by decide) (fun K hK => ?_)
        refine goes_ Tryd.func13 (by kernel_rfl) rfl #[.slice A2 l.length c2, .string ⟨#[115, 99, 111, 112, 101]⟩] (by rfl) rfl rfl (by simp only [List.map_toArray, List.map_cons, List.map_nil]; rfl) ?_
        refine (HGET.out ⟨#[115, 99, 111, 112, 101]⟩ _ (Kd.F_now HF.out)).mono ?_
        rw [← G_sc.out]
        rintro e_ w_ ⟨rfl, hb⟩
        refine ⟨_, rfl, ?_⟩
        have n_BK0 := Aside0.mk (blk_below BK0.out hb)
        have n_BK4 := Aside0.mk (blk_below BK4.out hb)
        have n_BK9 := Aside0.mk (blk_below BK9.out hb)
        have n_BK11 := Aside0.mk (blk_below BK11.out hb)
        have n_HB := Aside0.mk (below_step HB.out hb)
        have n_HF := Aside0.mk (Kd.F_below HF.out hb)
        have n_HZ := Aside0.mk (Nat.le_trans HZ.out hb.size)
        have n_HV := Aside0.mk (Kd.V_below HV.out hb)
        clear BK0 BK4 BK9 BK11 HB HF HZ HV
        have BK0 := n_BK0
        have BK4 := n_BK4
        have BK9 := n_BK9
        have BK11 := n_BK11
        have HB := n_HB
        have HF := n_HF
        have HZ := n_HZ
        have HV := n_HV
        clear n_BK0 n_BK4 n_BK9 n_BK11 n_HB n_HF n_HZ n_HV hb
        refine hK.out _ _ (((blk_cell BK9.out 0).trans rfl)) (fun hHeld => ?_)
        clear hK K
        refine norm_ (a' := ?_) ?_ ?_
        rotate_left
        ·show Act.put _ (some 47) _ = _
         simp only [Act.put, List.setIfInBounds_toArray, List.set_cons_zero, List.set_cons_succ, i64_w, i32_w]
         rfl
        refine one_ (i := 11) (N := some 49) #[true, true, true, true, true, true, true, true, true, true, true, true, false, true, false] rfl rfl (by kernel_rfl) (by decide) (fun K hK => ?_)
        refine goes_ Tryd.func13 (by kernel_rfl) rfl #[.slice A2 l.length c2, .string ⟨#[99, 111, 100, 101, 95, 99, 104, 97, 108, 108, 101, 110, 103, 101]⟩] (by rfl) rfl rfl (by simp only [List.map_toArray, List.map_cons, List.map_nil]; rfl) ?_
        refine (HGET.out ⟨#[99, 111, 100, 101, 95, 99, 104, 97, 108, 108, 101, 110, 103, 101]⟩ _ (Kd.F_now HF.out)).mono ?_
        rw [← G_ch.out]
        rintro e_ w_ ⟨rfl, hb⟩
        refine ⟨_, rfl, ?_⟩
        have n_BK0 := Aside0.mk (blk_below BK0.out hb)
        have n_BK4 := Aside0.mk (blk_below BK4.out hb)
        have n_BK9 := Aside0.mk (blk_below BK9.out hb)
        have n_BK11 := Aside0.mk (blk_below BK11.out hb)
        have n_HB := Aside0.mk (below_step HB.out hb)
        have n_HF := Aside0.mk (Kd.F_below HF.out hb)
        have n_HZ := Aside0.mk (Nat.le_trans HZ.out hb.size)
        have n_HV := Aside0.mk (Kd.V_below HV.out hb)
        clear BK0 BK4 BK9 BK11 HB HF HZ HV
        have BK0 := n_BK0
        have BK4 := n_BK4
        have BK9 := n_BK9
        have BK11 := n_BK11
        have HB := n_HB
        have HF := n_HF
        have HZ := n_HZ
        have HV := n_HV
        clear n_BK0 n_BK4 n_BK9 n_BK11 n_HB n_HF n_HZ n_HV hb
        refine hK.out _ _ (((blk_cell BK9.out 0).trans rfl)) (fun hHeld => ?_)
        clear hK K
        refine norm_ (a' := ?_) ?_ ?_
        rotate_left
        ·show Act.put _ (some 49) _ = _
         simp only [Act.put, List.setIfInBounds_toArray, List.set_cons_zero, List.set_cons_succ, i64_w, i32_w]
         rfl
        refine pure_ (i := 12) (N := some 50) (v := ?_) (a' := ?_) #[true, true, true, true, true, true, true, true, true, true, true, true, true, true, false] rfl rfl (by kernel_rfl) (fun _ _ _ h => h) (Or.inl ⟨by rfl, ?_⟩) ?_ ?_
        rotate_left
        ·intro w'
         go_simp
         with_reducible rfl
        rotate_left
        ·simp only [Act.put, List.setIfInBounds_toArray, List.set_cons_zero, List.set_cons_succ, i64_w, i32_w]
         rfl
        exact norm_ (by simp only [putAll, Act.put, List.setIfInBounds_toArray, List.set_cons_zero, List.set_cons_succ]) (hCont g11 _ ⟨hHeld, BK0.out, BK4.out, BK9.out, BK11.out, HG4, HG9, HZ.out, HV.out, HF.out, HB.out⟩)
      ·skip
       refine box_step ?hg (N := 11) ?hd (cs := #[.string (⟨#[]⟩ : ByteArray), .string (⟨#[]⟩ : ByteArray), .string (⟨#[]⟩ : ByteArray), .string (⟨#[]⟩ : ByteArray), .string (⟨#[]⟩ : ByteArray), .string (⟨#[]⟩ : ByteArray)]) (t := 33) ?hr ?_; (case hd => rfl); (case hg => rfl); (case hr => first | (go_simp; done) | (go_simp; rfl))
       intro g11 hg w_ hbox hb
       have BK11 := Aside0.mk hbox
       have HG9 := (show g9 < g11 from by rw [hg]; exact blk_lt BK9.out)
       have HG4 := (show n4 ≤ g11 from by rw [hg]; exact HZ.out)
       have n_HV := Aside0.mk (Kd.V_elderB HV.out g11 (Nat.le_of_eq hg.symm))
       clear HV
       have HV := n_HV
       clear n_HV hg hbox
       have n_BK0 := Aside0.mk (blk_below BK0.out hb)
       have n_BK4 := Aside0.mk (blk_below BK4.out hb)
       have n_BK9 := Aside0.mk (blk_below BK9.out hb)
       have n_HB := Aside0.mk (below_step HB.out hb)
       have n_HF := Aside0.mk (Kd.F_below HF.out hb)
       have n_HZ := Aside0.mk (Nat.le_trans HZ.out hb.size)
       have n_HV := Aside0.mk (Kd.V_below HV.out hb)
       clear BK0 BK4 BK9 HB HF HZ HV
       have BK0 := n_BK0
       have BK4 := n_BK4
       have BK9 := n_BK9
       have HB := n_HB
       have HF := n_HF
       have HZ := n_HZ
       have HV := n_HV
       clear n_BK0 n_BK4 n_BK9 n_HB n_HF n_HZ n_HV hb
       refine hK.out _ _ (((blk_cell BK9.out 0).trans rfl)) (fun hHeld => ?_)
       clear hK K
       refine norm_ (a' := ?_) ?_ ?_
       rotate_left
       ·show Act.put _ (some 11) _ = _
        simp only [Act.put, List.setIfInBounds_toArray, List.set_cons_zero, List.set_cons_succ, i64_w, i32_w]
        rfl
       refine one_ (i := 5) (N := some 43) #[true, true, true, true, true, true, true, false, true, false, true, false, false, true, false] rfl rfl (by kernel_rfl) (by decide) (fun K hK => ?_)
       refine goes_ Tryd.func13 (by kernel_rfl) rfl #[.slice A2 l.length c2, .string ⟨#[115, 116, 97, 116, 101]⟩] (by rfl) rfl rfl (by simp only [List.map_toArray, List.map_cons, List.map_nil]; rfl) ?_
       refine (HGET.out ⟨#[115, 116, 97, 116, 101]⟩ _ (Kd.F_now HF.out)).mono ?_
       rw [← G_st.out]
       rintro e_ w_ ⟨rfl, hb⟩
       refine ⟨_, rfl, ?_⟩
       have n_BK0 := Aside0.mk (blk_below BK0.out hb)
       have n_BK4 := Aside0.mk (blk_below BK4.out hb)
       have n_BK9 := Aside0.mk (blk_below BK9.out hb)
       have n_BK11 := Aside0.mk (blk_below BK11.out hb)
       have n_HB := Aside0.mk (below_step HB.out hb)
       have n_HF := Aside0.mk (Kd.F_below HF.out hb)
       have n_HZ := Aside0.mk (Nat.le_trans HZ.out hb.size)
       have n_HV := Aside0.mk (Kd.V_below HV.out hb)
       clear BK0 BK4 BK9 BK11 HB HF HZ HV
       have BK0 := n_BK0
       have BK4 := n_BK4
       have BK9 := n_BK9
       have BK11 := n_BK11
       have HB := n_HB
       have HF := n_HF
       have HZ := n_HZ
       have HV := n_HV
       clear n_BK0 n_BK4 n_BK9 n_BK11 n_HB n_HF n_HZ n_HV hb
       refine hK.out _ _ (((blk_cell BK9.out 0).trans rfl)) (fun hHeld => ?_)
       clear hK K
       refine norm_ (a' := ?_) ?_ ?_
       rotate_left
       ·show Act.put _ (some 43) _ = _
        simp only [Act.put, List.setIfInBounds_toArray, List.set_cons_zero, List.set_cons_succ, i64_w, i32_w]
        rfl
       refine one_ (i := 7) (N := some 45) #[true, true, true, true, true, true, true, true, true, false, true, false, false, true, false] rfl rfl (by kernel_rfl) (by decide) (fun K hK => ?_)
       refine goes_ Tryd.func13 (by kernel_rfl) rfl #[.slice A2 l.length c2, .string ⟨#[110, 111, 110, 99, 101]⟩] (by rfl) rfl rfl (by simp only [List.map_toArray, List.map_cons, List.map_nil]; rfl) ?_
       refine (HGET.out ⟨#[110, 111, 110, 99, 101]⟩ _ (Kd.F_now HF.out)).mono ?_
       rw [← G_no.out]
       rintro e_ w_ ⟨rfl, hb⟩
       refine ⟨_, rfl, ?_⟩
       have n_BK0 := Aside0.mk (blk_below BK0.out hb)
       have n_BK4 := Aside0.mk (blk_below BK4.out hb)
       have n_BK9 := Aside0.mk (blk_below BK9.out hb)
       have n_BK11 := Aside0.mk (blk_below BK11.out hb)
       have n_HB := Aside0.mk (below_step HB.out hb)
       have n_HF := Aside0.mk (Kd.F_below HF.out hb)
       have n_HZ := Aside0.mk (Nat.le_trans HZ.out hb.size)
       have n_HV := Aside0.mk (Kd.V_below HV.out hb)
       clear BK0 BK4 BK9 BK11 HB HF HZ HV
       have BK0 := n_BK0
       have BK4 := n_BK4
       have BK9 := n_BK9
       have BK11 := n_BK11
       have HB := n_HB
       have HF := n_HF
       have HZ := n_HZ
       have HV := n_HV
       clear n_BK0 n_BK4 n_BK9 n_BK11 n_HB n_HF n_HZ n_HV hb
       refine hK.out _ _ (((blk_cell BK9.out 0).trans rfl)) (fun hHeld => ?_)
       clear hK K
       refine norm_ (a' := ?_) ?_ ?_
       rotate_left
       ·show Act.put _ (some 45) _ = _
        simp only [Act.put, List.setIfInBounds_toArray, List.set_cons_zero, List.set_cons_succ, i64_w, i32_w]
        rfl
       refine one_ (i := 9) (N := some 47) #[true, true, true, true, true, true, true, true, true, true, true, false, false, true, false] rfl rfl (by kernel_rfl) (by decide) (fun K hK => ?_)
       refine goes_ Tryd.func13 (by kernel_rfl) rfl #[.slice A2 l.length c2, .string ⟨#[115, 99, 111, 112, 101]⟩] (by rfl) rfl rfl (by simp only [List.map_toArray, List.map_cons, List.map_nil]; rfl) ?_
       refine (HGET.out ⟨#[115, 99, 111, 112, 101]⟩ _ (Kd.F_now HF.out)).mono ?_
       rw [← G_sc.out]
       rintro e_ w_ ⟨rfl, hb⟩
       refine ⟨_, rfl, ?_⟩
       have n_BK0 := Aside0.mk (blk_below BK0.out hb)
       have n_BK4 := Aside0.mk (blk_below BK4.out hb)
       have n_BK9 := Aside0.mk (blk_below BK9.out hb)
       have n_BK11 := Aside0.mk (blk_below BK11.out hb)
       have n_HB := Aside0.mk (below_step HB.out hb)
       have n_HF := Aside0.mk (Kd.F_below HF.out hb)
       have n_HZ := Aside0.mk (Nat.le_trans HZ.out hb.size)
       have n_HV := Aside0.mk (Kd.V_below HV.out hb)
       clear BK0 BK4 BK9 BK11 HB HF HZ HV
       have BK0 := n_BK0
       have BK4 := n_BK4
       have BK9 := n_BK9
       have BK11 := n_BK11
       have HB := n_HB
       have HF := n_HF
       have HZ := n_HZ
       have HV := n_HV
       clear n_BK0 n_BK4 n_BK9 n_BK11 n_HB n_HF n_HZ n_HV hb
       refine hK.out _ _ (((blk_cell BK9.out 0).trans rfl)) (fun hHeld => ?_)
       clear hK K
       refine norm_ (a' := ?_) ?_ ?_
       rotate_left
       ·show Act.put _ (some 47) _ = _
        simp only [Act.put, List.setIfInBounds_toArray, List.set_cons_zero, List.set_cons_succ, i64_w, i32_w]
        rfl
       refine one_ (i := 11) (N := some 49) #[true, true, true, true, true, true, true, true, true, true, true, true, false, true, false] rfl rfl (by kernel_rfl) (by decide) (fun K hK => ?_)
       refine goes_ Tryd.func13 (by kernel_rfl) rfl #[.slice A2 l.length c2, .string ⟨#[99, 111, 100, 101, 95, 99, 104, 97, 108, 108, 101, 110, 103, 101]⟩] (by rfl) rfl rfl (by simp only [List.map_toArray, List.map_cons, List.map_nil]; rfl) ?_
       refine (HGET.out ⟨#[99, 111, 100, 101, 95, 99, 104, 97, 108, 108, 101, 110, 103, 101]⟩ _ (Kd.F_now HF.out)).mono ?_
       rw [← G_ch.out]
       rintro e_ w_ ⟨rfl, hb⟩
       refine ⟨_, rfl, ?_⟩
       have n_BK0 := Aside0.mk (blk_below BK0.out hb)
       have n_BK4 := Aside0.mk (blk_below BK4.out hb)
       have n_BK9 := Aside0.mk (blk_below BK9.out hb)
       have n_BK11 := Aside0.mk (blk_below BK11.out hb)
       have n_HB := Aside0.mk (below_step HB.out hb)
       have n_HF := Aside0.mk (Kd.F_below HF.out hb)
       have n_HZ := Aside0.mk (Nat.le_trans HZ.out hb.size)
       have n_HV := Aside0.mk (Kd.V_below HV.out hb)
       clear BK0 BK4 BK9 BK11 HB HF HZ HV
       have BK0 := n_BK0
       have BK4 := n_BK4
       have BK9 := n_BK9
       have BK11 := n_BK11
       have HB := n_HB
       have HF := n_HF
       have HZ := n_HZ
       have HV := n_HV
       clear n_BK0 n_BK4 n_BK9 n_BK11 n_HB n_HF n_HZ n_HV hb
       refine hK.out _ _ (((blk_cell BK9.out 0).trans rfl)) (fun hHeld => ?_)
       clear hK K
       refine norm_ (a' := ?_) ?_ ?_
       rotate_left
       ·show Act.put _ (some 49) _ = _
        simp only [Act.put, List.setIfInBounds_toArray, List.set_cons_zero, List.set_cons_succ, i64_w, i32_w]
        rfl
       refine pure_ (i := 12) (N := some 50) (v := ?_) (a' := ?_) #[true, true, true, true, true, true, true, true, true, true, true, true, true, true, false] rfl rfl (by kernel_rfl) (fun _ _ _ h => h) (Or.inl ⟨by rfl, ?_⟩) ?_ ?_
       rotate_left
       ·intro w'
        go_simp
        with_reducible rfl
       rotate_left
       ·simp only [Act.put, List.setIfInBounds_toArray, List.set_cons_zero, List.set_cons_succ, i64_w, i32_w]
        rfl
       exact norm_ (by simp only [putAll, Act.put, List.setIfInBounds_toArray, List.set_cons_zero, List.set_cons_succ]) (hCont g11 _ ⟨hHeld, BK0.out, BK4.out, BK9.out, BK11.out, HG4, HG9, HZ.out, HV.out, HF.out, HB.out⟩)
     ·skip
      refine box_step ?hg (N := 11) ?hd (cs := #[.string (⟨#[]⟩ : ByteArray), .string (⟨#[]⟩ : ByteArray), .string (⟨#[]⟩ : ByteArray), .string (⟨#[]⟩ : ByteArray), .string (⟨#[]⟩ : ByteArray), .string (⟨#[]⟩ : ByteArray)]) (t := 33) ?hr ?_; (case hd => rfl); (case hg => rfl); (case hr => first | (go_simp; done) | (go_simp; rfl))
      intro g11 hg w_ hbox hb
      have BK11 := Aside0.mk hbox
      have HG9 := (show g9 < g11 from by rw [hg]; exact blk_lt BK9.out)
      have HG4 := (show n4 ≤ g11 from by rw [hg]; exact HZ.out)
      have n_HV := Aside0.mk (Kd.V_elderB HV.out g11 (Nat.le_of_eq hg.symm))
      clear HV
      have HV := n_HV
      clear n_HV hg hbox
      have n_BK0 := Aside0.mk (blk_below BK0.out hb)
      have n_BK4 := Aside0.mk (blk_below BK4.out hb)
      have n_BK9 := Aside0.mk (blk_below BK9.out hb)
      have n_HB := Aside0.mk (below_step HB.out hb)
      have n_HF := Aside0.mk (Kd.F_below HF.out hb)
      have n_HZ := Aside0.mk (Nat.le_trans HZ.out hb.size)
      have n_HV := Aside0.mk (Kd.V_below HV.out hb)
      clear BK0 BK4 BK9 HB HF HZ HV
      have BK0 := n_BK0
      have BK4 := n_BK4
      have BK9 := n_BK9
      have HB := n_HB
      have HF := n_HF
      have HZ := n_HZ
      have HV := n_HV
      clear n_BK0 n_BK4 n_BK9 n_HB n_HF n_HZ n_HV hb
      refine hK.out _ _ (((blk_cell BK9.out 0).trans rfl)) (fun hHeld => ?_)
      clear hK K
      refine norm_ (a' := ?_) ?_ ?_
      rotate_left
      ·show Act.put _ (some 11) _ = _
       simp only [Act.put, List.setIfInBounds_toArray, List.set_cons_zero, List.set_cons_succ, i64_w, i32_w]
       rfl
      refine one_ (i := 3) (N := some 41) #[true, true, true, true, true, false, true, false, true, false, true, false, false, true, false] rfl rfl (by kernel_rfl) (by decide) (fun K hK => ?_)
      refine goes_ Tryd.func13 (by kernel_rfl) rfl #[.slice A2 l.length c2, .string ⟨#[114, 101, 100, 105, 114, 101, 99, 116, 95, 117, 114, 105]⟩] (by rfl) rfl rfl (by simp only [List.map_toArray, List.map_cons, List.map_nil]; rfl) ?_
      refine (HGET.out ⟨#[114, 101, 100, 105, 114, 101, 99, 116, 95, 117, 114, 105]⟩ _ (Kd.F_now HF.out)).mono ?_
      rw [← G_re.out]
      rintro e_ w_ ⟨rfl, hb⟩
      refine ⟨_, rfl, ?_⟩
      have n_BK0 := Aside0.mk (blk_below BK0.out hb)
      have n_BK4 := Aside0.mk (blk_below BK4.out hb)
      have n_BK9 := Aside0.mk (blk_below BK9.out hb)
      have n_BK11 := Aside0.mk (blk_below BK11.out hb)
      have n_HB := Aside0.mk (below_step HB.out hb)
      have n_HF := Aside0.mk (Kd.F_below HF.out hb)
      have n_HZ := Aside0.mk (Nat.le_trans HZ.out hb.size)
      have n_HV := Aside0.mk (Kd.V_below HV.out hb)
      clear BK0 BK4 BK9 BK11 HB HF HZ HV
      have BK0 := n_BK0
      have BK4 := n_BK4
      have BK9 := n_BK9
      have BK11 := n_BK11
      have HB := n_HB
      have HF := n_HF
      have HZ := n_HZ
      have HV := n_HV
      clear n_BK0 n_BK4 n_BK9 n_BK11 n_HB n_HF n_HZ n_HV hb
      refine hK.out _ _ (((blk_cell BK9.out 0).trans rfl)) (fun hHeld => ?_)
      clear hK K
      refine norm_ (a' := ?_) ?_ ?_
      rotate_left
      ·show Act.put _ (some 41) _ = _
       simp only [Act.put, List.setIfInBounds_toArray, List.set_cons_zero, List.set_cons_succ, i64_w, i32_w]
       rfl
      refine one_ (i := 5) (N := some 43) #[true, true, true, true, true, true, true, false, true, false, true, false, false, true, false] rfl rfl (by kernel_rfl) (by decide) (fun K hK => ?_)
      refine goes_ Tryd.func13 (by kernel_rfl) rfl #[.slice A2 l.length c2, .string ⟨#[115, 116, 97, 116, 101]⟩] (by rfl) rfl rfl (by simp only [List.map_toArray, List.map_cons, List.map_nil]; rfl) ?_
      refine (HGET.out ⟨#[115, 116, 97, 116, 101]⟩ _ (Kd.F_now HF.out)).mono ?_
      rw [← G_st.out]
      rintro e_ w_ ⟨rfl, hb⟩
      refine ⟨_, rfl, ?_⟩
      have n_BK0 := Aside0.mk (blk_below BK0.out hb)
      have n_BK4 := Aside0.mk (blk_below BK4.out hb)
      have n_BK9 := Aside0.mk (blk_below BK9.out hb)
      have n_BK11 := Aside0.mk (blk_below BK11.out hb)
      have n_HB := Aside0.mk (below_step HB.out hb)
      have n_HF := Aside0.mk (Kd.F_below HF.out hb)
      have n_HZ := Aside0.mk (Nat.le_trans HZ.out hb.size)
      have n_HV := Aside0.mk (Kd.V_below HV.out hb)
      clear BK0 BK4 BK9 BK11 HB HF HZ HV
      have BK0 := n_BK0
      have BK4 := n_BK4
      have BK9 := n_BK9
      have BK11 := n_BK11
      have HB := n_HB
      have HF := n_HF
      have HZ := n_HZ
      have HV := n_HV
      clear n_BK0 n_BK4 n_BK9 n_BK11 n_HB n_HF n_HZ n_HV hb
      refine hK.out _ _ (((blk_cell BK9.out 0).trans rfl)) (fun hHeld => ?_)
      clear hK K
      refine norm_ (a' := ?_) ?_ ?_
      rotate_left
      ·show Act.put _ (some 43) _ = _
       simp only [Act.put, List.setIfInBounds_toArray, List.set_cons_zero, List.set_cons_succ, i64_w, i32_w]
       rfl
      refine one_ (i := 7) (N := some 45) #[true, true, true, true, true, true, true, true, true, false, true, false, false, true, false] rfl rfl (by kernel_rfl) (by decide) (fun K hK => ?_)
      refine goes_ Tryd.func13 (by kernel_rfl) rfl #[.slice A2 l.length c2, .string ⟨#[110, 111, 110, 99, 101]⟩] (by rfl) rfl rfl (by simp only [List.map_toArray, List.map_cons, List.map_nil]; rfl) ?_
      refine (HGET.out ⟨#[110, 111, 110, 99, 101]⟩ _ (Kd.F_now HF.out)).mono ?_
      rw [← G_no.out]
      rintro e_ w_ ⟨rfl, hb⟩
      refine ⟨_, rfl, ?_⟩
      have n_BK0 := Aside0.mk (blk_below BK0.out hb)
      have n_BK4 := Aside0.mk (blk_below BK4.out hb)
      have n_BK9 := Aside0.mk (blk_below BK9.out hb)
      have n_BK11 := Aside0.mk (blk_below BK11.out hb)
      have n_HB := Aside0.mk (below_step HB.out hb)
      have n_HF := Aside0.mk (Kd.F_below HF.out hb)
      have n_HZ := Aside0.mk (Nat.le_trans HZ.out hb.size)
      have n_HV := Aside0.mk (Kd.V_below HV.out hb)
      clear BK0 BK4 BK9 BK11 HB HF HZ HV
      have BK0 := n_BK0
      have BK4 := n_BK4
      have BK9 := n_BK9
      have BK11 := n_BK11
      have HB := n_HB
      have HF := n_HF
      have HZ := n_HZ
      have HV := n_HV
      clear n_BK0 n_BK4 n_BK9 n_BK11 n_HB n_HF n_HZ n_HV hb
      refine hK.out _ _ (((blk_cell BK9.out 0).trans rfl)) (fun hHeld => ?_)
      clear hK K
      refine norm_ (a' := ?_) ?_ ?_
      rotate_left
      ·show Act.put _ (some 45) _ = _
       simp only [Act.put, List.setIfInBounds_toArray, List.set_cons_zero, List.set_cons_succ, i64_w, i32_w]
       rfl
      refine one_ (i := 9) (N := some 47) #[true, true, true, true, true, true, true, true, true, true, true, false, false, true, false] rfl rfl (by kernel_rfl) (by decide) (fun K hK => ?_)
      refine goes_ Tryd.func13 (by kernel_rfl) rfl #[.slice A2 l.length c2, .string ⟨#[115, 99, 111, 112, 101]⟩] (by rfl) rfl rfl (by simp only [List.map_toArray, List.map_cons, List.map_nil]; rfl) ?_
      refine (HGET.out ⟨#[115, 99, 111, 112, 101]⟩ _ (Kd.F_now HF.out)).mono ?_
      rw [← G_sc.out]
      rintro e_ w_ ⟨rfl, hb⟩
      refine ⟨_, rfl, ?_⟩
      have n_BK0 := Aside0.mk (blk_below BK0.out hb)
      have n_BK4 := Aside0.mk (blk_below BK4.out hb)
      have n_BK9 := Aside0.mk (blk_below BK9.out hb)
      have n_BK11 := Aside0.mk (blk_below BK11.out hb)
      have n_HB := Aside0.mk (below_step HB.out hb)
      have n_HF := Aside0.mk (Kd.F_below HF.out hb)
      have n_HZ := Aside0.mk (Nat.le_trans HZ.out hb.size)
      have n_HV := Aside0.mk (Kd.V_below HV.out hb)
      clear BK0 BK4 BK9 BK11 HB HF HZ HV
      have BK0 := n_BK0
      have BK4 := n_BK4
      have BK9 := n_BK9
      have BK11 := n_BK11
      have HB := n_HB
      have HF := n_HF
      have HZ := n_HZ
      have HV := n_HV
      clear n_BK0 n_BK4 n_BK9 n_BK11 n_HB n_HF n_HZ n_HV hb
      refine hK.out _ _ (((blk_cell BK9.out 0).trans rfl)) (fun hHeld => ?_)
      clear hK K
      refine norm_ (a' := ?_) ?_ ?_
      rotate_left
      ·show Act.put _ (some 47) _ = _
       simp only [Act.put, List.setIfInBounds_toArray, List.set_cons_zero, List.set_cons_succ, i64_w, i32_w]
       rfl
      refine one_ (i := 11) (N := some 49) #[true, true, true, true, true, true, true, true, true, true, true, true, false, true, false] rfl rfl (by kernel_rfl) (by decide) (fun K hK => ?_)
      refine goes_ Tryd.func13 (by kernel_rfl) rfl #[.slice A2 l.length c2, .string ⟨#[99, 111, 100, 101, 95, 99, 104, 97, 108, 108, 101, 110, 103, 101]⟩] (by rfl) rfl rfl (by simp only [List.map_toArray, List.map_cons, List.map_nil]; rfl) ?_
      refine (HGET.out ⟨#[99, 111, 100, 101, 95, 99, 104, 97, 108, 108, 101, 110, 103, 101]⟩ _ (Kd.F_now HF.out)).mono ?_
      rw [← G_ch.out]
      rintro e_ w_ ⟨rfl, hb⟩
      refine ⟨_, rfl, ?_⟩
      have n_BK0 := Aside0.mk (blk_below BK0.out hb)
      have n_BK4 := Aside0.mk (blk_below BK4.out hb)
      have n_BK9 := Aside0.mk (blk_below BK9.out hb)
      have n_BK11 := Aside0.mk (blk_below BK11.out hb)
      have n_HB := Aside0.mk (below_step HB.out hb)
      have n_HF := Aside0.mk (Kd.F_below HF.out hb)
      have n_HZ := Aside0.mk (Nat.le_trans HZ.out hb.size)
      have n_HV := Aside0.mk (Kd.V_below HV.out hb)
      clear BK0 BK4 BK9 BK11 HB HF HZ HV
      have BK0 := n_BK0
      have BK4 := n_BK4
      have BK9 := n_BK9
      have BK11 := n_BK11
      have HB := n_HB
      have HF := n_HF
      have HZ := n_HZ
      have HV := n_HV
      clear n_BK0 n_BK4 n_BK9 n_BK11 n_HB n_HF n_HZ n_HV hb
      refine hK.out _ _ (((blk_cell BK9.out 0).trans rfl)) (fun hHeld => ?_)
      clear hK K
      refine norm_ (a' := ?_) ?_ ?_
      rotate_left
      ·show Act.put _ (some 49) _ = _
       simp only [Act.put, List.setIfInBounds_toArray, List.set_cons_zero, List.set_cons_succ, i64_w, i32_w]
       rfl
      refine pure_ (i := 12) (N := some 50) (v := ?_) (a' := ?_) #[true, true, true, true, true, true, true, true, true, true, true, true, true, true, false] rfl rfl (by kernel_rfl) (fun _ _ _ h => h) (Or.inl ⟨by rfl, ?_⟩) ?_ ?_
      rotate_left
      ·intro w'
       go_simp
       with_reducible rfl
      rotate_left
      ·simp only [Act.put, List.setIfInBounds_toArray, List.set_cons_zero, List.set_cons_succ, i64_w, i32_w]
       rfl
      exact norm_ (by simp only [putAll, Act.put, List.setIfInBounds_toArray, List.set_cons_zero, List.set_cons_succ]) (hCont g11 _ ⟨hHeld, BK0.out, BK4.out, BK9.out, BK11.out, HG4, HG9, HZ.out, HV.out, HF.out, HB.out⟩)
    rintro g11 w9 ⟨hHeld, k0, k4, k9, k11, hg4, hg9, hz, hv, hf, hb⟩
    have BK0 := Aside0.mk k0
    have BK4 := Aside0.mk k4
    have BK9 := Aside0.mk k9
    have BK11 := Aside0.mk k11
    have HZ := Aside0.mk hz
    have HV := Aside0.mk hv
    have HF := Aside0.mk hf
    have HB := Aside0.mk hb
    clear k0 k4 k9 k11 hz hv hf hb
    refine norm_ (a' := ?_) ?_ ?_
    rotate_left
    ·simp only [putAll, Act.put, List.setIfInBounds_toArray, List.set_cons_zero, List.set_cons_succ]
     rfl
    refine one_ (i := 14) (N := none) #[true, true, true, true, true, true, true, true, true, true, true, true, true, true, true] rfl rfl (by kernel_rfl) (by decide) (fun K hK => ?_)
    obtain ⟨d_0, d_1, d_2, d_3, d_4, d_5⟩ := cl6 BK11.out
    obtain ⟨e_0, e_1, e_2, e_3, e_4, e_5⟩ := fz6 BK11.out
    refine skip_ (w1 := ?_) (by rfl) rfl ?_ ?_
    rotate_left
    ·go_simp
     rfl
    clear d_0 d_1 d_2 d_3 d_4 d_5 e_0 e_1 e_2 e_3 e_4 e_5
    have n_BK11 := Aside0.mk (fill6 (u0 := .string id) (u1 := .string re) (u2 := .string st) (u3 := .string no) (u4 := .string sc) (u5 := .string ch) BK11.out)
    have n_BK0 := Aside0.mk (far6 (u0 := .string id) (u1 := .string re) (u2 := .string st) (u3 := .string no) (u4 := .string sc) (u5 := .string ch) (g := g11) BK0.out (by omega))
    have n_BK4 := Aside0.mk (far6 (u0 := .string id) (u1 := .string re) (u2 := .string st) (u3 := .string no) (u4 := .string sc) (u5 := .string ch) (g := g11) BK4.out (by omega))
    have n_BK9 := Aside0.mk (far6 (u0 := .string id) (u1 := .string re) (u2 := .string st) (u3 := .string no) (u4 := .string sc) (u5 := .string ch) (g := g11) BK9.out (by omega))
    have n_HB := Aside0.mk (bel6 (u0 := .string id) (u1 := .string re) (u2 := .string st) (u3 := .string no) (u4 := .string sc) (u5 := .string ch) (g := g11) HB.out (by omega))
    have n_HF := Aside0.mk (Ff6 (u0 := .string id) (u1 := .string re) (u2 := .string st) (u3 := .string no) (u4 := .string sc) (u5 := .string ch) (g := g11) HF.out (fun k hk => by omega))
    have n_HZ := Aside0.mk (siz6 (u0 := .string id) (u1 := .string re) (u2 := .string st) (u3 := .string no) (u4 := .string sc) (u5 := .string ch) (g := g11) HZ.out)
    have n_HV := Aside0.mk (Vf6 (u0 := .string id) (u1 := .string re) (u2 := .string st) (u3 := .string no) (u4 := .string sc) (u5 := .string ch) (g := g11) HV.out (fun k hk => hk.2))
    clear BK11 BK0 BK4 BK9 HB HF HZ HV
    have BK11 := n_BK11
    have BK0 := n_BK0
    have BK4 := n_BK4
    have BK9 := n_BK9
    have HB := n_HB
    have HF := n_HF
    have HZ := n_HZ
    have HV := n_HV
    clear n_BK11 n_BK0 n_BK4 n_BK9 n_HB n_HF n_HZ n_HV
    refine hK.out _ _ (((blk_cell BK9.out 0).trans rfl)) (fun hHeld => ?_)
    clear hK K
    refine done_ (by kernel_rfl) ?_
    generalize ((((((w9.setCell ⟨g11, 0, none⟩ (.string id)).setCell ⟨g11, 1, none⟩ (.string re)).setCell ⟨g11, 2, none⟩ (.string st)).setCell ⟨g11, 3, none⟩ (.string no)).setCell ⟨g11, 4, none⟩ (.string sc)).setCell ⟨g11, 5, none⟩ (.string ch)) = w10 at BK0 BK4 BK9 BK11 HB HF HV HZ ⊢
    obtain ⟨dc_0, dc_1, dc_2⟩ := cl3 BK9.out
    obtain ⟨ec_0, ec_1, ec_2⟩ := fz3 BK9.out
    obtain ⟨d_0, d_1, d_2, d_3, d_4, d_5⟩ := cl6 BK11.out
    obtain ⟨e_0, e_1, e_2, e_3, e_4, e_5⟩ := fz6 BK11.out
    go_wp2_with fail
    refine (exequaturref13_Redirect.calls kq id sec A5 c5 tos re rd _ (Kd.V_reads' HV.out).2.2 (Kd.V_reads' HV.out).2.1 HRD.out).mono ?_
    rintro e_ w_ ⟨rfl, hb⟩
    clear dc_0 dc_1 dc_2 ec_0 ec_1 ec_2
    clear d_0 d_1 d_2 d_3 d_4 d_5 e_0 e_1 e_2 e_3 e_4 e_5
    have n_BK0 := Aside0.mk (blk_below BK0.out hb)
    have n_BK4 := Aside0.mk (blk_below BK4.out hb)
    have n_BK9 := Aside0.mk (blk_below BK9.out hb)
    have n_BK11 := Aside0.mk (blk_below BK11.out hb)
    have n_HB := Aside0.mk (below_step HB.out hb)
    have n_HF := Aside0.mk (Kd.F_below HF.out hb)
    have n_HZ := Aside0.mk (Nat.le_trans HZ.out hb.size)
    have n_HV := Aside0.mk (Kd.V_below HV.out hb)
    clear BK0 BK4 BK9 BK11 HB HF HZ HV
    have BK0 := n_BK0
    have BK4 := n_BK4
    have BK9 := n_BK9
    have BK11 := n_BK11
    have HB := n_HB
    have HF := n_HF
    have HZ := n_HZ
    have HV := n_HV
    clear n_BK0 n_BK4 n_BK9 n_BK11 n_HB n_HF n_HZ n_HV hb
    cases rd with
    | false =>
     have H5 := Aside0.mk (show r = askNo ⟨#[105, 110, 118, 97, 108, 105, 100, 95, 114, 101, 113, 117, 101, 115, 116]⟩ from by have := HQ.out; rw [if_pos rfl] at this; exact (Option.some.inj this).symm)
     obtain ⟨d_0, d_1, d_2, d_3, d_4, d_5⟩ := cl6 BK4.out
     obtain ⟨e_0, e_1, e_2, e_3, e_4, e_5⟩ := fz6 BK4.out
     go_wp2
     obtain rfl := H5.out
     refine rret6 (fill6 BK4.out) rfl rfl rfl ?_
     exact ⟨rfl, bel6 HB.out (by omega)⟩
    | true =>
     have hq := HQ.out
     rw [if_neg (by simp)] at hq
     split at hq
     case isFalse => cases hq
     rename_i hsz4
     obtain ⟨z1, z2, z3, z4⟩ := hsz4
     have HQ5 := Aside0.mk hq
     clear hq HQ
     obtain ⟨ks, hks⟩ := (ref_Split sc 32 (by omega)).get
     obtain ⟨ws, hws⟩ : ∃ ws, ws = spParts 32 sc := ⟨_, rfl⟩
     rw [← hws] at hks
     have HSP := Aside0.mk (show exequaturref01_Split.f ks sc 32 = some ws from hks)
     have HWS := Aside0.mk hws
     have hwl : ws.length ≤ 4611686018427387904 := by have := spParts_length 32 sc; rw [hws]; omega
     clear hks hws
     obtain ⟨d_0, d_1, d_2, d_3, d_4, d_5⟩ := cl6 BK11.out
     obtain ⟨e_0, e_1, e_2, e_3, e_4, e_5⟩ := fz6 BK11.out
     go_wp2_with fail
     refine (exequaturref01_Split.calls ks sc 32 ws _ HSP.out).mono ?_
     rintro e_ w12 ⟨vw, rfl, hrw, hb⟩
     obtain ⟨Aw, cw, rfl, hlw, hCw⟩ := Kd.R_reads hrw
     have HW0 := Aside0.mk (Kd.R_F hrw)
     clear hrw hCw
     clear d_0 d_1 d_2 d_3 d_4 d_5 e_0 e_1 e_2 e_3 e_4 e_5
     have n_BK0 := Aside0.mk (blk_below BK0.out hb)
     have n_BK4 := Aside0.mk (blk_below BK4.out hb)
     have n_BK9 := Aside0.mk (blk_below BK9.out hb)
     have n_BK11 := Aside0.mk (blk_below BK11.out hb)
     have n_HB := Aside0.mk (below_step HB.out hb)
     have n_HF := Aside0.mk (Kd.F_below HF.out hb)
     have n_HZ := Aside0.mk (Nat.le_trans HZ.out hb.size)
     have n_HV := Aside0.mk (Kd.V_below HV.out hb)
     clear BK0 BK4 BK9 BK11 HB HF HZ HV
     have BK0 := n_BK0
     have BK4 := n_BK4
     have BK9 := n_BK9
     have BK11 := n_BK11
     have HB := n_HB
     have HF := n_HF
     have HZ := n_HZ
     have HV := n_HV
     clear n_BK0 n_BK4 n_BK9 n_BK11 n_HB n_HF n_HZ n_HV hb
     obtain ⟨d_0, d_1, d_2, d_3, d_4, d_5⟩ := cl6 BK11.out
     obtain ⟨e_0, e_1, e_2, e_3, e_4, e_5⟩ := fz6 BK11.out
     go_wp2
     go_loop [12, 14] (fun vo vi => ∃ i : Nat, i ≤ ws.length ∧ vi = .int .i64 i ∧ vo = .bool (hasT ⟨#[111, 112, 101, 110, 105, 100]⟩ (ws.take i))) (fun _ vi => ws.length - (intOf vi).toNat)
     case atStart => exact ⟨0, Nat.zero_le _, rfl, rfl⟩
     case round =>
      obtain ⟨i, hi, rfl, rfl⟩ := hrel
      by_cases hlt : i < ws.length
      ·have hx := has_take ⟨#[111, 112, 101, 110, 105, 100]⟩ ws i hlt
       by_cases ho : hasT ⟨#[111, 112, 101, 110, 105, 100]⟩ (ws.take i) = true
       ·rw [ho] at hx ⊢
        rw [Bool.true_or] at hx
        have HX := Aside0.mk hx
        clear ho hx
        go_wp2
        go_round
        case rel => exact ⟨i + 1, by omega, by go_num, by rw [HX.out]⟩
        case measure => simp [intOf]; omega
       ·have ho' : hasT ⟨#[111, 112, 101, 110, 105, 100]⟩ (ws.take i) = false := Bool.eq_false_iff.2 ho
        rw [ho'] at hx ⊢
        have hC := Kd.F_now HW0.out
        have p0 : (0 : Int) ≤ (i : Int) := by omega
        have q0 : (i : Int) < (ws.length : Int) := by omega
        obtain ⟨ad, e_ad, hcell⟩ := Kd.at_string hC (i : Int) p0 q0
        cases e_ad
        have hr : rdOf ByteArray.empty ws (i : Int) = ws[i] := by simp [rdOf, hlt]
        rw [hr] at hcell
        simp only [Int.toNat_natCast] at hcell
        have hx2 : hasT ⟨#[111, 112, 101, 110, 105, 100]⟩ (ws.take (i + 1)) = (ws[i].toList == [111, 112, 101, 110, 105, 100]) := by
         have hlit : (⟨#[111, 112, 101, 110, 105, 100]⟩ : ByteArray).toList = [111, 112, 101, 110, 105, 100] := by rw [toList_bl]; rfl
         rw [hx, Bool.false_or, hlit, Bool.eq_iff_iff, beq_iff_eq, beq_iff_eq]
         exact eq_comm
        have HX := Aside0.mk hx2
        generalize ws[i] = wd at hcell HX
        clear ho ho' hx hx2 hr hC
        go_wp2
        go_round
        case rel => exact ⟨i + 1, by omega, by go_num, by rw [HX.out]⟩
        case measure => simp [intOf]; omega
      ·obtain rfl : i = ws.length := by omega
       rw [List.take_length]
       have hpr := HPR.out
       unfold askProblem at hpr
       rw [show (splitL 32 (bl sc)).map ba = ws from HWS.out.symm] at hpr
       generalize hasT ⟨#[111, 112, 101, 110, 105, 100]⟩ ws = op at hpr ⊢
       have HP := Aside0.mk hpr
       clear hpr
       go_wp2_with fail
       refine (HGET.out ⟨#[114, 101, 115, 112, 111, 110, 115, 101, 95, 116, 121, 112, 101]⟩ _ (Kd.F_now HF.out)).mono ?_
       generalize askGet l ⟨#[114, 101, 115, 112, 111, 110, 115, 101, 95, 116, 121, 112, 101]⟩ = t1 at HP
       rintro e_ w_ ⟨rfl, hb⟩
       clear d_0 d_1 d_2 d_3 d_4 d_5 e_0 e_1 e_2 e_3 e_4 e_5
       have n_BK0 := Aside0.mk (blk_below BK0.out hb)
       have n_BK4 := Aside0.mk (blk_below BK4.out hb)
       have n_BK9 := Aside0.mk (blk_below BK9.out hb)
       have n_BK11 := Aside0.mk (blk_below BK11.out hb)
       have n_HB := Aside0.mk (below_step HB.out hb)
       have n_HF := Aside0.mk (Kd.F_below HF.out hb)
       have n_HZ := Aside0.mk (Nat.le_trans HZ.out hb.size)
       have n_HV := Aside0.mk (Kd.V_below HV.out hb)
       clear BK0 BK4 BK9 BK11 HB HF HZ HV
       have BK0 := n_BK0
       have BK4 := n_BK4
       have BK9 := n_BK9
       have BK11 := n_BK11
       have HB := n_HB
       have HF := n_HF
       have HZ := n_HZ
       have HV := n_HV
       clear n_BK0 n_BK4 n_BK9 n_BK11 n_HB n_HF n_HZ n_HV hb
       by_cases q1 : t1.toList = [99, 111, 100, 101]
       ·have q1b : (t1.toList == [99, 111, 100, 101]) = true := beq_iff_eq.mpr q1
        have HP1 := Aside0.mk (HP.out.trans (if_neg (fun h => h q1)))
        clear q1 HP
        go_wp2_with fail
        refine (HGET.out ⟨#[99, 111, 100, 101, 95, 99, 104, 97, 108, 108, 101, 110, 103, 101, 95, 109, 101, 116, 104, 111, 100]⟩ _ (Kd.F_now HF.out)).mono ?_
        generalize askGet l ⟨#[99, 111, 100, 101, 95, 99, 104, 97, 108, 108, 101, 110, 103, 101, 95, 109, 101, 116, 104, 111, 100]⟩ = t2 at HP1
        rintro e_ w_ ⟨rfl, hb⟩
        have n_BK0 := Aside0.mk (blk_below BK0.out hb)
        have n_BK4 := Aside0.mk (blk_below BK4.out hb)
        have n_BK9 := Aside0.mk (blk_below BK9.out hb)
        have n_BK11 := Aside0.mk (blk_below BK11.out hb)
        have n_HB := Aside0.mk (below_step HB.out hb)
        have n_HF := Aside0.mk (Kd.F_below HF.out hb)
        have n_HZ := Aside0.mk (Nat.le_trans HZ.out hb.size)
        have n_HV := Aside0.mk (Kd.V_below HV.out hb)
        clear BK0 BK4 BK9 BK11 HB HF HZ HV
        have BK0 := n_BK0
        have BK4 := n_BK4
        have BK9 := n_BK9
        have BK11 := n_BK11
        have HB := n_HB
        have HF := n_HF
        have HZ := n_HZ
        have HV := n_HV
        clear n_BK0 n_BK4 n_BK9 n_BK11 n_HB n_HF n_HZ n_HV hb
        obtain ⟨d_0, d_1, d_2, d_3, d_4, d_5⟩ := cl6 BK11.out
        obtain ⟨e_0, e_1, e_2, e_3, e_4, e_5⟩ := fz6 BK11.out
        by_cases q2 : t2.toList = [83, 50, 53, 54]
        ·have q2b : (t2.toList == [83, 50, 53, 54]) = true := beq_iff_eq.mpr q2
         obtain ⟨kg, hkg⟩ := (rgood_f ch (by omega)).get
         have HKG := Aside0.mk hkg
         clear hkg
         go_wp2_with fail
         refine (exequaturref01_Good.calls kg ch _ _ HKG.out).mono ?_
         generalize goodC ch = gd at HP1
         rintro e_ w_ ⟨rfl, hb⟩
         clear d_0 d_1 d_2 d_3 d_4 d_5 e_0 e_1 e_2 e_3 e_4 e_5
         have n_BK0 := Aside0.mk (blk_below BK0.out hb)
         have n_BK4 := Aside0.mk (blk_below BK4.out hb)
         have n_BK9 := Aside0.mk (blk_below BK9.out hb)
         have n_BK11 := Aside0.mk (blk_below BK11.out hb)
         have n_HB := Aside0.mk (below_step HB.out hb)
         have n_HF := Aside0.mk (Kd.F_below HF.out hb)
         have n_HZ := Aside0.mk (Nat.le_trans HZ.out hb.size)
         have n_HV := Aside0.mk (Kd.V_below HV.out hb)
         clear BK0 BK4 BK9 BK11 HB HF HZ HV
         have BK0 := n_BK0
         have BK4 := n_BK4
         have BK9 := n_BK9
         have BK11 := n_BK11
         have HB := n_HB
         have HF := n_HF
         have HZ := n_HZ
         have HV := n_HV
         clear n_BK0 n_BK4 n_BK9 n_BK11 n_HB n_HF n_HZ n_HV hb
         obtain ⟨d_0, d_1, d_2, d_3, d_4, d_5⟩ := cl6 BK11.out
         obtain ⟨e_0, e_1, e_2, e_3, e_4, e_5⟩ := fz6 BK11.out
         obtain ⟨df_0, df_1, df_2, df_3, df_4, df_5⟩ := cl6 BK4.out
         obtain ⟨ef_0, ef_1, ef_2, ef_3, ef_4, ef_5⟩ := fz6 BK4.out
         cases gd with
         | false =>
          have HPF := Aside0.mk (HP1.out.trans (if_pos (Or.inr rfl)))
          clear HP1 q2
          have H5 := Aside0.mk (show r = (id, re, if 256 < st.size then ⟨#[]⟩ else st, ⟨#[]⟩, ⟨#[]⟩, ⟨#[]⟩, ⟨#[105, 110, 118, 97, 108, 105, 100, 95, 114, 101, 113, 117, 101, 115, 116]⟩, true) from by have := HQ5.out; rw [HPF.out, if_neg (by rw [toList_bl]; decide)] at this; exact (Option.some.inj this).symm)
          by_cases hs : 256 < st.size
          ·have q9 : decide ((256 : Int) < (st.size : Int)) = true := decide_eq_true (by omega)
           have H6 := Aside0.mk hs
           clear hs
           go_wp2
           obtain rfl := H5.out
           have hs := H6.out
           refine rret6 (fill6 (blk_far BK4.out (p := ⟨g11, 2, none⟩) (by omega : w.heap.size + 1 ≠ g11) _)) rfl rfl rfl ?_
           exact ⟨by rw [if_pos hs]; rfl, bel6 (below_set HB.out (by omega)) (by omega)⟩
          ·have q9 : decide ((256 : Int) < (st.size : Int)) = false := decide_eq_false (by omega)
           have H6 := Aside0.mk hs
           clear hs
           go_wp2
           obtain rfl := H5.out
           have hs := H6.out
           refine rret6 (fill6 BK4.out) rfl rfl rfl ?_
           exact ⟨by rw [if_neg hs]; rfl, bel6 HB.out (by omega)⟩
         | true =>
          have HP2 := Aside0.mk (HP1.out.trans (if_neg (by rintro (h | h); exact h q2; cases h)))
          clear HP1 q2
          cases op with
          | false =>
           have HPF := Aside0.mk (HP2.out.trans (if_pos rfl))
           clear HP2
           have H5 := Aside0.mk (show r = (id, re, if 256 < st.size then ⟨#[]⟩ else st, ⟨#[]⟩, ⟨#[]⟩, ⟨#[]⟩, ⟨#[105, 110, 118, 97, 108, 105, 100, 95, 115, 99, 111, 112, 101]⟩, true) from by have := HQ5.out; rw [HPF.out, if_neg (by rw [toList_bl]; decide)] at this; exact (Option.some.inj this).symm)
           by_cases hs : 256 < st.size
           ·have q9 : decide ((256 : Int) < (st.size : Int)) = true := decide_eq_true (by omega)
            have H6 := Aside0.mk hs
            clear hs
            go_wp2
            obtain rfl := H5.out
            have hs := H6.out
            refine rret6 (fill6 (blk_far BK4.out (p := ⟨g11, 2, none⟩) (by omega : w.heap.size + 1 ≠ g11) _)) rfl rfl rfl ?_
            exact ⟨by rw [if_pos hs]; rfl, bel6 (below_set HB.out (by omega)) (by omega)⟩
           ·have q9 : decide ((256 : Int) < (st.size : Int)) = false := decide_eq_false (by omega)
            have H6 := Aside0.mk hs
            clear hs
            go_wp2
            obtain rfl := H5.out
            have hs := H6.out
            refine rret6 (fill6 BK4.out) rfl rfl rfl ?_
            exact ⟨by rw [if_neg hs]; rfl, bel6 HB.out (by omega)⟩
          | true =>
           have HP3 := Aside0.mk (HP2.out.trans (if_neg (by simp)))
           clear HP2
           by_cases s1 : 256 < st.size
           ·have HPF := Aside0.mk (HP3.out.trans (if_pos (Or.inl s1)))
            have p1 : decide ((256 : Int) < (st.size : Int)) = true := decide_eq_true (by omega)
            have H6 := Aside0.mk s1
            clear HP3 s1
            have H5 := Aside0.mk (show r = (id, re, if 256 < st.size then ⟨#[]⟩ else st, ⟨#[]⟩, ⟨#[]⟩, ⟨#[]⟩, ⟨#[105, 110, 118, 97, 108, 105, 100, 95, 114, 101, 113, 117, 101, 115, 116]⟩, true) from by have := HQ5.out; rw [HPF.out, if_neg (by rw [toList_bl]; decide)] at this; exact (Option.some.inj this).symm)
            go_wp2
            obtain rfl := H5.out
            have hs := H6.out
            refine rret6 (fill6 (blk_far BK4.out (p := ⟨g11, 2, none⟩) (by omega : w.heap.size + 1 ≠ g11) _)) rfl rfl rfl ?_
            exact ⟨by rw [if_pos hs]; rfl, bel6 (below_set HB.out (by omega)) (by omega)⟩
           ·have p1 : decide ((256 : Int) < (st.size : Int)) = false := decide_eq_false (by omega)
            by_cases s2 : 256 < no.size
            ·have HPF := Aside0.mk (HP3.out.trans (if_pos (Or.inr (Or.inl s2))))
             have p2 : decide ((256 : Int) < (no.size : Int)) = true := decide_eq_true (by omega)
             have H6 := Aside0.mk s1
             clear HP3 s1 s2
             have H5 := Aside0.mk (show r = (id, re, if 256 < st.size then ⟨#[]⟩ else st, ⟨#[]⟩, ⟨#[]⟩, ⟨#[]⟩, ⟨#[105, 110, 118, 97, 108, 105, 100, 95, 114, 101, 113, 117, 101, 115, 116]⟩, true) from by have := HQ5.out; rw [HPF.out, if_neg (by rw [toList_bl]; decide)] at this; exact (Option.some.inj this).symm)
             go_wp2
             obtain rfl := H5.out
             have hs := H6.out
             refine rret6 (fill6 BK4.out) rfl rfl rfl ?_
             exact ⟨by rw [if_neg hs]; rfl, bel6 HB.out (by omega)⟩
            ·have p2 : decide ((256 : Int) < (no.size : Int)) = false := decide_eq_false (by omega)
             by_cases s3 : 256 < sc.size
             ·have HPF := Aside0.mk (HP3.out.trans (if_pos (Or.inr (Or.inr s3))))
              have p3 : decide ((256 : Int) < (sc.size : Int)) = true := decide_eq_true (by omega)
              have H6 := Aside0.mk s1
              clear HP3 s1 s2 s3
              have H5 := Aside0.mk (show r = (id, re, if 256 < st.size then ⟨#[]⟩ else st, ⟨#[]⟩, ⟨#[]⟩, ⟨#[]⟩, ⟨#[105, 110, 118, 97, 108, 105, 100, 95, 114, 101, 113, 117, 101, 115, 116]⟩, true) from by have := HQ5.out; rw [HPF.out, if_neg (by rw [toList_bl]; decide)] at this; exact (Option.some.inj this).symm)
              go_wp2
              obtain rfl := H5.out
              have hs := H6.out
              refine rret6 (fill6 BK4.out) rfl rfl rfl ?_
              exact ⟨by rw [if_neg hs]; rfl, bel6 HB.out (by omega)⟩
             ·have HPF := Aside0.mk (HP3.out.trans (if_neg (by rintro (h | h | h); exact s1 h; exact s2 h; exact s3 h)))
              have p3 : decide ((256 : Int) < (sc.size : Int)) = false := decide_eq_false (by omega)
              have H5 := Aside0.mk (show r = (id, re, st, no, sc, ch, ⟨#[]⟩, false) from by have := HQ5.out; rw [HPF.out, if_pos (by rw [toList_bl]; rfl)] at this; exact (Option.some.inj this).symm)
              clear HP3 s1 s2 s3
              go_wp2
              obtain rfl := H5.out
              refine rret6 (fill6 BK4.out) rfl rfl rfl ?_
              exact ⟨rfl, bel6 HB.out (by omega)⟩
        ·have q2b : (t2.toList == [83, 50, 53, 54]) = false := beq_eq_false_iff_ne.mpr q2
         have HPF := Aside0.mk (HP1.out.trans (if_pos (Or.inl q2)))
         clear HP1 q2
         obtain ⟨df_0, df_1, df_2, df_3, df_4, df_5⟩ := cl6 BK4.out
         obtain ⟨ef_0, ef_1, ef_2, ef_3, ef_4, ef_5⟩ := fz6 BK4.out
         have H5 := Aside0.mk (show r = (id, re, if 256 < st.size then ⟨#[]⟩ else st, ⟨#[]⟩, ⟨#[]⟩, ⟨#[]⟩, ⟨#[105, 110, 118, 97, 108, 105, 100, 95, 114, 101, 113, 117, 101, 115, 116]⟩, true) from by have := HQ5.out; rw [HPF.out, if_neg (by rw [toList_bl]; decide)] at this; exact (Option.some.inj this).symm)
         by_cases hs : 256 < st.size
         ·have q9 : decide ((256 : Int) < (st.size : Int)) = true := decide_eq_true (by omega)
          have H6 := Aside0.mk hs
          clear hs
          go_wp2
          obtain rfl := H5.out
          have hs := H6.out
          refine rret6 (fill6 (blk_far BK4.out (p := ⟨g11, 2, none⟩) (by omega : w.heap.size + 1 ≠ g11) _)) rfl rfl rfl ?_
          exact ⟨by rw [if_pos hs]; rfl, bel6 (below_set HB.out (by omega)) (by omega)⟩
         ·have q9 : decide ((256 : Int) < (st.size : Int)) = false := decide_eq_false (by omega)
          have H6 := Aside0.mk hs
          clear hs
          go_wp2
          obtain rfl := H5.out
          have hs := H6.out
          refine rret6 (fill6 BK4.out) rfl rfl rfl ?_
          exact ⟨by rw [if_neg hs]; rfl, bel6 HB.out (by omega)⟩
       ·have q1b : (t1.toList == [99, 111, 100, 101]) = false := beq_eq_false_iff_ne.mpr q1
        have HPF := Aside0.mk (HP.out.trans (if_pos q1))
        clear q1 HP
        obtain ⟨d_0, d_1, d_2, d_3, d_4, d_5⟩ := cl6 BK11.out
        obtain ⟨e_0, e_1, e_2, e_3, e_4, e_5⟩ := fz6 BK11.out
        obtain ⟨df_0, df_1, df_2, df_3, df_4, df_5⟩ := cl6 BK4.out
        obtain ⟨ef_0, ef_1, ef_2, ef_3, ef_4, ef_5⟩ := fz6 BK4.out
        have H5 := Aside0.mk (show r = (id, re, if 256 < st.size then ⟨#[]⟩ else st, ⟨#[]⟩, ⟨#[]⟩, ⟨#[]⟩, ⟨#[117, 110, 115, 117, 112, 112, 111, 114, 116, 101, 100, 95, 114, 101, 115, 112, 111, 110, 115, 101, 95, 116, 121, 112, 101]⟩, true) from by have := HQ5.out; rw [HPF.out, if_neg (by rw [toList_bl]; decide)] at this; exact (Option.some.inj this).symm)
        by_cases hs : 256 < st.size
        ·have q9 : decide ((256 : Int) < (st.size : Int)) = true := decide_eq_true (by omega)
         have H6 := Aside0.mk hs
         clear hs
         go_wp2
         obtain rfl := H5.out
         have hs := H6.out
         refine rret6 (fill6 (blk_far BK4.out (p := ⟨g11, 2, none⟩) (by omega : w.heap.size + 1 ≠ g11) _)) rfl rfl rfl ?_
         exact ⟨by rw [if_pos hs]; rfl, bel6 (below_set HB.out (by omega)) (by omega)⟩
        ·have q9 : decide ((256 : Int) < (st.size : Int)) = false := decide_eq_false (by omega)
         have H6 := Aside0.mk hs
         clear hs
         go_wp2
         obtain rfl := H5.out
         have hs := H6.out
         refine rret6 (fill6 BK4.out) rfl rfl rfl ?_
         exact ⟨by rw [if_neg hs]; rfl, bel6 HB.out (by omega)⟩
 ·have H3 := Aside0.mk (show r = askNo ⟨#[105, 110, 118, 97, 108, 105, 100, 95, 114, 101, 113, 117, 101, 115, 116]⟩ from by have := H.out; rw [if_neg he] at this; exact (Option.some.inj this).symm)
  have heb : (e == 0) = false := beq_eq_false_iff_ne.mpr he
  have heb2 : (e != 0) = true := bne_iff_ne.mpr he
  obtain ⟨d40, d41, d42, d43, d44, d45⟩ := cl6 BK4.out
  obtain ⟨f40, f41, f42, f43, f44, f45⟩ := fz6 BK4.out
  clear he H
  go_wp2
  obtain rfl := H3.out
  refine rret6 (fill6 BK4.out) rfl rfl rfl ?_
  exact ⟨rfl, bel6 HB.out (Nat.le_succ _)⟩
def exequaturref13_Check.f (a0_0 a0_1 a0_2 : ByteArray) (l0_3 : List S43) (l0_4 : List S129) (a1 : ByteArray) : Option Ask6 := if l0_3.length ≤ 4611686018427387904 then ask_Check.f a0_0 a0_1 a0_2 l0_3 l0_4 a1 else none
theorem exequaturref13_Check.calls (a0_0 a0_1 a0_2 : ByteArray) (A0_3 : Option Addr) (c0_3 : Nat) (l0_3 : List (S43)) (A0_4 : Option Addr) (c0_4 : Nat) (l0_4 : List (S129)) (a1 : ByteArray) (r1 r2 r3 r4 r5 r6 r7 : ByteArray) (r8 : Bool) (w : World) (hr0_3 : Kd.C k43 w A0_3 l0_3.length l0_3) (hc0_3 : l0_3.length ≤ c0_3) (hr0_4 : Kd.C k129 w A0_4 l0_4.length l0_4) (hc0_4 : l0_4.length ≤ c0_4)
  (h : exequaturref13_Check.f a0_0 a0_1 a0_2 l0_3 l0_4 a1 = some (r1, r2, r3, r4, r5, r6, r7, r8)) :
  Calls Tryd.prog 9 #[.agg #[.string a0_0, .string a0_1, .string a0_2, .slice A0_3 l0_3.length c0_3, .slice A0_4 l0_4.length c0_4], .string a1] w fun e w' => e = .returned (.tuple #[.agg #[.string r1, .string r2, .string r3, .string r4, .string r5, .string r6], .string r7, .bool r8]) ∧ Below w.heap.size w w' := by
 unfold exequaturref13_Check.f at h
 split at h
 ·rename_i hl
  exact ref_Check_ a0_0 a0_1 a0_2 A0_3 c0_3 l0_3 A0_4 c0_4 l0_4 a1 _ w hr0_3 hc0_3 hr0_4 hc0_4 h hl
 ·cases h
end Go.Proofs.YtmhaaggmfgojbaaDoor.X
