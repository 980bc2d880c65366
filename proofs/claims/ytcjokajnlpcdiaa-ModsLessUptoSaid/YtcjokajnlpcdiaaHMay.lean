import Derived.Test.YtcjokajnlpcdiaaHClean1
import Derived.Test.YtcjokajnlpcdiaaHLook
import Derived.Outline
/- mods.May -/
namespace Go.Proofs.Ytcjokajnlpcdiaa.H
open Go Go.RowKit Go.Lib Go.Proofs.YtcjokajnlpcdiaaW.PrintWords Go.Proofs.YtcjokajnlpcdiaaW.PrintLast Go.Proofs.YtcjokajnlpcdiaaW.PrintMore Go.Proofs.Ytcjokajnlpcdiaa.Pure
set_option linter.unusedVariables false
set_option linter.unusedSimpArgs false
/-- May it be a text's code? -/
def textB (a : Int) : Bool := a == 0 || (lookE a).1 == 1
theorem entry_0 (x0 x1 x2 x3 : Int) (x4 : Bool) (W : World) : (Instr.field 34 (.agg #[.int .i64 x0, .int .u8 x1, .int .i64 x2, .int .i64 x3, .bool x4]) 0).run Try.prog W = .ok (.int .i64 x0) W := by kernel_rfl
set_option maxHeartbeats 4000000 in
theorem text_c (a : Int) (w : World) : Calls Try.prog 22 #[.int .i64 a] w fun e w' => e = .returned (.bool (textB a)) ∧ Below w.heap.size w w' := by
  have hf := entry_0
  obtain ⟨r1, r2, r3, r4, r5, hL⟩ : ∃ r1 r2 r3 r4 r5, lookE a = (r1, r2, r3, r4, r5) := ⟨_, _, _, _, _, rfl⟩
  have HL := Aside0.mk (show keys_Look.f a = some (r1, r2, r3, r4, r5) from congrArg some hL)
  by_cases h0 : a = 0
  · have e0 : (a == 0) = true := beq_iff_eq.mpr h0
    have HT := Aside0.mk (show textB a = true by unfold textB; rw [e0]; rfl)
    have HB := Aside0.mk (Below.refl w.heap.size w)
    clear h0 hL
    go_enter Try.func22, Try.ntmps22
    go_wp2
    go_ret
    rw [HT.out]
    exact ⟨rfl, HB.out⟩
  · have e0 : (a == 0) = false := beq_eq_false_iff_ne.mpr h0
    have HT := Aside0.mk (show textB a = (r1 == 1) by unfold textB; rw [e0, hL]; rfl)
    clear h0 hL
    go_enter Try.func22, Try.ntmps22
    go_wp2_with (go_at_call 23; (with_reducible refine (keys_Look.calls a r1 r2 r3 r4 r5 _ HL.out).mono ?_); rintro e w3 ⟨rfl, hb2⟩; have HB := Aside0.mk hb2; clear hb2)
    go_ret
    rw [HT.out]
    exact ⟨rfl, HB.out⟩
/-- A key's event that may be. -/
def mayB (a0 a1 a2 a3 a4 : Int) (s : ByteArray) : Bool := ((allC (numsS s)).2 && (allC (numsS s)).1.all okR) && (decide ((allC (numsS s)).1.length ≤ 8) && (textB a3 && (textB a4 && ((decide (0 ≤ a1) && (decide (a1 ≤ 255) && (decide (1 ≤ a2) && decide (a2 ≤ 3)))) && ((lookE a0).1 != 0)))))
theorem all_cons_take {l : List Int} {j : Nat} (hj : j < l.length) : (l.take (j + 1)).all okR = ((l.take j).all okR && okR (rd l j)) := by
  have e : rd l j = l[j] := by
    show l.getD _ 0 = _
    rw [show (j : Int).toNat = j by omega, List.getD_eq_getElem?_getD, List.getElem?_eq_getElem hj]; rfl
  rw [List.take_succ_eq_append_getElem hj, List.all_append, ← e]
  simp
set_option maxRecDepth 100000 in
set_option maxHeartbeats 8000000 in
theorem may_t (a0 a1 a2 a3 a4 : Int) (s : ByteArray) (hs : s.size ≤ 1100000) (w : World) : Calls Try.prog 10 #[.agg #[.int .i64 a0, .int .i64 a1, .int .i64 a2, .int .i64 a3, .int .i64 a4, .string s]] w fun e w' => e = .returned (.bool (mayB a0 a1 a2 a3 a4 s)) ∧ Below w.heap.size w w' := by
  have kc := conv_run
  have hf := entry_0
  have hu := Try.underlying23
  obtain ⟨r1, r2, r3, r4, r5, hL⟩ : ∃ r1 r2 r3 r4 r5, lookE a0 = (r1, r2, r3, r4, r5) := ⟨_, _, _, _, _, rfl⟩
  have HL0 := Aside0.mk (show keys_Look.f a0 = some (r1, r2, r3, r4, r5) from congrArg some hL)
  obtain ⟨l, is, hA⟩ : ∃ l is, allC (numsS s) = (l, is) := ⟨_, _, rfl⟩
  have HR := Aside0.mk (show utf_All.f (numsS s) = some (l, is) by unfold utf_All.f; rw [if_pos (by rw [numsS_len]; omega), hA])
  have HM := Aside0.mk (show mayB a0 a1 a2 a3 a4 s = ((is && l.all okR) && (decide (l.length ≤ 8) && (textB a3 && (textB a4 && ((decide (0 ≤ a1) && (decide (a1 ≤ 255) && (decide (1 ≤ a2) && decide (a2 ≤ 3)))) && (r1 != 0)))))) by unfold mayB; rw [hA, hL])
  have HLL := Aside0.mk (show l.length ≤ 1100000 by have := all_len (numsS s); rw [hA, numsS_len] at this; dsimp only at this; omega)
  clear hA hL
  obtain ⟨t3, ht3⟩ : ∃ t, textB a3 = t := ⟨_, rfl⟩
  obtain ⟨t4, ht4⟩ : ∃ t, textB a4 = t := ⟨_, rfl⟩
  have T3 := Aside0.mk ht3
  have T4 := Aside0.mk ht4
  clear ht3 ht4
  have hb0 := below_alloc (Below.refl w.heap.size w) (Obj.cells #[.int .i64 a0, .int .i64 a1, .int .i64 a2, .int .i64 a3, .int .i64 a4, .string s] 23)
  have hk0 := blk_new w (Obj.cells #[.int .i64 a0, .int .i64 a1, .int .i64 a2, .int .i64 a3, .int .i64 a4, .string s] 23)
  obtain ⟨w1, hw1⟩ : ∃ w1, w.alloc (Obj.cells #[.int .i64 a0, .int .i64 a1, .int .i64 a2, .int .i64 a3, .int .i64 a4, .string s] 23) = w1 := ⟨_, rfl⟩
  rw [hw1] at hb0 hk0
  have hcv := conv_below w1 s
  have BK := Aside0.mk (blk_below hk0 hcv)
  have HB := Aside0.mk (below_step hb0 hcv)
  have HCC := Aside0.mk (conv_c w1 s (by omega))
  have HCP := Aside0.mk (show (numsS s).length ≤ grownCap w1 s.size 0 5 by rw [numsS_len]; exact cap_le _ _ _)
  have x0 := (blk_cell hk0 0).trans rfl
  have x5 := (blk_cell hk0 5).trans rfl
  clear hb0 hk0 hcv
  have HS := Aside0.mk hs
  go_enter Try.func10, Try.ntmps10
  go_wp2_with (first | (go_at_call 24; (with_reducible refine (utf_All.calls _ _ (numsS s) l is _ HCC.out HCP.out HR.out).mono ?_); rintro e w2 ⟨v2, rfl, hv2, hb2⟩; obtain ⟨A3, c3, rfl⟩ := Kd.R_slice hv2; have HO := Aside0.mk hv2; have BK2 := Aside0.mk (blk_below BK.out hb2); have HB2 := Aside0.mk (below_step HB.out hb2); clear hv2 hb2 HB BK; have HB := HB2; have BK := BK2; clear HB2 BK2))
  go_loopw [5, 17] (fun v5 v17 wr => ∃ (j : Nat) (b : Bool), v5 = .bool b ∧ v17 = .int .i64 (j : Int) ∧ j ≤ l.length ∧ Aside0 (b = (is && (l.take j).all okR)) ∧ wr = w2) (fun _ v17 _ => (l.length - numC' v17).toNat)
  case atStart => exact ⟨0, is, rfl, rfl, Nat.zero_le _, ⟨by simp⟩, rfl⟩
  case round =>
    obtain ⟨j, b, rfl, rfl, hj, HT, rfl⟩ := hrel
    by_cases hlt : j < l.length
    · obtain ⟨ad, e1, hx⟩ := Kd.at_int (Kd.R_reads' HO.out).2.2 (j : Int) (by omega) (by omega)
      subst e1
      have hx' : wr.cell? (ad.add j) = some (.int .i64 (rd l j)) := by simpa using hx
      have hlL := HLL.out
      have qi : (j < l.length) = True := eq_true hlt
      obtain ⟨r, hr⟩ : ∃ r, rd l j = r := ⟨_, rfl⟩
      rw [hr] at hx hx'
      have HRR := Aside0.mk (show (is && (l.take (j + 1)).all okR) = (b && okR r) by rw [all_cons_take hlt, ← Bool.and_assoc, ← HT.out, hr])
      clear hr
      cases b
      · go_wp2
        exact ⟨⟨j + 1, false, rfl, by push_cast; rfl, hlt, ⟨by rw [HRR.out]; rfl⟩, trivial⟩, by show ((l.length : Int) - ((j : Int) + 1)).toNat < ((l.length : Int) - (j : Int)).toNat; omega⟩
      by_cases k1 : r < 32
      · skip
        have d0 : decide (r ≥ 32) = false := decide_eq_false (by omega)
        have HV := Aside0.mk (show okR r = false by unfold okR; simp; omega)
        (try clear k1); (try clear k2); (try clear k3)
        go_wp2
        exact ⟨⟨j + 1, false, rfl, by push_cast; rfl, hlt, ⟨by rw [HRR.out, HV.out]; rfl⟩, trivial⟩, by show ((l.length : Int) - ((j : Int) + 1)).toNat < ((l.length : Int) - (j : Int)).toNat; omega⟩
      by_cases k2 : r < 127
      · skip
        have d0 : decide (r ≥ 32) = true := decide_eq_true (by omega)
        have d1 : decide (r < 127) = true := decide_eq_true (by omega)
        have HV := Aside0.mk (show okR r = true by unfold okR; simp; omega)
        (try clear k1); (try clear k2); (try clear k3)
        go_wp2
        exact ⟨⟨j + 1, true, rfl, by push_cast; rfl, hlt, ⟨by rw [HRR.out, HV.out]; rfl⟩, trivial⟩, by show ((l.length : Int) - ((j : Int) + 1)).toNat < ((l.length : Int) - (j : Int)).toNat; omega⟩
      by_cases k3 : r > 159
      · skip
        have d0 : decide (r ≥ 32) = true := decide_eq_true (by omega)
        have d1 : decide (r < 127) = false := decide_eq_false (by omega)
        have d2 : decide (r > 159) = true := decide_eq_true (by omega)
        have HV := Aside0.mk (show okR r = true by unfold okR; simp; omega)
        (try clear k1); (try clear k2); (try clear k3)
        go_wp2
        exact ⟨⟨j + 1, true, rfl, by push_cast; rfl, hlt, ⟨by rw [HRR.out, HV.out]; rfl⟩, trivial⟩, by show ((l.length : Int) - ((j : Int) + 1)).toNat < ((l.length : Int) - (j : Int)).toNat; omega⟩
      · skip
        have d0 : decide (r ≥ 32) = true := decide_eq_true (by omega)
        have d1 : decide (r < 127) = false := decide_eq_false (by omega)
        have d2 : decide (r > 159) = false := decide_eq_false (by omega)
        have HV := Aside0.mk (show okR r = false by unfold okR; simp; omega)
        (try clear k1); (try clear k2); (try clear k3)
        go_wp2
        exact ⟨⟨j + 1, false, rfl, by push_cast; rfl, hlt, ⟨by rw [HRR.out, HV.out]; rfl⟩, trivial⟩, by show ((l.length : Int) - ((j : Int) + 1)).toNat < ((l.length : Int) - (j : Int)).toNat; omega⟩
    · obtain rfl : j = l.length := by omega
      have hb := HT.out
      rw [List.take_length] at hb
      have HM2 := Aside0.mk (show mayB a0 a1 a2 a3 a4 s = (b && (decide (l.length ≤ 8) && (textB a3 && (textB a4 && ((decide (0 ≤ a1) && (decide (a1 ≤ 255) && (decide (1 ≤ a2) && decide (a2 ≤ 3)))) && (r1 != 0)))))) by rw [HM.out, ← hb])
      clear hb HM
      have y0 := (blk_cell BK.out 0).trans rfl
      have y1 := (blk_cell BK.out 1).trans rfl
      have y2 := (blk_cell BK.out 2).trans rfl
      have y3 := (blk_cell BK.out 3).trans rfl
      have y4 := (blk_cell BK.out 4).trans rfl
      have y5 := (blk_cell BK.out 5).trans rfl
      cases b
      · go_wp2
        go_ret
        exact ⟨by rw [HM2.out]; rfl, HB.out⟩
      by_cases h8 : l.length > 8
      · have d0 : decide ((l.length : Int) > 8) = true := decide_eq_true (by omega)
        have H8 := Aside0.mk (show decide (l.length ≤ 8) = false from decide_eq_false (by omega))
        clear h8
        go_wp2
        go_ret
        exact ⟨by rw [HM2.out, H8.out]; rfl, HB.out⟩
      have d0 : decide ((l.length : Int) > 8) = false := decide_eq_false (by omega)
      have H8 := Aside0.mk (show decide (l.length ≤ 8) = true from decide_eq_true (by omega))
      clear h8
      cases t3
      · go_wp2_with (first | (go_at_call 22; (with_reducible refine (text_c _ _).mono ?_); rintro e w3 ⟨rfl, hb2⟩; (try rw [T3.out]); (try rw [T4.out]); have BK2 := Aside0.mk (blk_below BK.out hb2); have HB2 := Aside0.mk (below_step HB.out hb2); clear hb2 HB BK; have HB := HB2; have BK := BK2; clear HB2 BK2; have y0 := (blk_cell BK.out 0).trans rfl; have y1 := (blk_cell BK.out 1).trans rfl; have y2 := (blk_cell BK.out 2).trans rfl; have y3 := (blk_cell BK.out 3).trans rfl; have y4 := (blk_cell BK.out 4).trans rfl; have y5 := (blk_cell BK.out 5).trans rfl; skip))
        go_ret
        exact ⟨by rw [HM2.out, H8.out, T3.out]; rfl, HB.out⟩
      cases t4
      · go_wp2_with (first | (go_at_call 22; (with_reducible refine (text_c _ _).mono ?_); rintro e w3 ⟨rfl, hb2⟩; (try rw [T3.out]); (try rw [T4.out]); have BK2 := Aside0.mk (blk_below BK.out hb2); have HB2 := Aside0.mk (below_step HB.out hb2); clear hb2 HB BK; have HB := HB2; have BK := BK2; clear HB2 BK2; have y0 := (blk_cell BK.out 0).trans rfl; have y1 := (blk_cell BK.out 1).trans rfl; have y2 := (blk_cell BK.out 2).trans rfl; have y3 := (blk_cell BK.out 3).trans rfl; have y4 := (blk_cell BK.out 4).trans rfl; have y5 := (blk_cell BK.out 5).trans rfl; skip))
        go_ret
        exact ⟨by rw [HM2.out, H8.out, T3.out, T4.out]; rfl, HB.out⟩
      have HM3 := Aside0.mk (show mayB a0 a1 a2 a3 a4 s = ((decide (0 ≤ a1) && (decide (a1 ≤ 255) && (decide (1 ≤ a2) && decide (a2 ≤ 3)))) && (r1 != 0)) by rw [HM2.out, H8.out, T3.out, T4.out]; simp)
      clear HM2
      by_cases k1 : a1 < 0
      · skip
        have e0 : decide (a1 < 0) = true := decide_eq_true (by omega)
        have HF := Aside0.mk (show mayB a0 a1 a2 a3 a4 s = false by rw [HM3.out]; simp; omega)
        (try clear k1); (try clear k2); (try clear k3); (try clear k4)
        go_wp2_with (first | (go_at_call 22; (with_reducible refine (text_c _ _).mono ?_); rintro e w3 ⟨rfl, hb2⟩; (try rw [T3.out]); (try rw [T4.out]); have BK2 := Aside0.mk (blk_below BK.out hb2); have HB2 := Aside0.mk (below_step HB.out hb2); clear hb2 HB BK; have HB := HB2; have BK := BK2; clear HB2 BK2; have y0 := (blk_cell BK.out 0).trans rfl; have y1 := (blk_cell BK.out 1).trans rfl; have y2 := (blk_cell BK.out 2).trans rfl; have y3 := (blk_cell BK.out 3).trans rfl; have y4 := (blk_cell BK.out 4).trans rfl; have y5 := (blk_cell BK.out 5).trans rfl; skip))
        go_ret
        exact ⟨by rw [HF.out]; rfl, HB.out⟩
      by_cases k2 : a1 > 255
      · skip
        have e0 : decide (a1 < 0) = false := decide_eq_false (by omega)
        have e1 : decide (a1 > 255) = true := decide_eq_true (by omega)
        have HF := Aside0.mk (show mayB a0 a1 a2 a3 a4 s = false by rw [HM3.out]; simp; omega)
        (try clear k1); (try clear k2); (try clear k3); (try clear k4)
        go_wp2_with (first | (go_at_call 22; (with_reducible refine (text_c _ _).mono ?_); rintro e w3 ⟨rfl, hb2⟩; (try rw [T3.out]); (try rw [T4.out]); have BK2 := Aside0.mk (blk_below BK.out hb2); have HB2 := Aside0.mk (below_step HB.out hb2); clear hb2 HB BK; have HB := HB2; have BK := BK2; clear HB2 BK2; have y0 := (blk_cell BK.out 0).trans rfl; have y1 := (blk_cell BK.out 1).trans rfl; have y2 := (blk_cell BK.out 2).trans rfl; have y3 := (blk_cell BK.out 3).trans rfl; have y4 := (blk_cell BK.out 4).trans rfl; have y5 := (blk_cell BK.out 5).trans rfl; skip))
        go_ret
        exact ⟨by rw [HF.out]; rfl, HB.out⟩
      by_cases k3 : a2 < 1
      · skip
        have e0 : decide (a1 < 0) = false := decide_eq_false (by omega)
        have e1 : decide (a1 > 255) = false := decide_eq_false (by omega)
        have e2 : decide (a2 < 1) = true := decide_eq_true (by omega)
        have HF := Aside0.mk (show mayB a0 a1 a2 a3 a4 s = false by rw [HM3.out]; simp; omega)
        (try clear k1); (try clear k2); (try clear k3); (try clear k4)
        go_wp2_with (first | (go_at_call 22; (with_reducible refine (text_c _ _).mono ?_); rintro e w3 ⟨rfl, hb2⟩; (try rw [T3.out]); (try rw [T4.out]); have BK2 := Aside0.mk (blk_below BK.out hb2); have HB2 := Aside0.mk (below_step HB.out hb2); clear hb2 HB BK; have HB := HB2; have BK := BK2; clear HB2 BK2; have y0 := (blk_cell BK.out 0).trans rfl; have y1 := (blk_cell BK.out 1).trans rfl; have y2 := (blk_cell BK.out 2).trans rfl; have y3 := (blk_cell BK.out 3).trans rfl; have y4 := (blk_cell BK.out 4).trans rfl; have y5 := (blk_cell BK.out 5).trans rfl; skip))
        go_ret
        exact ⟨by rw [HF.out]; rfl, HB.out⟩
      by_cases k4 : a2 > 3
      · skip
        have e0 : decide (a1 < 0) = false := decide_eq_false (by omega)
        have e1 : decide (a1 > 255) = false := decide_eq_false (by omega)
        have e2 : decide (a2 < 1) = false := decide_eq_false (by omega)
        have e3 : decide (a2 > 3) = true := decide_eq_true (by omega)
        have HF := Aside0.mk (show mayB a0 a1 a2 a3 a4 s = false by rw [HM3.out]; simp; omega)
        (try clear k1); (try clear k2); (try clear k3); (try clear k4)
        go_wp2_with (first | (go_at_call 22; (with_reducible refine (text_c _ _).mono ?_); rintro e w3 ⟨rfl, hb2⟩; (try rw [T3.out]); (try rw [T4.out]); have BK2 := Aside0.mk (blk_below BK.out hb2); have HB2 := Aside0.mk (below_step HB.out hb2); clear hb2 HB BK; have HB := HB2; have BK := BK2; clear HB2 BK2; have y0 := (blk_cell BK.out 0).trans rfl; have y1 := (blk_cell BK.out 1).trans rfl; have y2 := (blk_cell BK.out 2).trans rfl; have y3 := (blk_cell BK.out 3).trans rfl; have y4 := (blk_cell BK.out 4).trans rfl; have y5 := (blk_cell BK.out 5).trans rfl; skip))
        go_ret
        exact ⟨by rw [HF.out]; rfl, HB.out⟩
      have e0 : decide (a1 < 0) = false := decide_eq_false (by omega)
      have e1 : decide (a1 > 255) = false := decide_eq_false (by omega)
      have e2 : decide (a2 < 1) = false := decide_eq_false (by omega)
      have e3 : decide (a2 > 3) = false := decide_eq_false (by omega)
      have HF := Aside0.mk (show mayB a0 a1 a2 a3 a4 s = (r1 != 0) by rw [HM3.out, decide_eq_true (show 0 ≤ a1 by omega), decide_eq_true (show a1 ≤ 255 by omega), decide_eq_true (show 1 ≤ a2 by omega), decide_eq_true (show a2 ≤ 3 by omega)]; simp)
      clear k1 k2 k3 k4
      go_wp2_with (first | (go_at_call 22; (with_reducible refine (text_c _ _).mono ?_); rintro e w3 ⟨rfl, hb2⟩; (try rw [T3.out]); (try rw [T4.out]); have BK2 := Aside0.mk (blk_below BK.out hb2); have HB2 := Aside0.mk (below_step HB.out hb2); clear hb2 HB BK; have HB := HB2; have BK := BK2; clear HB2 BK2; have y0 := (blk_cell BK.out 0).trans rfl; have y1 := (blk_cell BK.out 1).trans rfl; have y2 := (blk_cell BK.out 2).trans rfl; have y3 := (blk_cell BK.out 3).trans rfl; have y4 := (blk_cell BK.out 4).trans rfl; have y5 := (blk_cell BK.out 5).trans rfl; skip) | (go_at_call 23; (with_reducible refine (keys_Look.calls a0 r1 r2 r3 r4 r5 _ HL0.out).mono ?_); rintro e w3 ⟨rfl, hb2⟩; have BK2 := Aside0.mk (blk_below BK.out hb2); have HB2 := Aside0.mk (below_step HB.out hb2); clear hb2 HB BK; have HB := HB2; have BK := BK2; clear HB2 BK2; have y0 := (blk_cell BK.out 0).trans rfl; have y1 := (blk_cell BK.out 1).trans rfl; have y2 := (blk_cell BK.out 2).trans rfl; have y3 := (blk_cell BK.out 3).trans rfl; have y4 := (blk_cell BK.out 4).trans rfl; have y5 := (blk_cell BK.out 5).trans rfl; skip))
      go_ret
      exact ⟨by rw [HF.out]; rfl, HB.out⟩
def mods_May.f (a0_0 : Int) (a0_1 : Int) (a0_2 : Int) (a0_3 : Int) (a0_4 : Int) (a0_5 : ByteArray) : Option (Bool) := if a0_5.size ≤ 1100000 then some (mayB a0_0 a0_1 a0_2 a0_3 a0_4 a0_5) else none
theorem mods_May.calls (a0_0 : Int) (a0_1 : Int) (a0_2 : Int) (a0_3 : Int) (a0_4 : Int) (a0_5 : ByteArray) (r : Bool) (w : World) (h : mods_May.f a0_0 a0_1 a0_2 a0_3 a0_4 a0_5 = some r) :
    Calls Try.prog 10 #[.agg #[.int .i64 a0_0, .int .i64 a0_1, .int .i64 a0_2, .int .i64 a0_3, .int .i64 a0_4, .string a0_5]] w fun e w' => e = .returned (.bool r) ∧ Below w.heap.size w w' := by
  unfold mods_May.f at h
  by_cases hs : a0_5.size ≤ 1100000
  · rw [if_pos hs] at h
    obtain rfl := Option.some.inj h
    exact may_t a0_0 a0_1 a0_2 a0_3 a0_4 a0_5 hs w
  · rw [if_neg hs] at h
    cases h
end Go.Proofs.Ytcjokajnlpcdiaa.H
