import Derived.Test.YtcjokajnlpcdiaaProg
import Derived.Test.YtcjokajnlpcdiaaWWords
import Derived.Lib.ConvBytes
import Derived.Test.YtcjokajnlpcdiaaUtfRef1
import Derived.Outline
import Derived.Maps.AppendAt
/- A string as bytes: the new row can be read. -/
namespace Go.Proofs.Ytcjokajnlpcdiaa.H
open Go Go.RowKit Go.Lib Go.Proofs.YtcjokajnlpcdiaaW.PrintWords
set_option linter.unusedVariables false
/-- A string's bytes as numbers. -/
def numsS (s : ByteArray) : List Int := s.data.toList.map (fun b => (b.toNat : Int))
theorem numsS_len (s : ByteArray) : (numsS s).length = s.size := by unfold numsS; rw [List.length_map, Array.length_toList]; rfl
theorem numsS_bytes (s : ByteArray) : ∀ z ∈ numsS s, 0 ≤ z ∧ z ≤ 255 := by
  intro z hz
  obtain ⟨b, _, rfl⟩ := List.mem_map.1 hz
  have := b.toNat_lt
  omega
theorem cap_le (w : World) (n e : Nat) : n ≤ grownCap w n 0 e := grownCap_ge w n 0 e
theorem conv_c (w : World) (s : ByteArray) (hs : s.size ≤ 2000000) : Kd.C (Kd.int .u8) (bytesWorld w 5 s) (some ⟨w.heap.size, 0, none⟩) (numsS s).length (numsS s) := by
  refine ⟨rfl, by rw [numsS_len]; omega, fun _ => ⟨_, rfl, fun j p hp => ⟨[.int .u8 p], rfl, rfl, fun i u hu => ?_⟩⟩⟩
  have hj := (List.getElem?_eq_some_iff.1 hp).1
  rw [numsS_len] at hj
  have e : (⟨w.heap.size, 0, none⟩ : Addr).add (j * (Kd.int .u8).sz + i) = ⟨w.heap.size, j, none⟩ := by
    have : i = 0 := by
      have := (List.getElem?_eq_some_iff.1 hu).1
      simp at this
      omega
    subst this
    show (⟨w.heap.size, 0, none⟩ : Addr).add (j * 1 + 0) = _
    simp [Addr.add]
    try omega
  have : i = 0 := by
    have := (List.getElem?_eq_some_iff.1 hu).1
    simp at this
    omega
  subst this
  cases hu
  rw [e, bytesWorld_cell w _ s j hj]
  congr 2
  have h2 := hp
  unfold numsS at h2
  rw [List.getElem?_map] at h2
  rw [List.getD_eq_getElem?_getD]
  cases h3 : s.data.toList[j]? with
  | none => rw [h3] at h2; cases h2
  | some b => rw [h3] at h2; cases h2; rfl
theorem conv_below (w : World) (s : ByteArray) : Below w.heap.size w (bytesWorld w 5 s) := by
  refine ⟨?_, ?_, ?_, by rw [bytesWorld_size]; omega, fun k hk => bytesWorld_at_old w _ s k hk⟩
  all_goals (unfold bytesWorld World.freeze; split <;> rfl)
end Go.Proofs.Ytcjokajnlpcdiaa.H

/- clavierref10.clean -/
namespace Go.Proofs.Ytcjokajnlpcdiaa.H
open Go Go.RowKit Go.Lib Go.Proofs.YtcjokajnlpcdiaaW.PrintWords Go.Proofs.YtcjokajnlpcdiaaW.PrintLast Go.Proofs.YtcjokajnlpcdiaaW.PrintMore Go.Proofs.Ytcjokajnlpcdiaa.F Go.Proofs.Ytcjokajnlpcdiaa.Pure
set_option linter.unusedVariables false
set_option linter.unusedSimpArgs false
/-- A character that a text may have. -/
def okR (r : Int) : Bool := decide (32 ≤ r) && (decide (r < 127) || decide (159 < r))
def numC' : Value → Int
  | .int _ n => n
  | _ => 0
def cleanB (l : List Int) (is : Bool) : Bool := is && (decide (l.length ≤ 8) && l.all okR)
theorem all_at {l : List Int} {j : Nat} (hj : j < l.length) (h : (l.take j).all okR = true) (hr : okR (rd l j) = true) : (l.take (j + 1)).all okR = true := by
  have e : rd l j = l[j] := by
    show l.getD _ 0 = _
    rw [show (j : Int).toNat = j by omega, List.getD_eq_getElem?_getD, List.getElem?_eq_getElem hj]; rfl
  rw [List.take_succ_eq_append_getElem hj, List.all_append, h, ← e]
  simp [hr]
theorem all_not {l : List Int} {j : Nat} (hj : j < l.length) (hr : okR (rd l j) = false) : l.all okR = false := by
  have e : rd l j = l[j] := by
    show l.getD _ 0 = _
    rw [show (j : Int).toNat = j by omega, List.getD_eq_getElem?_getD, List.getElem?_eq_getElem hj]; rfl
  rw [List.all_eq_false]
  exact ⟨l[j], List.getElem_mem _, by rw [← e, hr]; decide⟩
theorem conv_run (w : World) (s : ByteArray) : (convert 9 39 (.string s)).run Try.prog w = .ok (.slice (some ⟨w.heap.size, 0, none⟩) (numsS s).length (grownCap w s.size 0 5)) (bytesWorld w 5 s) := by
  rw [numsS_len]
  exact Go.Lib.run_convert_string_bytes w _ _ _ s Try.underlying9 Try.underlying39 Try.underlying5
set_option maxRecDepth 100000 in
set_option maxHeartbeats 4000000 in
theorem clean_t (s : ByteArray) (hs : s.size ≤ 1100000) (w : World) : Calls Try.prog 27 #[.string s] w fun e w' => e = .returned (.bool (cleanB (allC (numsS s)).1 (allC (numsS s)).2)) ∧ Below w.heap.size w w' := by
  have kc := conv_run
  obtain ⟨l, is, hA⟩ : ∃ l is, allC (numsS s) = (l, is) := ⟨_, _, rfl⟩
  have hR := refall_eq (b := numsS s) (numsS_bytes s) (by rw [numsS_len]; omega) (s.size + 12) (by rw [numsS_len]; omega)
  rw [hA] at hR ⊢
  have HR := Aside0.mk hR
  have HLL := Aside0.mk (show l.length ≤ 1100000 by have := all_len (numsS s); rw [hA, numsS_len] at this; dsimp only at this; omega)
  clear hR hA
  have HS := Aside0.mk hs
  have HB := Aside0.mk (conv_below w s)
  have HCC := Aside0.mk (conv_c w s (by omega))
  have HCP := Aside0.mk (show (numsS s).length ≤ grownCap w s.size 0 5 by rw [numsS_len]; exact cap_le _ _ _)
  cases is
  · go_enter Try.func27, Try.ntmps27
    go_wp2_with (go_at_call 36; (with_reducible refine (clavierref02_All.calls (s.size + 12) _ _ (numsS s) l _ _ HCC.out HCP.out HR.out).mono ?_); rintro e w2 ⟨v2, rfl, hv2, hb2⟩; obtain ⟨A3, c3, rfl⟩ := Kd.R_slice hv2; have HO := Aside0.mk hv2; have HB2 := Aside0.mk (below_step HB.out hb2); clear hv2 hb2 HB; have HB := HB2; clear HB2)
    go_ret
    exact ⟨rfl, HB.out⟩
  by_cases hl : l.length ≤ 8
  · have d0 : decide ((l.length : Int) > 8) = false := decide_eq_false (by omega)
    have HL8 := Aside0.mk hl
    clear hl
    go_enter Try.func27, Try.ntmps27
    go_wp2_with (go_at_call 36; (with_reducible refine (clavierref02_All.calls (s.size + 12) _ _ (numsS s) l _ _ HCC.out HCP.out HR.out).mono ?_); rintro e w2 ⟨v2, rfl, hv2, hb2⟩; obtain ⟨A3, c3, rfl⟩ := Kd.R_slice hv2; have HO := Aside0.mk hv2; have HB2 := Aside0.mk (below_step HB.out hb2); clear hv2 hb2 HB; have HB := HB2; clear HB2)
    go_loopw [5] (fun v5 wr => ∃ (j : Nat), v5 = .int .i64 (j : Int) ∧ j ≤ l.length ∧ Aside0 ((l.take j).all okR = true) ∧ wr = w2) (fun v5 _ => (l.length - numC' v5).toNat)
    case atStart => exact ⟨0, rfl, Nat.zero_le _, ⟨rfl⟩, rfl⟩
    case round =>
      obtain ⟨j, rfl, hj, HT, rfl⟩ := hrel
      by_cases hlt : j < l.length
      · obtain ⟨ad, e1, hx⟩ := Kd.at_int (Kd.R_reads' HO.out).2.2 (j : Int) (by omega) (by omega)
        subst e1
        have hx' : wr.cell? (ad.add j) = some (.int .i64 (rd l j)) := by simpa using hx
        have hlL := HLL.out
        have qi : (j < l.length) = True := eq_true hlt
        obtain ⟨r, hr⟩ : ∃ r, rd l j = r := ⟨_, rfl⟩
        rw [hr] at hx hx'
        have HRR := Aside0.mk hr
        clear hr
        by_cases k1 : r < 32
        · have e1 : decide (r < 32) = true := decide_eq_true k1
          have HN := Aside0.mk (show l.all okR = false from all_not hlt (by rw [HRR.out]; simp [okR]; omega))
          clear k1
          go_wp2
          go_ret
          exact ⟨by unfold cleanB; rw [HN.out]; simp, HB.out⟩
        · have e1 : decide (r < 32) = false := decide_eq_false k1
          by_cases k2 : r ≥ 127
          · have e2 : decide (r ≥ 127) = true := decide_eq_true k2
            by_cases k3 : r ≤ 159
            · have e3 : decide (r ≤ 159) = true := decide_eq_true k3
              have HN := Aside0.mk (show l.all okR = false from all_not hlt (by rw [HRR.out]; simp [okR]; omega))
              clear k1 k2 k3
              go_wp2
              go_ret
              exact ⟨by unfold cleanB; rw [HN.out]; simp, HB.out⟩
            · have e3 : decide (r ≤ 159) = false := decide_eq_false k3
              have HN := Aside0.mk (all_at hlt HT.out (by rw [HRR.out]; simp [okR]; omega))
              clear k1 k2 k3
              go_wp2
              exact ⟨⟨j + 1, by push_cast; rfl, hlt, HN, trivial⟩, by show ((l.length : Int) - ((j : Int) + 1)).toNat < ((l.length : Int) - (j : Int)).toNat; omega⟩
          · have e2 : decide (r ≥ 127) = false := decide_eq_false k2
            have HN := Aside0.mk (all_at hlt HT.out (by rw [HRR.out]; simp [okR]; omega))
            clear k1 k2
            go_wp2
            exact ⟨⟨j + 1, by push_cast; rfl, hlt, HN, trivial⟩, by show ((l.length : Int) - ((j : Int) + 1)).toNat < ((l.length : Int) - (j : Int)).toNat; omega⟩
      · obtain rfl : j = l.length := by omega
        go_wp2
        go_ret
        have h8 := HL8.out
        have ht := HT.out
        rw [List.take_length] at ht
        exact ⟨by unfold cleanB; rw [decide_eq_true h8, ht]; rfl, HB.out⟩
  · have d0 : decide ((l.length : Int) > 8) = true := decide_eq_true (by omega)
    have HL8 := Aside0.mk hl
    clear hl
    go_enter Try.func27, Try.ntmps27
    go_wp2_with (go_at_call 36; (with_reducible refine (clavierref02_All.calls (s.size + 12) _ _ (numsS s) l _ _ HCC.out HCP.out HR.out).mono ?_); rintro e w2 ⟨v2, rfl, hv2, hb2⟩; obtain ⟨A3, c3, rfl⟩ := Kd.R_slice hv2; have HO := Aside0.mk hv2; have HB2 := Aside0.mk (below_step HB.out hb2); clear hv2 hb2 HB; have HB := HB2; clear HB2)
    go_ret
    have hl := HL8.out
    exact ⟨by unfold cleanB; rw [decide_eq_false hl]; rfl, HB.out⟩
def clavierref10_clean.f (a0 : ByteArray) : Option (Bool) := if a0.size ≤ 1100000 then some (cleanB (allC (numsS a0)).1 (allC (numsS a0)).2) else none
theorem clavierref10_clean.calls (a0 : ByteArray) (r : Bool) (w : World) (h : clavierref10_clean.f a0 = some r) :
    Calls Try.prog 27 #[.string a0] w fun e w' => e = .returned (.bool r) ∧ Below w.heap.size w w' := by
  unfold clavierref10_clean.f at h
  by_cases hs : a0.size ≤ 1100000
  · rw [if_pos hs] at h
    obtain rfl := Option.some.inj h
    exact clean_t a0 hs w
  · rw [if_neg hs] at h
    cases h
end Go.Proofs.Ytcjokajnlpcdiaa.H
