import Derived.Test.YtehnppklfaoikaaHQu4
import Derived.Test.YtehnppklfaoikaaFewPlain
/- QueueRoom. -/
namespace Go.Proofs.Ytehnppklfaoikaa.L
open Go Go.RowKit Go.Proofs.Ytehnppklfaoikaa.H Go.Proofs.Ytehnppklfaoikaa.F Go.Proofs.YtehnppklfaoikaaW.PrintWords Go.Proofs.YtehnppklfaoikaaW.PrintLast Go.Proofs.YtehnppklfaoikaaW.PrintMore
set_option linter.unusedVariables false
set_option linter.unusedSimpArgs false
set_option maxHeartbeats 4000000
set_option maxRecDepth 100000

theorem below_drawn {w W W2 : World} (h : Below w.heap.size w W) (hd : Drawn0 W W2) : Below w.heap.size w W2 := by
  obtain ⟨m, rfl⟩ := hd
  exact pw_below_drewN h m

theorem cut_two (x : List Int) (K : Nat) : ∃ tl dl, x.take K = tl ∧ x.drop K = dl ∧ tl.length + dl.length = x.length := ⟨_, _, rfl, rfl, by rw [← List.length_append, List.take_append_drop]⟩
theorem sum_is {a b t d : Nat} (ha : (a : Int) ≤ 65536) (hb : (b : Int) ≤ 65536) (h : t + d = a + b) : wrap64 (wrap64 ((a : Int) + b) - t) = (d : Int) := by
  rw [IntWalk.wrap64_in ((a : Int) + b) (by omega), IntWalk.wrap64_in _ (by omega)]
  omega
theorem sum_less {a t d : Nat} (ha : (a : Int) ≤ 65536) (h : t + d = a) : wrap64 ((a : Int) - t) = (d : Int) := by
  rw [IntWalk.wrap64_in _ (by omega)]
  omega
theorem lt_of_cell {w : World} {p : Addr} {v : Value} (h : w.cell? p = some v) : p.block < w.heap.size := by
  rcases Nat.lt_or_ge p.block w.heap.size with h1 | h1
  · exact h1
  · exfalso
    unfold World.cell? at h
    rw [Array.getElem?_eq_none h1] at h
    simp at h

theorem Room_main (A0 : Option Addr) (c0 : Nat) (l : List (S32)) (A1 : Option Addr) (c1 : Nat) (l1 : List Int) (k : Nat) (w : World) (hr0 : Kd.C k32 w A0 l.length l) (hc0 : l.length ≤ c0) (hr1 : Kd.C (Kd.int .u8) w A1 l1.length l1) (hc1 : l1.length ≤ c1)
    (hf : clavierref04_Few.f k l = some true) (hl : l.length ≤ 30) (hi : ∀ t : Nat, t < l.length → ((rd_T32 l (t : Int)).f0).length ≤ 200) (h1 : l1.length ≤ 300) :
    Calls Try.prog 8 #[.slice A0 l.length c0, .slice A1 l1.length c1] w fun e w' => e = .returned (.bool true) ∧ Below w.heap.size w w' := by
  have e0 : decide ((300 : Int) < l1.length) = false := decide_eq_false (by omega)
  have HR0 := Aside0.mk hr0
  have HC0 := Aside0.mk hc0
  have HR1 := Aside0.mk hr1
  have HC1 := Aside0.mk hc1
  have HF := Aside0.mk hf
  have HLL := Aside0.mk hl
  have HI0 := Aside0.mk hi
  have HL1 := Aside0.mk h1
  clear hr0 hc0 hr1 hc1 hf hl hi h1
  go_enter Try.func8, Try.ntmps8
  go_wp2_with (first | (go_at_call 9; refine (awake_calls w).mono ?_; rintro e W1 ⟨rfl, hb⟩; have HB1 := Aside0.mk hb; clear hb) | (go_at_call 10; have hz_ := HB1; clear hz_; refine (clavierref04_Few.calls k A0 c0 l true W1 (Kd.C_below HR0.out HB1.out) HC0.out HF.out).mono ?_; rintro e W2 ⟨rfl, hd⟩; have HB2 := Aside0.mk (below_drawn HB1.out hd); clear hd HB1) | (go_at_call 11; have hz_ := HB2; clear hz_; refine (New_some 200 W2 (fun k => w.heap.size ≤ k) (by decide)).mono ?_; rintro e W4 ⟨q, rfl, hq, hb⟩; have HQ4 := Aside0.mk (hq.lower (below_size HB2.out)); have HB4 := Aside0.mk (below_step HB2.out hb); clear hq hb HB2))
  go_loopg [7, 8] (l.length + 1) (fun kq v7 v8 W => ∃ (x8 : Int) (bs : List Int) (room dr : Int), v7 = .int .i64 (bs.length : Int) ∧ v8 = .int .i64 x8 ∧ Aside0 (0 ≤ x8 ∧ x8 ≤ l.length ∧ l.length - x8 < kq) ∧ Aside0 (Qu W w.heap.size q (fun k => w.heap.size ≤ k) ⟨bs, room, dr⟩) ∧ Aside0 (Below w.heap.size w W) ∧ Aside0 (room = 200 ∧ bs.length ≤ 200 ∧ 0 ≤ dr ∧ dr ≤ x8 ∧ x8 ≤ 30))
  case atStart => exact ⟨0, [], 200, 0, rfl, rfl, ⟨by omega⟩, HQ4, HB4, ⟨by decide⟩⟩
  case round =>
    obtain ⟨x8, bs, room, dr, rfl, rfl, HN, HQr, HBr, HX⟩ := hrel
    cases gk with
    | zero => exact absurd HN.out (by omega)
    | succ k1 =>
      by_cases hx : x8 < (l.length : Int)
      · have c1b : decide (x8 < (l.length : Int)) = true := decide_eq_true hx
        have HX8 := Aside0.mk hx
        obtain ⟨ad, Ai, ci, eA, hx0, hx1, hci, hri⟩ := at_T32 HR0.out x8 HN.out.1 hx
        cases eA
        have hlt := lt_of_cell hx0
        obtain ⟨it, hit⟩ : ∃ it, (rd_T32 l x8).f0 = it := ⟨_, rfl⟩
        obtain ⟨ni, hni⟩ : ∃ ni, (rd_T32 l x8).f1 = ni := ⟨_, rfl⟩
        have HIT := Aside0.mk (show it.length ≤ 200 by
          have h_ := HI0.out x8.toNat (by have := HN.out; omega)
          rwa [Int.toNat_of_nonneg HN.out.1, hit] at h_)
        rw [hit] at hx0 hci hri
        rw [hni] at hx1
        have HCi := Aside0.mk hci
        have HI := Aside0.mk hri
        clear hit hni hci hri
        have p101 := eq_true HN.out.1
        have q101 := eq_true hx
        clear hx
        have hy0 := (HBr.out.cell hlt).trans hx0
        have hy1 := (HBr.out.cell (p := ⟨_, _, none⟩) hlt).trans hx1
        by_cases fit : (bs.length : Int) + it.length ≤ room
        · have HFT := Aside0.mk fit
          clear fit
          go_wp2_with (first | (go_at_call 13; have hz_ := HBr; clear hz_; refine (Push_ok w wr q _ ⟨bs, room, dr⟩ Ai it ci HBr.out HQr.out (read_old HI.out HBr.out HQr.out.1 (fun _ h => h)) HCi.out (HFT.out) (by have := HX.out; have := HIT.out; show bs.length + it.length < 4294967296; omega)).mono ?_; rintro e W5 ⟨rfl, hq, hb, hk⟩; have HQ5 := Aside0.mk (Qu.mono (P' := fun k => w.heap.size ≤ k) hq.bound (fun k hk => hk.2.1)); have HB5 := Aside0.mk hb; clear hq hb hk HQr HBr; have hy0 := (HB5.out.cell hlt).trans hx0; have hy1 := (HB5.out.cell (p := ⟨_, _, none⟩) hlt).trans hx1) | (go_at_call 15; have hz_ := HB5; clear hz_; refine (Drain_calls w W5 q _ ⟨bs ++ it, room, dr⟩ ni HB5.out HQ5.out (by have := HX.out; have := HIT.out; simp only [List.length_append]; omega)).mono ?_; rintro e W6 ⟨v6, rfl, ho, hq, hb, hk⟩; dsimp only at ho hq; obtain ⟨tl, dl, ht_, hd_, hs_⟩ := cut_two (bs ++ it) (min (max ni 0) (((bs ++ it).length : Nat) : Int)).toNat; rw [ht_] at ho; rw [hd_] at hq; have HS := Aside0.mk hs_; clear ht_ hd_ hs_; obtain ⟨A9, c9, e9⟩ := Kd.R_slice ho; subst e9; have HQ6 := Aside0.mk hq; have HB6 := Aside0.mk hb; clear ho hq hb hk HQ5 HB5))
          go_roundg k1
          case measure => omega
          case rel => exact ⟨x8 + 1, dl, room, dr, by rw [sum_is (by have := HX.out; omega) (by have := HIT.out; omega) (by have := HS.out; rw [List.length_append] at this; exact this)], by rw [IntWalk.wrap64_in _ (by have := HN.out; have := HX8.out; have := HLL.out; omega)], ⟨by have := HN.out; have := HX8.out; omega⟩, HQ6, HB6, ⟨by have hs_ := HS.out; rw [List.length_append] at hs_; have := HX.out; have := HFT.out; have := HX8.out; have := HLL.out; omega⟩⟩
        · have HFT := Aside0.mk (Int.not_le.1 fit)
          clear fit
          go_wp2_with (first | (go_at_call 13; have hz_ := HBr; clear hz_; refine (Push_big w wr q _ ⟨bs, room, dr⟩ Ai it.length ci HBr.out HQr.out (HFT.out) (by have := HX.out; have := HIT.out; show bs.length + it.length < 4294967296; omega)).mono ?_; rintro e W5 ⟨rfl, hq, hb, hk⟩; have HQ5 := Aside0.mk hq; have HB5 := Aside0.mk hb; clear hq hb hk HQr HBr; have hy0 := (HB5.out.cell hlt).trans hx0; have hy1 := (HB5.out.cell (p := ⟨_, _, none⟩) hlt).trans hx1) | (go_at_call 15; have hz_ := HB5; clear hz_; refine (Drain_calls w W5 q _ ⟨bs, room, wrap64 (dr + 1)⟩ ni HB5.out HQ5.out (by have := HX.out; have := HIT.out; simp only [List.length_append]; omega)).mono ?_; rintro e W6 ⟨v6, rfl, ho, hq, hb, hk⟩; dsimp only at ho hq; obtain ⟨tl, dl, ht_, hd_, hs_⟩ := cut_two (bs) (min (max ni 0) (((bs).length : Nat) : Int)).toNat; rw [ht_] at ho; rw [hd_] at hq; have HS := Aside0.mk hs_; clear ht_ hd_ hs_; obtain ⟨A9, c9, e9⟩ := Kd.R_slice ho; subst e9; have HQ6 := Aside0.mk hq; have HB6 := Aside0.mk hb; clear ho hq hb hk HQ5 HB5))
          go_roundg k1
          case measure => omega
          case rel => exact ⟨x8 + 1, dl, room, wrap64 (dr + 1), by rw [sum_less (by have := HX.out; omega) HS.out], by rw [IntWalk.wrap64_in _ (by have := HN.out; have := HX8.out; have := HLL.out; omega)], ⟨by have := HN.out; have := HX8.out; omega⟩, HQ6, HB6, ⟨by have := HX.out; have := HS.out; have := HX8.out; have := HLL.out; rw [IntWalk.wrap64_in _ (by omega)]; omega⟩⟩
      · have c1b : decide (x8 < (l.length : Int)) = false := decide_eq_false hx
        clear hx
        by_cases fit : bs.length + l1.length ≤ 200
        · have HFit := Aside0.mk fit
          have e5 : decide ((l1.length : Int) ≤ wrap64 (200 - (bs.length : Int))) = true := decide_eq_true (by rw [IntWalk.wrap64_in _ (by have := HX.out; omega)]; omega)
          have e6 : (dr == wrap64 (dr + 1)) = false := beq_eq_false_iff_ne.2 (by rw [IntWalk.wrap64_in _ (by have := HX.out; omega)]; omega)
          clear fit
          go_wp2_with (first | (go_at_call 18; have hz_ := HBr; clear hz_; refine (Dropped_calls wr _ q _ ⟨bs, room, dr⟩ HQr.out (by have := HX.out; have := HLL.out; show _ ≤ dr ∧ dr ≤ _; omega)).mono ?_; rintro e W5 ⟨rfl, hb⟩; have HQ5 := Aside0.mk (HQr.out.below hb); have HB5 := Aside0.mk (below_step HBr.out hb); clear hb HQr HBr) | (go_at_call 17; have hz_ := HB5; clear hz_; refine (Len_calls W5 _ q _ ⟨bs, room, dr⟩ HQ5.out).mono ?_; rintro e W6 ⟨rfl, hb⟩; have HQ6 := Aside0.mk (HQ5.out.below hb); have HB6 := Aside0.mk (below_step HB5.out hb); clear hb HQ5 HB5) | (go_at_call 13; have hz_ := HB6; clear hz_; refine (Push_ok w W6 q _ ⟨bs, room, dr⟩ A1 l1 c1 HB6.out HQ6.out (read_old HR1.out HB6.out HQ6.out.1 (fun _ h => h)) HC1.out (by have := HX.out; have := HFit.out; show (bs.length : Int) + l1.length ≤ room; omega) (by have := HX.out; have := HFit.out; show bs.length + l1.length < 4294967296; omega)).mono ?_; rintro e W7 ⟨rfl, hq, hb, hk⟩; have HQ7 := Aside0.mk hq; have HB7 := Aside0.mk hb; clear hq hb hk HQ6 HB6) | (go_at_call 18; have hz_ := HB7; clear hz_; refine (Dropped_calls W7 _ q _ _ HQ7.out (by have := HX.out; have := HLL.out; show _ ≤ dr ∧ dr ≤ _; omega)).mono ?_; rintro e W8 ⟨rfl, hb⟩; have HB8 := Aside0.mk (below_step HB7.out hb); clear hb HQ7 HB7))
          go_ret
          exact ⟨rfl, HB8.out⟩
        · have HFit := Aside0.mk fit
          have e5 : decide ((l1.length : Int) ≤ wrap64 (200 - (bs.length : Int))) = false := decide_eq_false (by rw [IntWalk.wrap64_in _ (by have := HX.out; omega)]; omega)
          have e6 : (dr + 1 == wrap64 (dr + 1)) = true := beq_iff_eq.2 (by rw [IntWalk.wrap64_in _ (by have := HX.out; omega)])
          clear fit
          go_wp2_with (first | (go_at_call 18; have hz_ := HBr; clear hz_; refine (Dropped_calls wr _ q _ ⟨bs, room, dr⟩ HQr.out (by have := HX.out; have := HLL.out; show _ ≤ dr ∧ dr ≤ _; omega)).mono ?_; rintro e W5 ⟨rfl, hb⟩; have HQ5 := Aside0.mk (HQr.out.below hb); have HB5 := Aside0.mk (below_step HBr.out hb); clear hb HQr HBr) | (go_at_call 17; have hz_ := HB5; clear hz_; refine (Len_calls W5 _ q _ ⟨bs, room, dr⟩ HQ5.out).mono ?_; rintro e W6 ⟨rfl, hb⟩; have HQ6 := Aside0.mk (HQ5.out.below hb); have HB6 := Aside0.mk (below_step HB5.out hb); clear hb HQ5 HB5) | (go_at_call 13; have hz_ := HB6; clear hz_; refine (Push_big w W6 q _ ⟨bs, room, dr⟩ A1 l1.length c1 HB6.out HQ6.out (by have := HX.out; have := HFit.out; show room < (bs.length : Int) + l1.length; omega) (by have := HX.out; have := HL1.out; show bs.length + l1.length < 4294967296; omega)).mono ?_; rintro e W7 ⟨rfl, hq, hb, hk⟩; have HQ7 := Aside0.mk (hq.dr_ (dr + 1) (IntWalk.wrap64_in _ (by have := HX.out; have := HLL.out; show _ ≤ dr + 1 ∧ dr + 1 ≤ _; omega))); have HB7 := Aside0.mk hb; clear hq hb hk HQ6 HB6) | (go_at_call 18; have hz_ := HB7; clear hz_; refine (Dropped_calls W7 _ q _ _ HQ7.out (by have := HX.out; have := HLL.out; show _ ≤ dr + 1 ∧ dr + 1 ≤ _; omega)).mono ?_; rintro e W8 ⟨rfl, hb⟩; have HB8 := Aside0.mk (below_step HB7.out hb); clear hb HQ7 HB7))
          go_ret
          exact ⟨rfl, HB8.out⟩

theorem Room_off (A0 : Option Addr) (c0 : Nat) (l : List (S32)) (A1 : Option Addr) (n1 c1 : Nat) (k : Nat) (b : Bool) (w : World) (hr0 : Kd.C k32 w A0 l.length l) (hc0 : l.length ≤ c0) (hf : clavierref04_Few.f k l = some b) (h : b = false ∨ 300 < n1) :
    Calls Try.prog 8 #[.slice A0 l.length c0, .slice A1 n1 c1] w fun e w' => e = .returned (.bool true) ∧ Below w.heap.size w w' := by
  have HR0 := Aside0.mk hr0
  have HC0 := Aside0.mk hc0
  have HF := Aside0.mk hf
  clear hr0 hc0 hf
  cases b with
  | false =>
    go_enter Try.func8, Try.ntmps8
    go_wp2_with (first | (go_at_call 9; refine (awake_calls w).mono ?_; rintro e W1 ⟨rfl, hb⟩; have HB1 := Aside0.mk hb; clear hb) | (go_at_call 10; have hz_ := HB1; clear hz_; refine (clavierref04_Few.calls k A0 c0 l false W1 (Kd.C_below HR0.out HB1.out) HC0.out HF.out).mono ?_; rintro e W2 ⟨rfl, hd⟩; have HB2 := Aside0.mk (below_drawn HB1.out hd); clear hd HB1))
    go_ret
    exact ⟨rfl, HB2.out⟩
  | true =>
    have e0 : decide ((300 : Int) < n1) = true := decide_eq_true (by rcases h with h | h; cases h; omega)
    clear h
    go_enter Try.func8, Try.ntmps8
    go_wp2_with (first | (go_at_call 9; refine (awake_calls w).mono ?_; rintro e W1 ⟨rfl, hb⟩; have HB1 := Aside0.mk hb; clear hb) | (go_at_call 10; have hz_ := HB1; clear hz_; refine (clavierref04_Few.calls k A0 c0 l true W1 (Kd.C_below HR0.out HB1.out) HC0.out HF.out).mono ?_; rintro e W2 ⟨rfl, hd⟩; have HB2 := Aside0.mk (below_drawn HB1.out hd); clear hd HB1))
    go_ret
    exact ⟨rfl, HB2.out⟩

/-- The law answers true. -/
def clavierlaw04_QueueRoom.f (l0 : List (S32)) (l1 : List Int) : Option Bool := some true
theorem clavierlaw04_QueueRoom.calls (A0 : Option Addr) (c0 : Nat) (l0 : List (S32)) (A1 : Option Addr) (c1 : Nat) (l1 : List Int) (r : Bool) (w : World) (hr0 : Kd.C k32 w A0 l0.length l0) (hc0 : l0.length ≤ c0) (hr1 : Kd.C (Kd.int .u8) w A1 l1.length l1) (hc1 : l1.length ≤ c1) (h : clavierlaw04_QueueRoom.f l0 l1 = some r) :
    Calls Try.prog 8 #[.slice A0 l0.length c0, .slice A1 l1.length c1] w fun e w' => e = .returned (.bool r) ∧ Below w.heap.size w w' := by
  obtain rfl : true = r := Option.some.inj h
  obtain ⟨k, b, hf, hb⟩ := Few_says l0
  by_cases h1 : b = false ∨ 300 < l1.length
  · exact Room_off A0 c0 l0 A1 l1.length c1 k b w hr0 hc0 hf h1
  · have hbt : b = true := by cases b <;> simp_all
    subst hbt
    exact Room_main A0 c0 l0 A1 c1 l1 k w hr0 hc0 hr1 hc1 hf (hb rfl).1 (hb rfl).2 (by omega)

end Go.Proofs.Ytehnppklfaoikaa.L
