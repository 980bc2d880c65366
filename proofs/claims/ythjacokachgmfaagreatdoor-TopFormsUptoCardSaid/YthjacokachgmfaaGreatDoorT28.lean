import Derived.Test.YthjacokachgmfaaGreatDoorT04
import Derived.Test.YthjacokachgmfaaGreatDoorT17
import Derived.Test.YthjacokachgmfaaGreatDoorT27
set_option linter.unusedVariables false
set_option linter.unusedSimpArgs false
section
namespace Go.Proofs.YthjacokachgmfaaGreatDoor.H
open Go Go.RowKit YthjacokachgmfaaGreatDoorW.PrintWords YthjacokachgmfaaGreatDoorW.PrintLast YthjacokachgmfaaGreatDoorW.PrintMore
open YthjacokachgmfaaGreatDoor.R
set_option maxRecDepth 100000
def hasT (fl a:Int):Bool:=Go.bits .and .i64 (mx fl 0) a != 0
structure Ev where
  code:Int
  mods:Int
  type:Int
  shifted:Int
  base:Int
  text:ByteArray
  flags:Int
  kind:Int
theorem has_calls (a0 a1 a2 a3 a4:Int) (s:ByteArray) (fl kd a:Int) (w:World) :
    Calls Tryz.prog 76 #[.agg #[.int .i64 a0,.int .i64 a1,.int .i64 a2,.int .i64 a3,.int .i64 a4,.string s,.int .i64 fl,.int .i64 kd],.int .i64 a] w fun e w'=>e=.returned (.bool (hasT fl a))∧Below w.heap.size w w' :=
  kitty_event_has.calls a0 a1 a2 a3 a4 s fl kd a (hasT fl a) w rfl
theorem cells8 {w:World} {g:Nat} {t:TypeId} {a b c d e f i j:Value} (h:w.heap[g]?=some (.cells #[a,b,c,d,e,f,i,j] t (0,0))):w.cell? ⟨g,0,none⟩=some a∧w.cell? ⟨g,1,none⟩=some b∧w.cell? ⟨g,2,none⟩=some c∧w.cell? ⟨g,3,none⟩=some d∧w.cell? ⟨g,4,none⟩=some e∧w.cell? ⟨g,5,none⟩=some f∧w.cell? ⟨g,6,none⟩=some i∧w.cell? ⟨g,7,none⟩=some j :=
  ⟨(blk_cell h 0).trans rfl,(blk_cell h 1).trans rfl,(blk_cell h 2).trans rfl,(blk_cell h 3).trans rfl,(blk_cell h 4).trans rfl,(blk_cell h 5).trans rfl,(blk_cell h 6).trans rfl,(blk_cell h 7).trans rfl⟩
set_option maxHeartbeats 4000000 in
theorem sent1_calls (a0 a1 a2 a3 a4:Int) (s:ByteArray) (fl kd:Int) (g:Nat) (w:World) (hg:w.heap[g]?=some (.cells #[.int .i64 a0,.int .i64 a1,.int .i64 a2,.int .i64 a3,.int .i64 a4,.string s,.int .i64 fl,.int .i64 kd] 96 (0,0))) (h2:hasT fl 2=true) (h8:hasT fl 8=true) :
    Calls Tryz.prog 75 #[.pointer (some ⟨g,0,none⟩)] w fun e w'=>e=.returned (.bool false)∧Below w.heap.size w w':=by
  have BK:=Aside0.mk hg
  have HB:=Aside0.mk (Below.refl w.heap.size w)
  have hlg:=blk_lt hg
  obtain ⟨q0,q1,q2,q3,q4,q5,q6,q7⟩:=cells8 hg
  have HH2:Aside0 (∀ w:World,Calls Tryz.prog 76 #[.agg #[.int .i64 a0,.int .i64 a1,.int .i64 a2,.int .i64 a3,.int .i64 a4,.string s,.int .i64 fl,.int .i64 kd],.int .i64 2] w fun e w'=>e=.returned (.bool true)∧Below w.heap.size w w'):=⟨fun w=>by rw [← h2];exact has_calls a0 a1 a2 a3 a4 s fl kd 2 w⟩
  have HH8:Aside0 (∀ w:World,Calls Tryz.prog 76 #[.agg #[.int .i64 a0,.int .i64 a1,.int .i64 a2,.int .i64 a3,.int .i64 a4,.string s,.int .i64 fl,.int .i64 kd],.int .i64 8] w fun e w'=>e=.returned (.bool true)∧Below w.heap.size w w'):=⟨fun w=>by rw [← h8];exact has_calls a0 a1 a2 a3 a4 s fl kd 8 w⟩
  clear hg h2 h8
  go_enter Tryz.func75,Tryz.ntmps75
  go_wp2_with (first|(go_at_call 76;refine (HH2.out _).mono ?_;rintro e W1 ⟨rfl,hb⟩;have BK_:=Aside0.mk (blk_below BK.out hb);have HB_:=Aside0.mk (below_step HB.out hb);clear BK HB q0 q1 q2 q3 q4 q5 q6 q7 hlg;have BK:=BK_;have HB:=HB_;clear BK_ HB_ hb;have hlg:=blk_lt BK.out;obtain ⟨q0,q1,q2,q3,q4,q5,q6,q7⟩:=cells8 BK.out)|(go_at_call 76;refine (HH8.out _).mono ?_;rintro e W1 ⟨rfl,hb⟩;have BK_:=Aside0.mk (blk_below BK.out hb);have HB_:=Aside0.mk (below_step HB.out hb);clear BK HB q0 q1 q2 q3 q4 q5 q6 q7 hlg;have BK:=BK_;have HB:=HB_;clear BK_ HB_ hb;have hlg:=blk_lt BK.out;obtain ⟨q0,q1,q2,q3,q4,q5,q6,q7⟩:=cells8 BK.out))
  go_ret
  exact ⟨rfl,HB.out⟩
set_option maxHeartbeats 4000000 in
theorem sent_calls (a0 a1 a2 a3 a4:Int) (s:ByteArray) (fl kd:Int) (w:World) (h2:hasT fl 2=true) (h8:hasT fl 8=true) :
    Calls Tryz.prog 37 #[.agg #[.int .i64 a0,.int .i64 a1,.int .i64 a2,.int .i64 a3,.int .i64 a4,.string s,.int .i64 fl,.int .i64 kd]] w fun e w'=>e=.returned (.bool true)∧Below w.heap.size w w':=by
  have HH8:Aside0 (∀ w:World,Calls Tryz.prog 76 #[.agg #[.int .i64 a0,.int .i64 a1,.int .i64 a2,.int .i64 a3,.int .i64 a4,.string s,.int .i64 fl,.int .i64 kd],.int .i64 8] w fun e w'=>e=.returned (.bool true)∧Below w.heap.size w w'):=⟨fun w=>by rw [← h8];exact has_calls a0 a1 a2 a3 a4 s fl kd 8 w⟩
  have H2:=Aside0.mk h2
  have H8:=Aside0.mk h8
  clear h2 h8
  by_cases ht:a2=3
  · have e1:(a2 == 3)=true:=beq_iff_eq.2 ht
    clear ht
    by_cases hk:kd=7
    · have e2:(kd != 7)=false:=by simpa using hk
      clear hk
      go_enter Tryz.func37,Tryz.ntmps37
      go_wp2_with (first|(refine bx 1 #[.int .i64 a0,.int .i64 a1,.int .i64 a2,.int .i64 a3,.int .i64 a4,.string s,.int .i64 fl,.int .i64 kd] 96 (h:=?_);intro gb hg w5 hbox hb;have BK:=Aside0.mk hbox;have HB:=Aside0.mk hb;have hlg:=blk_lt hbox;obtain ⟨q0,q1,q2,q3,q4,q5,q6,q7⟩:=cells8 hbox;clear hb hbox hg)|(go_at_call 75;refine (sent1_calls a0 a1 a2 a3 a4 s fl kd _ _ BK.out H2.out H8.out).mono ?_;rintro e W1 ⟨rfl,hb⟩;have BK_:=Aside0.mk (blk_below BK.out hb);have HB_:=Aside0.mk (below_step HB.out hb);clear BK HB q0 q1 q2 q3 q4 q5 q6 q7 hlg;have BK:=BK_;have HB:=HB_;clear BK_ HB_ hb;have hlg:=blk_lt BK.out;obtain ⟨q0,q1,q2,q3,q4,q5,q6,q7⟩:=cells8 BK.out)|(go_at_call 76;refine (HH8.out _).mono ?_;rintro e W1 ⟨rfl,hb⟩;have BK_:=Aside0.mk (blk_below BK.out hb);have HB_:=Aside0.mk (below_step HB.out hb);clear BK HB q0 q1 q2 q3 q4 q5 q6 q7 hlg;have BK:=BK_;have HB:=HB_;clear BK_ HB_ hb;have hlg:=blk_lt BK.out;obtain ⟨q0,q1,q2,q3,q4,q5,q6,q7⟩:=cells8 BK.out))
      go_ret
      exact ⟨rfl,HB.out⟩
    · have e2:(kd != 7)=true:=by simpa using hk
      clear hk
      go_enter Tryz.func37,Tryz.ntmps37
      go_wp2_with (first|(refine bx 1 #[.int .i64 a0,.int .i64 a1,.int .i64 a2,.int .i64 a3,.int .i64 a4,.string s,.int .i64 fl,.int .i64 kd] 96 (h:=?_);intro gb hg w5 hbox hb;have BK:=Aside0.mk hbox;have HB:=Aside0.mk hb;have hlg:=blk_lt hbox;obtain ⟨q0,q1,q2,q3,q4,q5,q6,q7⟩:=cells8 hbox;clear hb hbox hg)|(go_at_call 75;refine (sent1_calls a0 a1 a2 a3 a4 s fl kd _ _ BK.out H2.out H8.out).mono ?_;rintro e W1 ⟨rfl,hb⟩;have BK_:=Aside0.mk (blk_below BK.out hb);have HB_:=Aside0.mk (below_step HB.out hb);clear BK HB q0 q1 q2 q3 q4 q5 q6 q7 hlg;have BK:=BK_;have HB:=HB_;clear BK_ HB_ hb;have hlg:=blk_lt BK.out;obtain ⟨q0,q1,q2,q3,q4,q5,q6,q7⟩:=cells8 BK.out)|(go_at_call 76;refine (HH8.out _).mono ?_;rintro e W1 ⟨rfl,hb⟩;have BK_:=Aside0.mk (blk_below BK.out hb);have HB_:=Aside0.mk (below_step HB.out hb);clear BK HB q0 q1 q2 q3 q4 q5 q6 q7 hlg;have BK:=BK_;have HB:=HB_;clear BK_ HB_ hb;have hlg:=blk_lt BK.out;obtain ⟨q0,q1,q2,q3,q4,q5,q6,q7⟩:=cells8 BK.out))
      go_ret
      exact ⟨rfl,HB.out⟩
  · have e1:(a2 == 3)=false:=beq_eq_false_iff_ne.2 ht
    clear ht
    by_cases hk:kd=7
    · have e2:(kd != 7)=false:=by simpa using hk
      clear hk
      go_enter Tryz.func37,Tryz.ntmps37
      go_wp2_with (first|(refine bx 1 #[.int .i64 a0,.int .i64 a1,.int .i64 a2,.int .i64 a3,.int .i64 a4,.string s,.int .i64 fl,.int .i64 kd] 96 (h:=?_);intro gb hg w5 hbox hb;have BK:=Aside0.mk hbox;have HB:=Aside0.mk hb;have hlg:=blk_lt hbox;obtain ⟨q0,q1,q2,q3,q4,q5,q6,q7⟩:=cells8 hbox;clear hb hbox hg)|(go_at_call 75;refine (sent1_calls a0 a1 a2 a3 a4 s fl kd _ _ BK.out H2.out H8.out).mono ?_;rintro e W1 ⟨rfl,hb⟩;have BK_:=Aside0.mk (blk_below BK.out hb);have HB_:=Aside0.mk (below_step HB.out hb);clear BK HB q0 q1 q2 q3 q4 q5 q6 q7 hlg;have BK:=BK_;have HB:=HB_;clear BK_ HB_ hb;have hlg:=blk_lt BK.out;obtain ⟨q0,q1,q2,q3,q4,q5,q6,q7⟩:=cells8 BK.out)|(go_at_call 76;refine (HH8.out _).mono ?_;rintro e W1 ⟨rfl,hb⟩;have BK_:=Aside0.mk (blk_below BK.out hb);have HB_:=Aside0.mk (below_step HB.out hb);clear BK HB q0 q1 q2 q3 q4 q5 q6 q7 hlg;have BK:=BK_;have HB:=HB_;clear BK_ HB_ hb;have hlg:=blk_lt BK.out;obtain ⟨q0,q1,q2,q3,q4,q5,q6,q7⟩:=cells8 BK.out))
      go_ret
      exact ⟨rfl,HB.out⟩
    · have e2:(kd != 7)=true:=by simpa using hk
      clear hk
      go_enter Tryz.func37,Tryz.ntmps37
      go_wp2_with (first|(refine bx 1 #[.int .i64 a0,.int .i64 a1,.int .i64 a2,.int .i64 a3,.int .i64 a4,.string s,.int .i64 fl,.int .i64 kd] 96 (h:=?_);intro gb hg w5 hbox hb;have BK:=Aside0.mk hbox;have HB:=Aside0.mk hb;have hlg:=blk_lt hbox;obtain ⟨q0,q1,q2,q3,q4,q5,q6,q7⟩:=cells8 hbox;clear hb hbox hg)|(go_at_call 75;refine (sent1_calls a0 a1 a2 a3 a4 s fl kd _ _ BK.out H2.out H8.out).mono ?_;rintro e W1 ⟨rfl,hb⟩;have BK_:=Aside0.mk (blk_below BK.out hb);have HB_:=Aside0.mk (below_step HB.out hb);clear BK HB q0 q1 q2 q3 q4 q5 q6 q7 hlg;have BK:=BK_;have HB:=HB_;clear BK_ HB_ hb;have hlg:=blk_lt BK.out;obtain ⟨q0,q1,q2,q3,q4,q5,q6,q7⟩:=cells8 BK.out)|(go_at_call 76;refine (HH8.out _).mono ?_;rintro e W1 ⟨rfl,hb⟩;have BK_:=Aside0.mk (blk_below BK.out hb);have HB_:=Aside0.mk (below_step HB.out hb);clear BK HB q0 q1 q2 q3 q4 q5 q6 q7 hlg;have BK:=BK_;have HB:=HB_;clear BK_ HB_ hb;have hlg:=blk_lt BK.out;obtain ⟨q0,q1,q2,q3,q4,q5,q6,q7⟩:=cells8 BK.out))
      go_ret
      exact ⟨rfl,HB.out⟩
set_option maxHeartbeats 4000000 in
theorem text_calls (a0 a1 a2 a3 a4:Int) (s:ByteArray) (fl kd:Int) (w:World) (h8:hasT fl 8=true) :
    Calls Tryz.prog 38 #[.agg #[.int .i64 a0,.int .i64 a1,.int .i64 a2,.int .i64 a3,.int .i64 a4,.string s,.int .i64 fl,.int .i64 kd]] w fun e w'=>e=.returned (.slice none 0 0)∧Below w.heap.size w w':=by
  have HH8:Aside0 (∀ w:World,Calls Tryz.prog 76 #[.agg #[.int .i64 a0,.int .i64 a1,.int .i64 a2,.int .i64 a3,.int .i64 a4,.string s,.int .i64 fl,.int .i64 kd],.int .i64 8] w fun e w'=>e=.returned (.bool true)∧Below w.heap.size w w'):=⟨fun w=>by rw [← h8];exact has_calls a0 a1 a2 a3 a4 s fl kd 8 w⟩
  clear h8
  go_enter Tryz.func38,Tryz.ntmps38
  go_wp2_with (first|(refine bx 1 #[.int .i64 a0,.int .i64 a1,.int .i64 a2,.int .i64 a3,.int .i64 a4,.string s,.int .i64 fl,.int .i64 kd] 96 (h:=?_);intro gb hg w5 hbox hb;have BK:=Aside0.mk hbox;have HB:=Aside0.mk hb;have hlg:=blk_lt hbox;obtain ⟨q0,q1,q2,q3,q4,q5,q6,q7⟩:=cells8 hbox;clear hb hbox hg)|(go_at_call 76;refine (HH8.out _).mono ?_;rintro e W1 ⟨rfl,hb⟩;have BK_:=Aside0.mk (blk_below BK.out hb);have HB_:=Aside0.mk (below_step HB.out hb);clear BK HB q0 q1 q2 q3 q4 q5 q6 q7 hlg;have BK:=BK_;have HB:=HB_;clear BK_ HB_ hb;have hlg:=blk_lt BK.out;obtain ⟨q0,q1,q2,q3,q4,q5,q6,q7⟩:=cells8 BK.out))
  go_ret
  exact ⟨rfl,HB.out⟩
end Go.Proofs.YthjacokachgmfaaGreatDoor.H
end
section
namespace Go.Proofs.YthjacokachgmfaaGreatDoor.H
open Go Go.RowKit YthjacokachgmfaaGreatDoorW.PrintWords YthjacokachgmfaaGreatDoorW.PrintLast YthjacokachgmfaaGreatDoorW.PrintMore
open YthjacokachgmfaaGreatDoor.R
set_option maxRecDepth 100000
def textsT (ty:Int) (s:ByteArray) (fl:Int):List Int:=if hasT fl 16=false∨ty=3∨s.size=0 then [-1] else (allC (numsS s)).1
theorem own_one (W0 W:World) (n:Int) (h:W0.heap.size≤W.heap.size):Kd.R (Kd.int .i64) 3 (W.alloc (.cells #[.int .i64 n] 3 (0,0))) W0.heap.size (fun _=>True) (.slice (some ⟨W.heap.size,0,none⟩) 1 1) [n] :=
  Kd.R_of_own (enc:=Value.int .i64) (h1:=fun _=>rfl) (own_lit W W0.heap.size 3 .i64 [n] h (by simp)) (fun _ _=>trivial)
theorem rlow {W:World} {b0 b1:Nat} {v:Value} {l:List Int} (h:Kd.R (Kd.int .i64) 3 W b1 (fun _=>True) v l) (hs:b0≤b1):Kd.R (Kd.int .i64) 3 W b0 (fun _=>True) v l :=
  Kd.R_raise (b:=b1) (b':=b0) (fun _ _ _ _ h=>by exact h) h (fun k hk=>Nat.le_trans hs (Kd.R_base h k hk))
set_option maxHeartbeats 4000000 in
theorem texts_calls (a0 a1 a2 a3 a4:Int) (s:ByteArray) (hs:s.size≤1100000) (fl kd:Int) (w:World) :
    Calls Tryz.prog 43 #[.agg #[.int .i64 a0,.int .i64 a1,.int .i64 a2,.int .i64 a3,.int .i64 a4,.string s,.int .i64 fl,.int .i64 kd]] w fun e w'=>∃ v,e=.returned v∧Kd.R (Kd.int .i64) 3 w' w.heap.size (fun _=>True) v (textsT a2 s fl)∧Below w.heap.size w w':=by
  have HS:=Aside0.mk hs
  have HH:Aside0 (∀ w:World,Calls Tryz.prog 76 #[.agg #[.int .i64 a0,.int .i64 a1,.int .i64 a2,.int .i64 a3,.int .i64 a4,.string s,.int .i64 fl,.int .i64 kd],.int .i64 16] w fun e w'=>e=.returned (.bool (hasT fl 16))∧Below w.heap.size w w'):=⟨fun w=>has_calls a0 a1 a2 a3 a4 s fl kd 16 w⟩
  clear hs
  cases h16:hasT fl 16 with
  | false =>
    rw [h16] at HH
    have HT:=Aside0.mk (show textsT a2 s fl=[-1] by unfold textsT;rw [if_pos (Or.inl h16)])
    clear h16
    go_enter Tryz.func43,Tryz.ntmps43
    go_wp2_with (first|(refine bx 1 #[.int .i64 a0,.int .i64 a1,.int .i64 a2,.int .i64 a3,.int .i64 a4,.string s,.int .i64 fl,.int .i64 kd] 96 (h:=?_);intro gb hg w5 hbox hb;have BK:=Aside0.mk hbox;have HB:=Aside0.mk hb;have hlg:=blk_lt hbox;obtain ⟨q0,q1,q2,q3,q4,q5,q6,q7⟩:=cells8 hbox;clear hb hbox hg)|(go_at_call 76;refine (HH.out _).mono ?_;rintro e W1 ⟨rfl,hb⟩;have BK_:=Aside0.mk (blk_below BK.out hb);have HB_:=Aside0.mk (below_step HB.out hb);clear BK HB q0 q1 q2 q3 q4 q5 q6 q7 hlg;have BK:=BK_;have HB:=HB_;clear BK_ HB_ hb;have hlg:=blk_lt BK.out;obtain ⟨q0,q1,q2,q3,q4,q5,q6,q7⟩:=cells8 BK.out))
    go_ret
    refine ⟨_,rfl,?_,below_alloc HB.out _⟩
    rw [HT.out]
    exact own_one w W1 (-1) (below_size HB.out)
  | true =>
    rw [h16] at HH
    by_cases ht:a2=3
    · have e1:(a2 == 3)=true:=beq_iff_eq.2 ht
      have HT:=Aside0.mk (show textsT a2 s fl=[-1] by unfold textsT;rw [if_pos (Or.inr (Or.inl ht))])
      clear h16 ht
      go_enter Tryz.func43,Tryz.ntmps43
      go_wp2_with (first|(refine bx 1 #[.int .i64 a0,.int .i64 a1,.int .i64 a2,.int .i64 a3,.int .i64 a4,.string s,.int .i64 fl,.int .i64 kd] 96 (h:=?_);intro gb hg w5 hbox hb;have BK:=Aside0.mk hbox;have HB:=Aside0.mk hb;have hlg:=blk_lt hbox;obtain ⟨q0,q1,q2,q3,q4,q5,q6,q7⟩:=cells8 hbox;clear hb hbox hg)|(go_at_call 76;refine (HH.out _).mono ?_;rintro e W1 ⟨rfl,hb⟩;have BK_:=Aside0.mk (blk_below BK.out hb);have HB_:=Aside0.mk (below_step HB.out hb);clear BK HB q0 q1 q2 q3 q4 q5 q6 q7 hlg;have BK:=BK_;have HB:=HB_;clear BK_ HB_ hb;have hlg:=blk_lt BK.out;obtain ⟨q0,q1,q2,q3,q4,q5,q6,q7⟩:=cells8 BK.out))
      go_ret
      refine ⟨_,rfl,?_,below_alloc HB.out _⟩
      rw [HT.out]
      exact own_one w W1 (-1) (below_size HB.out)
    · have e1:(a2 == 3)=false:=beq_eq_false_iff_ne.2 ht
      have hsz:s.toList.isEmpty=decide (s.size=0):=by
        have h1:s.toList.length=s.size:=by rw [ByteArray.toList_eq];simp
        rw [Bool.eq_iff_iff,List.isEmpty_iff,← List.length_eq_zero_iff,h1]
        simp
      by_cases he:s.size=0
      · have e2:s.toList.isEmpty=true:=by rw [hsz];exact decide_eq_true he
        have HT:=Aside0.mk (show textsT a2 s fl=[-1] by unfold textsT;rw [if_pos (Or.inr (Or.inr he))])
        clear h16 ht hsz he
        go_enter Tryz.func43,Tryz.ntmps43
        go_wp2_with (first|(refine bx 1 #[.int .i64 a0,.int .i64 a1,.int .i64 a2,.int .i64 a3,.int .i64 a4,.string s,.int .i64 fl,.int .i64 kd] 96 (h:=?_);intro gb hg w5 hbox hb;have BK:=Aside0.mk hbox;have HB:=Aside0.mk hb;have hlg:=blk_lt hbox;obtain ⟨q0,q1,q2,q3,q4,q5,q6,q7⟩:=cells8 hbox;clear hb hbox hg)|(go_at_call 76;refine (HH.out _).mono ?_;rintro e W1 ⟨rfl,hb⟩;have BK_:=Aside0.mk (blk_below BK.out hb);have HB_:=Aside0.mk (below_step HB.out hb);clear BK HB q0 q1 q2 q3 q4 q5 q6 q7 hlg;have BK:=BK_;have HB:=HB_;clear BK_ HB_ hb;have hlg:=blk_lt BK.out;obtain ⟨q0,q1,q2,q3,q4,q5,q6,q7⟩:=cells8 BK.out))
        go_ret
        refine ⟨_,rfl,?_,below_alloc HB.out _⟩
        rw [HT.out]
        exact own_one w W1 (-1) (below_size HB.out)
      · have e2:s.toList.isEmpty=false:=by rw [hsz];exact decide_eq_false he
        have kc:=conv_run
        obtain ⟨l,is,hA⟩:∃ l is,allC (numsS s)=(l,is):=⟨_,_,rfl⟩
        have HR:=Aside0.mk (show utf_All.f (numsS s)=some (l,is) by unfold utf_All.f;rw [if_pos (by rw [numsS_len];have:=HS.out;omega),hA])
        have HT:=Aside0.mk (show textsT a2 s fl=l by unfold textsT;rw [if_neg (fun h=>h.elim (fun h=>by rw [h16] at h;cases h) (fun h=>h.elim ht he)),hA])
        clear h16 ht hsz he hA
        go_enter Tryz.func43,Tryz.ntmps43
        go_wp2_with (first|(refine bx 1 #[.int .i64 a0,.int .i64 a1,.int .i64 a2,.int .i64 a3,.int .i64 a4,.string s,.int .i64 fl,.int .i64 kd] 96 (h:=?_);intro gb hg w5 hbox hb;have BK:=Aside0.mk hbox;have HB:=Aside0.mk hb;have hlg:=blk_lt hbox;obtain ⟨q0,q1,q2,q3,q4,q5,q6,q7⟩:=cells8 hbox;clear hb hbox hg)|(go_at_call 76;refine (HH.out _).mono ?_;rintro e W1 ⟨rfl,hb⟩;have BK_:=Aside0.mk (blk_below BK.out hb);have HB_:=Aside0.mk (below_step HB.out hb);clear BK HB q0 q1 q2 q3 q4 q5 q6 q7 hlg;have BK:=BK_;have HB:=HB_;clear BK_ HB_ hb;have hlg:=blk_lt BK.out;obtain ⟨q0,q1,q2,q3,q4,q5,q6,q7⟩:=cells8 BK.out)|(go_at_call 74;(with_reducible refine (utf_All.calls _ _ (numsS s) l is _ (conv_c W1 s (by have:=HS.out;omega)) (show (numsS s).length≤grownCap W1 s.size 0 5 by rw [numsS_len];exact cap_le _ _ _) HR.out).mono ?_);rintro e w2 ⟨v2,rfl,hv2,hb2⟩;have HO:=Aside0.mk (rlow hv2 (Nat.le_trans (below_size HB.out) (below_size (conv_below W1 s))));have HB2:=Aside0.mk (below_step (below_step HB.out (conv_below W1 s)) hb2);clear hv2 hb2 HB;have HB:=HB2;clear HB2))
        go_ret
        refine ⟨_,rfl,?_,HB.out⟩
        rw [HT.out]
        exact HO.out
end Go.Proofs.YthjacokachgmfaaGreatDoor.H
end
section
namespace Go.Proofs.YthjacokachgmfaaGreatDoor.H
open Go Go.RowKit YthjacokachgmfaaGreatDoorW.PrintWords YthjacokachgmfaaGreatDoorW.PrintLast YthjacokachgmfaaGreatDoorW.PrintMore
open YthjacokachgmfaaGreatDoor.R
set_option maxRecDepth 100000
theorem C_lit {α:Type} {d:Kd α} (hsz:d.sz=1) {W:World} {g t:Nat} {cs:Array Value} (hb:W.heap[g]?=some (.cells cs t (0,0))) {xs:List α} (hn:xs.length≤9223372036854775807) (h:∀ (j:Nat) (p:α),xs[j]?=some p→∃ v,cs[j]?=some v∧d.K W p [v]):d.C W (some ⟨g,0,none⟩) xs.length xs:=by
  refine ⟨rfl,hn,fun _=>⟨_,rfl,fun j p hj=>?_⟩⟩
  obtain ⟨v,hv,hk⟩:=h j p hj
  refine ⟨[v],by rw [hsz];rfl,hk,fun i u hi=>?_⟩
  obtain rfl:i=0:=by
    cases i with
    | zero=>rfl
    | succ i=>simp at hi
  obtain rfl:v=u:=by simpa using hi
  have e:(⟨g,0,none⟩:Addr).add (j * d.sz+0)=⟨g,j,none⟩:=by
    rw [hsz]
    unfold Addr.add
    split<;>simp_all
  rw [e]
  exact (blk_cell hb j).trans hv
theorem C_take {α:Type} {d:Kd α} {W:World} {A:Option Addr} {n:Nat} {xs:List α} (h:d.C W A n xs) (m:Nat) (hm:m≤n):d.C W A (xs.take m).length (xs.take m):=by
  obtain ⟨h1,h2,h3⟩:=h
  have hl:(xs.take m).length=m:=by rw [List.length_take];omega
  refine ⟨rfl,by omega,fun h0=>?_⟩
  obtain ⟨ad,e,hc⟩:=h3 (by omega)
  refine ⟨ad,e,fun j p hj=>hc j p ?_⟩
  rw [List.getElem?_take] at hj
  split at hj
  · exact hj
  · cases hj
theorem kli_K {W:World} {A:Option Addr} {c:Nat} {L:List Int} (l:L.length≤c) (g:(Kd.int .i64).C W A L.length L):kli.K W L [.slice A L.length c]:=⟨A,c,rfl,l,g⟩
theorem kli3 {W:World} {A1 A2 A3:Option Addr} {c1 c2 c3:Nat} {L1 L2 L3:List Int} (l1:L1.length≤c1) (l2:L2.length≤c2) (l3:L3.length≤c3) (g1:(Kd.int .i64).C W A1 L1.length L1) (g2:(Kd.int .i64).C W A2 L2.length L2) (g3:(Kd.int .i64).C W A3 L3.length L3) (t:Nat) :
    kli.C (W.alloc (.cells #[.slice A1 L1.length c1,.slice A2 L2.length c2,.slice A3 L3.length c3] t (0,0))) (some ⟨W.heap.size,0,none⟩) 3 [L1,L2,L3]:=by
  have hb:Below W.heap.size W (W.alloc (.cells #[.slice A1 L1.length c1,.slice A2 L2.length c2,.slice A3 L3.length c3] t (0,0))):=below_alloc (Below.refl _ _) _
  refine C_lit (d:=kli) (xs:=[L1,L2,L3]) rfl (blk_new W _) (by simp) fun j p hj=>?_
  match j,hj with
  | 0, hj => obtain rfl:L1=p:=by simpa using hj
             exact ⟨_,rfl,kli_K l1 (Kd.C_below g1 hb)⟩
  | 1, hj => obtain rfl:L2=p:=by simpa using hj
             exact ⟨_,rfl,kli_K l2 (Kd.C_below g2 hb)⟩
  | 2, hj => obtain rfl:L3=p:=by simpa using hj
             exact ⟨_,rfl,kli_K l3 (Kd.C_below g3 hb)⟩
  | n+3,hj=>simp at hj
def keyPs (ps:List (List Int)):List (List Int):=ps.take (trimN ps ps.length)
theorem keyPs_len (ps:List (List Int)):(keyPs ps).length=trimN ps ps.length:=by
  unfold keyPs
  rw [List.length_take]
  have:=trimN_le ps ps.length
  omega
theorem params_keyPs (A:Option Addr) (c:Nat) (ps:List (List Int)) (w:World) (hr:Kd.C kli w A ps.length ps) (hc:ps.length≤c) (hl:ps.length≤100000) (hp:∀ p∈ps,p.length≤100000) :
    Calls Tryz.prog 40 #[.slice A ps.length c] w fun e w'=>e=.returned (.slice A (keyPs ps).length c)∧Kd.C kli w' A (keyPs ps).length (keyPs ps)∧Below w.heap.size w w' :=
  (params_calls A c ps w hr hc hl hp).mono (fun e w' h=>⟨by rw [keyPs_len];exact h.1,C_take (Kd.C_below hr h.2) _ (trimN_le _ _),h.2⟩)
def KeyR (w w':World) (v:Value) (ps:List (List Int)) (fin:Int):Prop:=if listedT ps then OwnB w w' v (csiT 0 ps [] fin) else v=.slice none 0 0
theorem put_k (fin:Int) (A:Option Addr) (ps:List (List Int)) (c:Nat) (w:World) (hs:Plain 1 0 fin [] []) (hr:Kd.C kli w A ps.length ps) (hl:ps.length≤100000) (hp:∀ p∈ps,p.length≤100000) (ht:Pow w) :
    Calls Tryz.prog 27 #[.agg #[.int .i64 1,.int .u8 0,.slice A ps.length c,.string ⟨#[]⟩,.int .u8 fin,.string ⟨#[]⟩]] w fun e w'=>∃ v n,e=.returned (.tuple #[v,.int .i64 n])∧KeyR w w' v ps fin∧Below w.heap.size w w':=by
  refine (put_calls 0 fin [] A ps c w hs hr hl hp ht).mono fun e w' h=>?_
  obtain ⟨h,hb⟩:=h
  unfold KeyR
  split at h
  · rename_i hq
    obtain ⟨v,rfl,ho⟩:=h
    exact ⟨v,0,rfl,by rw [if_pos hq];exact ho,hb⟩
  · rename_i hq
    exact ⟨_,1,h,by rw [if_neg hq],hb⟩
theorem KeyR.low {w0 w1 w:World} {v:Value} {ps:List (List Int)} {fin:Int} (h:KeyR w1 w v ps fin) (hs:w0.heap.size≤w1.heap.size):KeyR w0 w v ps fin:=by
  unfold KeyR at *
  split at h
  · rename_i hq
    rw [if_pos hq]
    exact h.low hs
  · rename_i hq
    rw [if_neg hq]
    exact h
set_option maxHeartbeats 8000000 in
theorem key_core (a0 a1 a2 a3 a4:Int) (s:ByteArray) (fl kd r2 r3 r4 n fin:Int) (r5:Bool) (L1 L2 L3:List Int) (w:World) (hp:Pow w)
    (hlook:∀ w:World,Calls Tryz.prog 35 #[.int .i64 a0] w fun e w'=>e=.returned (.agg #[.int .i64 kd,.int .u8 r2,.int .i64 r3,.int .i64 r4,.bool r5])∧Below w.heap.size w w')
    (hmay:∀ w:World,Calls Tryz.prog 36 #[.agg #[.int .i64 a0,.int .i64 a1,.int .i64 a2,.int .i64 a3,.int .i64 a4,.string s]] w fun e w'=>e=.returned (.bool true)∧Below w.heap.size w w')
    (hsent:∀ w:World,Calls Tryz.prog 37 #[.agg #[.int .i64 a0,.int .i64 a1,.int .i64 a2,.int .i64 a3,.int .i64 a4,.string s,.int .i64 fl,.int .i64 kd]] w fun e w'=>e=.returned (.bool true)∧Below w.heap.size w w')
    (htext:∀ w:World,Calls Tryz.prog 38 #[.agg #[.int .i64 a0,.int .i64 a1,.int .i64 a2,.int .i64 a3,.int .i64 a4,.string s,.int .i64 fl,.int .i64 kd]] w fun e w'=>e=.returned (.slice none 0 0)∧Below w.heap.size w w')
    (hform:∀ w:World,Calls Tryz.prog 39 #[.int .i64 a0] w fun e w'=>e=.returned (.tuple #[.int .i64 n,.int .u8 fin])∧Below w.heap.size w w')
    (hcode:∀ w:World,Calls Tryz.prog 41 #[.agg #[.int .i64 a0,.int .i64 a1,.int .i64 a2,.int .i64 a3,.int .i64 a4,.string s,.int .i64 fl,.int .i64 kd],.int .i64 n,.int .u8 fin] w fun e w'=>∃ v,e=.returned v∧Kd.R (Kd.int .i64) 3 w' w.heap.size (fun _=>True) v L1∧Below w.heap.size w w')
    (hhow:∀ w:World,Calls Tryz.prog 42 #[.agg #[.int .i64 a0,.int .i64 a1,.int .i64 a2,.int .i64 a3,.int .i64 a4,.string s,.int .i64 fl,.int .i64 kd]] w fun e w'=>∃ v,e=.returned v∧Kd.R (Kd.int .i64) 3 w' w.heap.size (fun _=>True) v L2∧Below w.heap.size w w')
    (htexts:∀ w:World,Calls Tryz.prog 43 #[.agg #[.int .i64 a0,.int .i64 a1,.int .i64 a2,.int .i64 a3,.int .i64 a4,.string s,.int .i64 fl,.int .i64 kd]] w fun e w'=>∃ v,e=.returned v∧Kd.R (Kd.int .i64) 3 w' w.heap.size (fun _=>True) v L3∧Below w.heap.size w w')
    (hpl:Plain 1 0 fin [] []) (h1:L1.length≤100000) (h2:L2.length≤100000) (h3:L3.length≤100000) :
    Calls Tryz.prog 13 #[.int .i64 fl,.agg #[.int .i64 a0,.int .i64 a1,.int .i64 a2,.int .i64 a3,.int .i64 a4,.string s]] w fun e w'=>∃ v,e=.returned v∧KeyR w w' v (keyPs [L1,L2,L3]) fin∧Below w.heap.size w w':=by
  have hf:=entry_0
  have HLOOK:=Aside0.mk hlook
  have HMAY:=Aside0.mk hmay
  have HSENT:=Aside0.mk hsent
  have HTEXT:=Aside0.mk htext
  have HFORM:=Aside0.mk hform
  have HCODE:=Aside0.mk hcode
  have HHOW:=Aside0.mk hhow
  have HTEXTS:=Aside0.mk htexts
  have HPL:=Aside0.mk hpl
  have HL:Aside0 (∀ p∈[L1,L2,L3],p.length≤100000):=⟨fun p hp=>by
    simp only [List.mem_cons,List.not_mem_nil,or_false] at hp
    rcases hp with rfl | rfl | rfl<;>assumption⟩
  have HL2:Aside0 (∀ p∈keyPs [L1,L2,L3],p.length≤100000):=⟨fun p hp=>HL.out p (List.mem_of_mem_take hp)⟩
  have HPW:=Aside0.mk hp
  clear hlook hmay hsent htext hform hcode hhow htexts hpl h1 h2 h3 hp
  go_enter Tryz.func13,Tryz.ntmps13
  go_wp2_with (first|(refine bx 3 #[.int .i64 a0,.int .i64 a1,.int .i64 a2,.int .i64 a3,.int .i64 a4,.string s] 35 (h:=?_);intro gb hg w5 hbox hb;have BK:=Aside0.mk hbox;have HB:=Aside0.mk hb;have hlg:=blk_lt hbox;obtain ⟨q0,q1,q2,q3,q4,q5⟩:=cells6 hbox;clear hb hbox hg))
  go_cut [3,5] (fun v3 v5 W=>v3=.pointer (some ⟨gb,0,none⟩)∧∃ g5:Nat,v5=.pointer (some ⟨g5,0,none⟩)∧Aside0 (W.heap[gb]?=some (.cells #[.int .i64 a0,.int .i64 a1,.int .i64 a2,.int .i64 a3,.int .i64 a4,.string s] 35 (0,0)))∧Aside0 (W.heap[g5]?=some (.cells #[.int .i64 a0,.int .i64 a1,.int .i64 a2,.int .i64 a3,.int .i64 a4,.string s,.int .i64 fl,.int .i64 kd] 96 (0,0)))∧Aside0 (Below w.heap.size w W))
  case first =>
    rename_i J K' hJ hK
    go_region_held3 (fun W=>W.cell? ⟨gb,0,none⟩=some (.int .i64 a0)∧W.cell? ⟨gb,1,none⟩=some (.int .i64 a1)∧W.cell? ⟨gb,2,none⟩=some (.int .i64 a2)∧W.cell? ⟨gb,3,none⟩=some (.int .i64 a3)∧W.cell? ⟨gb,4,none⟩=some (.int .i64 a4)∧W.cell? ⟨gb,5,none⟩=some (.string s)) (first | with_reducible exact cells6 BK1.out | with_reducible exact cells6 (blk_drew BK.out) | with_reducible exact cells6 (blk_alloc BK1.out _) | with_reducible exact cells6 (blk_alloc (blk_drew BK.out) _) | with_reducible exact cells6 (blk_drew (blk_alloc BK.out _)) | with_reducible exact cells6 (blk_far (blk_far (blk_far (blk_far (blk_far (blk_far (blk_far (blk_far BK1.out NE.out _) NE.out _) NE.out _) NE.out _) NE.out _) NE.out _) NE.out _) NE.out _)) (first|(go_at_call 35;refine (HLOOK.out _).mono ?_;rintro e W1 ⟨rfl,hb⟩;first|(have G5:=blk_below (blk_drew (blk_new w5 (.cells #[.int .i64 0,.int .i64 0,.int .i64 0,.int .i64 0,.int .i64 0,.string ⟨#[]⟩,.int .i64 0,.int .i64 0] 96 (0,0)))) hb;have G0:=blk_below (blk_drew (blk_alloc BK.out (.cells #[.int .i64 0,.int .i64 0,.int .i64 0,.int .i64 0,.int .i64 0,.string ⟨#[]⟩,.int .i64 0,.int .i64 0] 96 (0,0)))) hb;have HBW:=Aside0.mk (below_step (below_drew1 (below_alloc HB.out (.cells #[.int .i64 0,.int .i64 0,.int .i64 0,.int .i64 0,.int .i64 0,.string ⟨#[]⟩,.int .i64 0,.int .i64 0] 96 (0,0)))) hb);have BK1:=Aside0.mk G0;have BK5:=Aside0.mk G5;have NE:=Aside0.mk (blk_ne G0 G5 (by decide));have hl5:=blk_lt G5;have z0:=blk_frozen G5 0;have z1:=blk_frozen G5 1;have z2:=blk_frozen G5 2;have z3:=blk_frozen G5 3;have z4:=blk_frozen G5 4;have z5:=blk_frozen G5 5;have z6:=blk_frozen G5 6;have z7:=blk_frozen G5 7;obtain ⟨q0,q1,q2,q3,q4,q5⟩:=cells6 G0;obtain ⟨y0,y1,y2,y3,y4,y5,y6,y7⟩:=cells8 G5;have hlg:=blk_lt G0;clear hb G0 G5)|(have G0:=blk_below (blk_drew BK.out) hb;have HBW:=Aside0.mk (below_step (below_drew1 HB.out) hb);have BK1:=Aside0.mk G0;obtain ⟨q0,q1,q2,q3,q4,q5⟩:=cells6 G0;have hlg:=blk_lt G0;clear hb G0)))
    all_goals (change K' _ _;refine hK _ _ ?_;refine Met.intro ?_;refine hJ _ _ ?_;(repeat apply Exists.intro);refine ⟨?_,rfl⟩)
    all_goals (refine ⟨rfl,_,rfl,⟨?_⟩,⟨?_⟩,⟨?_⟩⟩)
    all_goals (first
      | with_reducible exact blk_alloc BK1.out _
      | with_reducible exact blk_new _ _
      | with_reducible exact below_alloc HBW.out _
      | with_reducible exact (blk_far (blk_far (blk_far (blk_far (blk_far (blk_far (blk_far (blk_far BK1.out NE.out _) NE.out _) NE.out _) NE.out _) NE.out _) NE.out _) NE.out _) NE.out _)
      | (with_reducible exact HBW.out)
      | (with_reducible refine below_set ?_ (below_size HB.out);repeat (first | with_reducible exact HBW.out | with_reducible refine below_set ?_ (below_size HB.out)))
      | (refine Eq.trans (blk_set (blk_set (blk_set (blk_set (blk_set (blk_set (blk_set (blk_set BK5.out 0 _) 1 _) 2 _) 3 _) 4 _) 5 _) 6 _) 7 _) ?_;rfl)
      )
  case rest =>
    obtain ⟨rfl,g5,rfl,HK,HE,HB_⟩:=hcut
    have HP:=Aside0.mk (Pow.below HPW.out HB_.out)
    clear HB HPW;have HB:=HB_;clear HB_
    obtain ⟨q0,q1,q2,q3,q4,q5⟩:=cells6 HK.out
    obtain ⟨y0,y1,y2,y3,y4,y5,y6,y7⟩:=cells8 HE.out
    go_wp2_with (first|(go_at_call 36;refine (HMAY.out _).mono ?_;rintro e W1 ⟨rfl,hb⟩;have HK_:=Aside0.mk (blk_below HK.out hb);have HE_:=Aside0.mk (blk_below HE.out hb);have HB_:=Aside0.mk (below_step HB.out hb);have HP_:=Aside0.mk (Pow.below HP.out hb);clear HK HE HB HP hb;have HK:=HK_;have HE:=HE_;have HB:=HB_;have HP:=HP_;clear HK_ HE_ HB_ HP_;obtain ⟨q0,q1,q2,q3,q4,q5⟩:=cells6 HK.out;obtain ⟨y0,y1,y2,y3,y4,y5,y6,y7⟩:=cells8 HE.out)|(go_at_call 37;refine (HSENT.out _).mono ?_;rintro e W1 ⟨rfl,hb⟩;have HK_:=Aside0.mk (blk_below HK.out hb);have HE_:=Aside0.mk (blk_below HE.out hb);have HB_:=Aside0.mk (below_step HB.out hb);have HP_:=Aside0.mk (Pow.below HP.out hb);clear HK HE HB HP hb;have HK:=HK_;have HE:=HE_;have HB:=HB_;have HP:=HP_;clear HK_ HE_ HB_ HP_;obtain ⟨q0,q1,q2,q3,q4,q5⟩:=cells6 HK.out;obtain ⟨y0,y1,y2,y3,y4,y5,y6,y7⟩:=cells8 HE.out)|(go_at_call 38;refine (HTEXT.out _).mono ?_;rintro e W1 ⟨rfl,hb⟩;have HK_:=Aside0.mk (blk_below HK.out hb);have HE_:=Aside0.mk (blk_below HE.out hb);have HB_:=Aside0.mk (below_step HB.out hb);have HP_:=Aside0.mk (Pow.below HP.out hb);clear HK HE HB HP hb;have HK:=HK_;have HE:=HE_;have HB:=HB_;have HP:=HP_;clear HK_ HE_ HB_ HP_;obtain ⟨q0,q1,q2,q3,q4,q5⟩:=cells6 HK.out;obtain ⟨y0,y1,y2,y3,y4,y5,y6,y7⟩:=cells8 HE.out)|(go_at_call 39;refine (HFORM.out _).mono ?_;rintro e W1 ⟨rfl,hb⟩;have HK_:=Aside0.mk (blk_below HK.out hb);have HE_:=Aside0.mk (blk_below HE.out hb);have HB_:=Aside0.mk (below_step HB.out hb);have HP_:=Aside0.mk (Pow.below HP.out hb);clear HK HE HB HP hb;have HK:=HK_;have HE:=HE_;have HB:=HB_;have HP:=HP_;clear HK_ HE_ HB_ HP_;obtain ⟨q0,q1,q2,q3,q4,q5⟩:=cells6 HK.out;obtain ⟨y0,y1,y2,y3,y4,y5,y6,y7⟩:=cells8 HE.out))
    go_region_held3 (fun W=>W.cell? ⟨g5,0,none⟩=some (.int .i64 a0)∧W.cell? ⟨g5,1,none⟩=some (.int .i64 a1)∧W.cell? ⟨g5,2,none⟩=some (.int .i64 a2)∧W.cell? ⟨g5,3,none⟩=some (.int .i64 a3)∧W.cell? ⟨g5,4,none⟩=some (.int .i64 a4)∧W.cell? ⟨g5,5,none⟩=some (.string s)∧W.cell? ⟨g5,6,none⟩=some (.int .i64 fl)∧W.cell? ⟨g5,7,none⟩=some (.int .i64 kd)) (first | with_reducible exact cells8 HE.out | with_reducible exact cells8 (blk_drew HE.out) | with_reducible exact cells8 (blk_alloc HE.out _)) (first|(go_at_call 41;refine (HCODE.out _).mono ?_;rintro e W1 ⟨v1,rfl,hr,hb⟩;obtain ⟨A1,c1,rfl,l1,g1⟩:=Kd.R_reads hr;have HE_:=Aside0.mk (blk_below (blk_drew HE.out) hb);have HB_:=Aside0.mk (below_step (below_drew1 HB.out) hb);have HP_:=Aside0.mk (Pow.below (Pow.below HP.out (below_drew1 (Below.refl _ _))) hb);clear HE HB HP;have HE:=HE_;have HB:=HB_;have HP:=HP_;clear HE_ HB_ HP_;have C1:=Aside0.mk g1;clear hr g1 hb)|(go_at_call 42;refine (HHOW.out _).mono ?_;rintro e W2 ⟨v2,rfl,hr,hb⟩;obtain ⟨A2,c2,rfl,l2,g2⟩:=Kd.R_reads hr;have HE_:=Aside0.mk (blk_below (HE.out) hb);have HB_:=Aside0.mk (below_step (HB.out) hb);have HP_:=Aside0.mk (Pow.below (HP.out) hb);replace C1:=Aside0.mk (Kd.C_below C1.out hb);clear HE HB HP;have HE:=HE_;have HB:=HB_;have HP:=HP_;clear HE_ HB_ HP_;have C2:=Aside0.mk g2;clear hr g2 hb)|(go_at_call 43;refine (HTEXTS.out _).mono ?_;rintro e W3 ⟨v3,rfl,hr,hb⟩;obtain ⟨A3,c3,rfl,l3,g3⟩:=Kd.R_reads hr;have HE_:=Aside0.mk (blk_below (HE.out) hb);have HB_:=Aside0.mk (below_step (HB.out) hb);have HP_:=Aside0.mk (Pow.below (HP.out) hb);replace C1:=Aside0.mk (Kd.C_below C1.out hb);replace C2:=Aside0.mk (Kd.C_below C2.out hb);clear HE HB HP;have HE:=HE_;have HB:=HB_;have HP:=HP_;clear HE_ HB_ HP_;have C3:=Aside0.mk g3;clear hr g3 hb)|(go_at_call 40;refine (params_keyPs (some ⟨W3.heap.size,0,none⟩) 3 [L1,L2,L3] _ (kli3 l1 l2 l3 C1.out C2.out C3.out _) (Nat.le_refl 3) (by simp) HL.out).mono ?_;rintro e W4 ⟨rfl,hc,hb⟩;have C4:=Aside0.mk hc;have HE_:=Aside0.mk (blk_below (blk_alloc HE.out _) hb);have HB_:=Aside0.mk (below_step (below_alloc HB.out _) hb);have HP_:=Aside0.mk (Pow.below (Pow.below HP.out (below_alloc (Below.refl _ _) _)) hb);clear HE HB HP hc hb;have HE:=HE_;have HB:=HB_;have HP:=HP_;clear HE_ HB_ HP_)|(go_at_call 27;refine (put_k fin _ (keyPs [L1,L2,L3]) 3 _ HPL.out C4.out (by rw [keyPs_len];exact Nat.le_trans (trimN_le _ _) (by simp)) HL2.out HP.out).mono ?_;rintro e W5 ⟨v5,n5,rfl,hk,hb⟩;have HKR:=Aside0.mk (hk.low (w0:=w) (below_size HB.out));have HE_:=Aside0.mk (blk_below HE.out hb);have HB_:=Aside0.mk (below_step HB.out hb);clear HE HB hk hb;have HE:=HE_;have HB:=HB_;clear HE_ HB_))
    go_wp2
    go_ret
    exact ⟨v5,rfl,HKR.out,HB.out⟩
end Go.Proofs.YthjacokachgmfaaGreatDoor.H
end
