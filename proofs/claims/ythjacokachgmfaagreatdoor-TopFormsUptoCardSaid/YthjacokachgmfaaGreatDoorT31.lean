import Derived.Test.YthjacokachgmfaaGreatDoorT04
import Derived.Test.YthjacokachgmfaaGreatDoorT30
set_option linter.unusedVariables false
set_option linter.unusedSimpArgs false
section
namespace Go.Proofs.YthjacokachgmfaaGreatDoor.H
open Go Go.RowKit YthjacokachgmfaaGreatDoorW.PrintWords YthjacokachgmfaaGreatDoorW.PrintLast YthjacokachgmfaaGreatDoorW.PrintMore YthjacokachgmfaaGreatDoor.R
open Ev
set_option maxRecDepth 100000
theorem may97c (w:World):Calls Tryz.prog 36 #[.agg #[.int .i64 97,.int .i64 0,.int .i64 1,.int .i64 0,.int .i64 0,.string ⟨#[]⟩]] w fun e w'=>e=.returned (.bool true)∧Below w.heap.size w w':=by
  have h:=may_t 97 0 1 0 0 ⟨#[]⟩ (by decide) w
  rw [may97] at h
  exact h
theorem told97c (w:World):Calls Tryz.prog 14 #[.int .i64 31,.agg #[.int .i64 97,.int .i64 0,.int .i64 1,.int .i64 0,.int .i64 0,.string ⟨#[]⟩]] w fun e w'=>e=.returned (.agg #[.int .i64 97,.int .i64 0,.int .i64 1,.int .i64 0,.int .i64 0,.string ⟨#[]⟩])∧Below w.heap.size w w':=by
  have h:=told_calls 100 31 97 0 1 0 0 97 117 ⟨#[]⟩ w form97
  rw [show told3 31 117 0 0=0 by kernel_rfl,show told4 31 117 97 0=0 by kernel_rfl,show toldS 31 1 ⟨#[]⟩=⟨#[]⟩ by kernel_rfl] at h
  exact h
def TakeAt (w:World) (A:Option Addr) (n c:Nat):Prop:=∀ W,Below w.heap.size w W→Calls Tryz.prog 10 #[.slice A n c] W fun e w'=>∃ Av cv,e=.returned (.tuple #[.agg #[.int .i64 1,.int .u8 0,.slice Av 1 cv,.string ⟨#[]⟩,.int .u8 117,.string ⟨#[]⟩],.int .i64 5,.int .i64 0])∧Kd.C kli w' Av 1 [[97]]∧Below W.heap.size W w'
set_option maxHeartbeats 8000000 in
theorem pointed_calls (A:Option Addr) (n c:Nat) (w:World) (htk:TakeAt w A n c) (hmd:∀ W,Below w.heap.size w W→Calls Tryz.prog 186 #[.slice A 5 c] W fun e w'=>e=.returned (.tuple #[.agg #[.int .i64 0,.int .i64 0,.int .i64 0,.int .i64 0,.int .i64 0],.bool false])∧Below W.heap.size W w')
    (hcut:∀ W:World,(Instr.slice 22 (.slice A n c) none (some (.int .i64 5)) none).run Tryz.prog W=.ok (.slice A 5 c) W) :
    Calls Tryz.prog 127 #[.slice A n c] w fun e w'=>e=.returned (.tuple #[.agg #[.int .i64 2,.int .i64 0,.int .i64 0,.int .i64 0,.int .i64 0,.int .i64 0,.string ⟨#[]⟩,.int .i64 0,.int .i64 0,.int .i64 0,.int .i64 0,.int .i64 0,.bool false,.string ⟨#[]⟩,.int .i64 0,.int .u8 0,.slice none 0 0,.string ⟨#[]⟩,.int .u8 0,.string ⟨#[]⟩],.int .i64 5,.bool false])∧Below w.heap.size w w':=by
  have HTK:=Aside0.mk htk
  have HMD:=Aside0.mk hmd
  clear htk hmd
  have HB:=Aside0.mk (Below.refl w.heap.size w)
  go_enter Tryz.func127,Tryz.ntmps127
  go_wp2_with (first|(refine bx 2 #[.int .i64 0,.int .i64 0,.int .i64 0,.int .i64 0,.int .i64 0,.int .i64 0,.string ⟨#[]⟩,.int .i64 0,.int .i64 0,.int .i64 0,.int .i64 0,.int .i64 0,.bool false,.string ⟨#[]⟩,.int .i64 0,.int .u8 0,.slice none 0 0,.string ⟨#[]⟩,.int .u8 0,.string ⟨#[]⟩] 58 (h:=?_);intro g2 hg w0_ hbox hb;have HBo:=HB;replace HB:=bh HB hb;have B2:=Aside0.mk hbox;have q2:=cells20 B2.out;have G2:=gG HBo hg;clear hbox hb hg HBo)|(go_at_call 10;refine (HTK.out _ HB.out).mono ?_;rintro e w1 ⟨Av,cv,rfl,hC,hb⟩;replace B2:=kb B2 hb;clear q2;have q2:=cells20 B2.out;replace HB:=bh HB hb;clear hb;have HC1:=Aside0.mk hC;have HB1:=Aside0.mk (Below.refl w1.heap.size w1);clear hC)|(refine bx 5 #[.int .i64 0,.int .u8 0,.slice none 0 0,.string ⟨#[]⟩,.int .u8 0,.string ⟨#[]⟩] 44 (h:=?_);intro g5 hg w2 hbox hb;have HBo:=HB;have HB1p:=HB1;replace B2:=kb B2 hb;clear q2;have q2:=cells20 B2.out;replace HB:=bh HB hb;replace HB1:=bh HB1 hb;have B5:=Aside0.mk hbox;have q5:=cells6 B5.out;have G5:=gG HBo hg;have GX5:=Aside0.mk (show w1.heap.size≤g5 by rw [hg];exact HB1p.out.size);clear HB1p;clear hbox hb hg HBo)|((with_reducible refine gate_store (t:=44) rfl ?_);refine sx 44 0 B5 (h:=?_);intro w3 hS hg;replace B2:=gnx B2 hg B5;clear q2;have q2:=cells20 B2.out;replace HB:=gb HB hg G5;replace HB1:=gb HB1 hg GX5;clear B5 q5 hg;have B5:=hS;clear hS;have q5:=cells6 B5.out)|(go_at_call 186;refine (HMD.out _ HB.out).mono ?_;rintro e w4 ⟨rfl,hb⟩;replace B2:=kb B2 hb;clear q2;have q2:=cells20 B2.out;replace B5:=kb B5 hb;clear q5;have q5:=cells6 B5.out;replace HB:=bh HB hb;replace HB1:=bh HB1 hb;clear hb)|(refine bx 8 #[.int .i64 0,.int .i64 0,.int .i64 0,.int .i64 0,.int .i64 0] 37 (h:=?_);intro g8 hg w5 hbox hb;have HBo:=HB;have HB1p:=HB1;replace B2:=kb B2 hb;clear q2;have q2:=cells20 B2.out;replace B5:=kb B5 hb;clear q5;have q5:=cells6 B5.out;replace HB:=bh HB hb;replace HB1:=bh HB1 hb;have B8:=Aside0.mk hbox;have q8:=cells5 B8.out;have G8:=gG HBo hg;have GX8:=Aside0.mk (show w1.heap.size≤g8 by rw [hg];exact HB1p.out.size);clear HB1p;clear hbox hb hg HBo)|((with_reducible refine gate_store (t:=37) rfl ?_);refine sx 37 0 B8 (h:=?_);intro w6 hS hg;replace B2:=gnx B2 hg B8;clear q2;have q2:=cells20 B2.out;replace B5:=gnx B5 hg B8;clear q5;have q5:=cells6 B5.out;replace HB:=gb HB hg G8;replace HB1:=gb HB1 hg GX8;clear B8 q8 hg;have B8:=hS;clear hS;have q8:=cells5 B8.out)|((with_reducible refine gate_store (t:=58) rfl ?_);refine sx 58 0 B2 (h:=?_);intro w7 hS hg;replace B5:=gnx B5 hg B2;clear q5;have q5:=cells6 B5.out;replace B8:=gnx B8 hg B2;clear q8;have q8:=cells5 B8.out;replace HB:=gb HB hg G2;clear B2 q2 hg;have B2:=hS;clear hS;have q2:=cells20 B2.out))
  refine bodyPost_ret (results_ctt rfl _ _ g2 58 _ (0,0) _ rfl B2.out Tryz.underlying58 rfl (by kernel_rfl)) rfl ?_
  exact ⟨rfl,HB.out⟩
set_option maxHeartbeats 16000000 in
theorem keyed_calls (A:Option Addr) (n c:Nat) (w:World) (hpw:Pow w) (htk:TakeAt w A n c) (hct:Kd.C (Kd.int .u8) w A 5 [27,91,57,55,117])
    (hcut:∀ W:World,(Instr.slice 22 (.slice A n c) none (some (.int .i64 5)) none).run Tryz.prog W=.ok (.slice A 5 c) W) :
    Calls Tryz.prog 128 #[.slice A n c] w fun e w'=>e=.returned (.tuple #[.agg #[.int .i64 1,.int .i64 97,.int .i64 0,.int .i64 1,.int .i64 0,.int .i64 0,.string ⟨#[]⟩,.int .i64 0,.int .i64 0,.int .i64 0,.int .i64 0,.int .i64 0,.bool false,.string ⟨#[]⟩,.int .i64 0,.int .u8 0,.slice none 0 0,.string ⟨#[]⟩,.int .u8 0,.string ⟨#[]⟩],.int .i64 5,.bool true])∧Below w.heap.size w w':=by
  have HTK:=Aside0.mk htk
  have HPW:=Aside0.mk hpw
  have HCT:=Aside0.mk hct
  obtain ⟨LK,hLK⟩:∃ L,nat8 [27,91,57,55,117]=L:=⟨_,rfl⟩
  have HLK:=Aside0.mk hLK
  have EQF:=Aside0.mk (show ((strOfNums LK).toList == (strOfNums [27,91,57,55,117]).toList)=true by rw [← hLK];simp [nat8])
  have heq35:∀ W:World,(binOp .eql 35 (.agg #[.int .i64 97,.int .i64 0,.int .i64 1,.int .i64 0,.int .i64 0,.string ⟨#[]⟩]) (.agg #[.int .i64 97,.int .i64 0,.int .i64 1,.int .i64 0,.int .i64 0,.string ⟨#[]⟩])).run Tryz.prog W=.ok (.bool true) W:=fun W=>by kernel_rfl
  clear htk hpw hct hLK
  have HB:=Aside0.mk (Below.refl w.heap.size w)
  go_enter Tryz.func128,Tryz.ntmps128
  go_wp2_with (first|(refine bx 2 #[.int .i64 0,.int .i64 0,.int .i64 0,.int .i64 0,.int .i64 0,.int .i64 0,.string ⟨#[]⟩,.int .i64 0,.int .i64 0,.int .i64 0,.int .i64 0,.int .i64 0,.bool false,.string ⟨#[]⟩,.int .i64 0,.int .u8 0,.slice none 0 0,.string ⟨#[]⟩,.int .u8 0,.string ⟨#[]⟩] 58 (h:=?_);intro g2 hg w0_ hbox hb;have HBo:=HB;replace HB:=bh HB hb;have B2:=Aside0.mk hbox;have q2:=cells20 B2.out;have G2:=gG HBo hg;clear hbox hb hg HBo)|(go_at_call 10;refine (HTK.out _ HB.out).mono ?_;rintro e w1 ⟨Av,cv,rfl,hC,hb⟩;replace B2:=kb B2 hb;clear q2;have q2:=cells20 B2.out;replace HB:=bh HB hb;clear hb;have HC1:=Aside0.mk hC;have HB1:=Aside0.mk (Below.refl w1.heap.size w1);clear hC)|(refine bx 5 #[.int .i64 0,.int .u8 0,.slice none 0 0,.string ⟨#[]⟩,.int .u8 0,.string ⟨#[]⟩] 44 (h:=?_);intro g5 hg w2 hbox hb;have HBo:=HB;have HB1p:=HB1;replace B2:=kb B2 hb;clear q2;have q2:=cells20 B2.out;replace HB:=bh HB hb;replace HB1:=bh HB1 hb;have B5:=Aside0.mk hbox;have q5:=cells6 B5.out;have G5:=gG HBo hg;have GX5:=Aside0.mk (show w1.heap.size≤g5 by rw [hg];exact HB1p.out.size);clear HB1p;clear hbox hb hg HBo)|((with_reducible refine gate_store (t:=44) rfl ?_);refine sx 44 0 B5 (h:=?_);intro w3 hS hg;replace B2:=gnx B2 hg B5;clear q2;have q2:=cells20 B2.out;replace HB:=gb HB hg G5;replace HB1:=gb HB1 hg GX5;clear B5 q5 hg;have B5:=hS;clear hS;have q5:=cells6 B5.out)|(go_at_call 188;refine (part_i Av cv 0 1 _).mono ?_;rintro e w4 ⟨rfl,hb⟩;replace B2:=kb B2 hb;clear q2;have q2:=cells20 B2.out;replace B5:=kb B5 hb;clear q5;have q5:=cells6 B5.out;replace HB:=bh HB hb;replace HB1:=bh HB1 hb;clear hb)|(go_at_call 187;refine (of_calls _).mono ?_;rintro e w5 ⟨rfl,hb⟩;replace B2:=kb B2 hb;clear q2;have q2:=cells20 B2.out;replace B5:=kb B5 hb;clear q5;have q5:=cells6 B5.out;replace HB:=bh HB hb;replace HB1:=bh HB1 hb;clear hb))
  refine st 12 (fun w'=>w'.cell? ⟨g5,0,none⟩=some (.int .i64 1)∧w'.cell? ⟨g5,1,none⟩=some (.int .u8 0)∧w'.cell? ⟨g5,2,none⟩=some (.slice Av 1 cv)∧w'.cell? ⟨g5,3,none⟩=some (.string ⟨#[]⟩)∧w'.cell? ⟨g5,4,none⟩=some (.int .u8 117)∧w'.cell? ⟨g5,5,none⟩=some (.string ⟨#[]⟩)) [] (hS:=q5) (h:=fun hHeld=>?_)
  refine pu 2 (h:=?_)
  refine tk 0 hHeld (h:=?_)
  refine tk 3 hHeld (h:=?_)
  refine tk 5 hHeld (h:=?_)
  refine tk 7 hHeld (h:=?_)
  refine tw 1 10 (h1:=fun K hK=>?_) (h2:=fun K hK=>?_)
  · skip
    refine gc Tryz.func189 (code_calls Av cv 97 _ (Kd.C_below HC1.out (by first | exact HB1.out | exact below_drew1 HB1.out)) (by decide)) (h:=?_)
    rintro e w6 ⟨rfl,hb⟩
    refine ⟨_,rfl,?_⟩
    replace B2:=kb B2 hb
    clear q2
    have q2:=cells20 B2.out
    replace B5:=kb B5 hb
    clear q5
    have q5:=cells6 B5.out
    replace HB:=bh HB hb
    replace HB1:=bh HB1 hb
    clear hb
    refine hK.out _ _ q5 (fun hHeld=>?_)
    clear hK K
    refine nm 27 (h:=?_)
    refine tw 4 10 (h1:=fun K hK=>?_) (h2:=fun K hK=>?_)
    · skip
      refine gc Tryz.func188 (part_i Av cv 1 1 _) (h:=?_)
      rintro e w6 ⟨rfl,hb⟩
      refine ⟨_,rfl,?_⟩
      replace B2:=kb B2 hb
      clear q2
      have q2:=cells20 B2.out
      replace B5:=kb B5 hb
      clear q5
      have q5:=cells6 B5.out
      replace HB:=bh HB hb
      replace HB1:=bh HB1 hb
      clear hb
      refine hK.out _ _ q5 (fun hHeld=>?_)
      clear hK K
      refine nm 30 (h:=?_)
      refine tw 6 10 (h1:=fun K hK=>?_) (h2:=fun K hK=>?_)
      · skip
        refine gc Tryz.func188 (part_j1 Av cv 97 0 _ (Kd.C_below HC1.out (by first | exact HB1.out | exact below_drew1 HB1.out)) (by decide)) (h:=?_)
        rintro e w6 ⟨rfl,hb⟩
        refine ⟨_,rfl,?_⟩
        replace B2:=kb B2 hb
        clear q2
        have q2:=cells20 B2.out
        replace B5:=kb B5 hb
        clear q5
        have q5:=cells6 B5.out
        replace HB:=bh HB hb
        replace HB1:=bh HB1 hb
        clear hb
        refine hK.out _ _ q5 (fun hHeld=>?_)
        clear hK K
        refine nm 32 (h:=?_)
        refine tw 8 10 (h1:=fun K hK=>?_) (h2:=fun K hK=>?_)
        · skip
          refine gc Tryz.func188 (part_j2 Av cv 97 0 _ (Kd.C_below HC1.out (by first | exact HB1.out | exact below_drew1 HB1.out)) (by decide)) (h:=?_)
          rintro e w6 ⟨rfl,hb⟩
          refine ⟨_,rfl,?_⟩
          replace B2:=kb B2 hb
          clear q2
          have q2:=cells20 B2.out
          replace B5:=kb B5 hb
          clear q5
          have q5:=cells6 B5.out
          replace HB:=bh HB hb
          replace HB1:=bh HB1 hb
          clear hb
          refine hK.out _ _ q5 (fun hHeld=>?_)
          clear hK K
          refine nm 34 (h:=?_)
          refine pu 9 (h:=?_)
          refine oS 10 (h:=fun K hK=>?_)
          refine box_step 10 (by rfl) (by rfl) (cs:=#[.int .i64 0,.int .i64 0,.int .i64 0,.int .i64 0,.int .i64 0,.string ⟨#[]⟩]) (t:=35) (by first|(go_simp;done)|(go_simp;rfl)) ?_
          intro g10 hg w7 hbox hb
          have GX10:=Aside0.mk (show w1.heap.size≤g10 by rw [hg];first | exact HB1.out.size | exact (below_drew1 HB1.out).size)
          have HBo:=HB
          replace B2:=kb B2 hb
          clear q2
          have q2:=cells20 B2.out
          replace B5:=kb B5 hb
          clear q5
          have q5:=cells6 B5.out
          replace HB:=bh HB hb
          replace HB1:=bh HB1 hb
          have B10:=Aside0.mk hbox
          have q10:=cells6 B10.out
          have G10:=Aside0.mk (show w.heap.size≤g10 by rw [hg];first | exact below_size HBo.out | exact below_size (below_drew1 HBo.out))
          clear hbox hb hg HBo
          refine hK.out _ _ q5 (fun hHeld=>?_)
          clear hK K
          refine nm 10 (h:=?_)
          refine oN 11 (h:=fun K hK=>?_)
          refine store_step (by rfl) (by rfl) 35 (.tmp 10) (.tmp 35) (by rfl) g10 0 35 _ B10.out (by rfl) _ (by rfl) [.int .i64 97,.int .i64 0,.int .i64 1,.int .i64 0,.int .i64 0,.string ⟨#[]⟩] rfl (by kernel_rfl) (by show 0+6≤6;decide) (by simp [Value.oneCell']) #[.int .i64 97,.int .i64 0,.int .i64 1,.int .i64 0,.int .i64 0,.string ⟨#[]⟩] rfl ?_
          intro w7_ hS hg
          replace B2:=gnx B2 hg B10
          clear q2
          have q2:=cells20 B2.out
          replace B5:=gnx B5 hg B10
          clear q5
          have q5:=cells6 B5.out
          replace HB:=gb HB hg G10
          replace HB1:=gb HB1 hg GX10
          clear B10 q10 hg
          have B10:=Aside0.mk hS
          clear hS
          have q10:=cells6 B10.out
          refine hK.out _ _ q5 (fun hHeld=>?_)
          clear hK K
          refine done_ (by kernel_rfl) ?_
          clear hHeld
          go_wp2
          refine st 17 (fun w'=>w'.cell? ⟨g10,0,none⟩=some (.int .i64 97)∧w'.cell? ⟨g10,1,none⟩=some (.int .i64 0)∧w'.cell? ⟨g10,2,none⟩=some (.int .i64 1)∧w'.cell? ⟨g10,3,none⟩=some (.int .i64 0)∧w'.cell? ⟨g10,4,none⟩=some (.int .i64 0)∧w'.cell? ⟨g10,5,none⟩=some (.string ⟨#[]⟩)) [] (hS:=q10) (h:=fun hHeld=>?_)
          refine tk 0 hHeld (h:=?_)
          refine oS 1 (h:=fun K hK=>?_)
          refine gc Tryz.func36 (may97c _) (h:=?_)
          rintro e w8 ⟨rfl,hb⟩
          refine ⟨_,rfl,?_⟩
          replace B2:=kb B2 hb
          clear q2
          have q2:=cells20 B2.out
          replace B5:=kb B5 hb
          clear q5
          have q5:=cells6 B5.out
          replace B10:=kb B10 hb
          clear q10
          have q10:=cells6 B10.out
          replace HB:=bh HB hb
          replace HB1:=bh HB1 hb
          clear hb
          refine hK.out _ _ q10 (fun hHeld=>?_)
          clear hK K
          refine nm 52 (h:=?_)
          refine pu 2 (h:=?_)
          refine tk 3 hHeld (h:=?_)
          refine tk 5 hHeld (h:=?_)
          refine oS 4 (h:=fun K hK=>?_)
          refine gc Tryz.func14 (told97c _) (h:=?_)
          rintro e w8 ⟨rfl,hb⟩
          refine ⟨_,rfl,?_⟩
          replace B2:=kb B2 hb
          clear q2
          have q2:=cells20 B2.out
          replace B5:=kb B5 hb
          clear q5
          have q5:=cells6 B5.out
          replace B10:=kb B10 hb
          clear q10
          have q10:=cells6 B10.out
          replace HB:=bh HB hb
          replace HB1:=bh HB1 hb
          clear hb
          refine hK.out _ _ q10 (fun hHeld=>?_)
          clear hK K
          refine nm 55 (h:=?_)
          refine pu 6 (h:=?_)
          refine pu 7 (h:=?_)
          refine pu 8 (h:=?_)
          refine pu 11 (h:=?_)
          refine pu 12 (h:=?_)
          refine pu 13 (h:=?_)
          refine tk 9 hHeld (h:=?_)
          refine oS 10 (h:=fun K hK=>?_)
          refine goes_ Tryz.func13 (by kernel_rfl) rfl #[.int .i64 31,.agg #[.int .i64 97,.int .i64 0,.int .i64 1,.int .i64 0,.int .i64 0,.string ⟨#[]⟩]] (by rfl) rfl rfl (by simp only [List.map_toArray,List.map_cons,List.map_nil];rfl) ?_
          with_reducible refine (key97_31 _ (HPW.out.below (by first | exact HB.out | exact below_drew1 HB.out))).mono ?_
          rintro e w9 ⟨vk,rfl,hvk,hb⟩
          obtain ⟨Ak,ck,rfl,hck,hCk⟩:=Kd.R_reads (show Kd.R (Kd.int .u8) 5 w9 _ _ vk LK by rw [← HLK.out];exact hvk)
          refine ⟨_,rfl,?_⟩
          replace B2:=kb B2 hb
          clear q2
          have q2:=cells20 B2.out
          replace B5:=kb B5 hb
          clear q5
          have q5:=cells6 B5.out
          replace B10:=kb B10 hb
          clear q10
          have q10:=cells6 B10.out
          replace HB:=bh HB hb
          replace HB1:=bh HB1 hb
          have HCK:=Aside0.mk hCk
          clear hb hvk hck hCk
          refine hK.out _ _ q10 (fun hHeld=>?_)
          clear hK K
          refine nm 61 (h:=?_)
          refine oS 14 (h:=fun K hK=>?_)
          refine gc Tryz.func65 (bEqual_calls Ak A LK.length 5 ck c LK [27,91,57,55,117] true _ HCK.out (Kd.C_below HCT.out HB.out) EQF.out) (h:=?_)
          rintro e w10 ⟨rfl,hb⟩
          refine ⟨_,rfl,?_⟩
          replace B2:=kb B2 hb
          clear q2
          have q2:=cells20 B2.out
          replace B5:=kb B5 hb
          clear q5
          have q5:=cells6 B5.out
          replace B10:=kb B10 hb
          clear q10
          have q10:=cells6 B10.out
          replace HB:=bh HB hb
          replace HB1:=bh HB1 hb
          clear hb
          refine hK.out _ _ q10 (fun hHeld=>?_)
          clear hK K
          refine nm 65 (h:=?_)
          refine pu 15 (h:=?_)
          refine pu 16 (h:=?_)
          refine done_ (by kernel_rfl) ?_
          clear hHeld
          go_wp2_with (first|((with_reducible refine gate_store (t:=58) rfl ?_);refine sx 58 0 B2 (h:=?_);intro w11 hS hg;replace B5:=gnx B5 hg B2;clear q5;have q5:=cells6 B5.out;replace B10:=gnx B10 hg B2;clear q10;have q10:=cells6 B10.out;replace HB:=gb HB hg G2;clear B2 q2 hg;have B2:=hS;clear hS;have q2:=cells20 B2.out))
          refine bodyPost_ret (results_ctt rfl _ _ g2 58 _ (0,0) _ rfl B2.out Tryz.underlying58 rfl (by kernel_rfl)) rfl ?_
          exact ⟨rfl,HB.out⟩
        · skip
          refine box_step 10 (by rfl) (by rfl) (cs:=#[.int .i64 0,.int .i64 0,.int .i64 0,.int .i64 0,.int .i64 0,.string ⟨#[]⟩]) (t:=35) (by first|(go_simp;done)|(go_simp;rfl)) ?_
          intro g10 hg w7 hbox hb
          have GX10:=Aside0.mk (show w1.heap.size≤g10 by rw [hg];first | exact HB1.out.size | exact (below_drew1 HB1.out).size)
          have HBo:=HB
          replace B2:=kb B2 hb
          clear q2
          have q2:=cells20 B2.out
          replace B5:=kb B5 hb
          clear q5
          have q5:=cells6 B5.out
          replace HB:=bh HB hb
          replace HB1:=bh HB1 hb
          have B10:=Aside0.mk hbox
          have q10:=cells6 B10.out
          have G10:=Aside0.mk (show w.heap.size≤g10 by rw [hg];first | exact below_size HBo.out | exact below_size (below_drew1 HBo.out))
          clear hbox hb hg HBo
          refine hK.out _ _ q5 (fun hHeld=>?_)
          clear hK K
          refine nm 10 (h:=?_)
          refine oS 8 (h:=fun K hK=>?_)
          refine gc Tryz.func188 (part_j2 Av cv 97 0 _ (Kd.C_below HC1.out (by first | exact HB1.out | exact below_drew1 HB1.out)) (by decide)) (h:=?_)
          rintro e w6 ⟨rfl,hb⟩
          refine ⟨_,rfl,?_⟩
          replace B2:=kb B2 hb
          clear q2
          have q2:=cells20 B2.out
          replace B5:=kb B5 hb
          clear q5
          have q5:=cells6 B5.out
          replace B10:=kb B10 hb
          clear q10
          have q10:=cells6 B10.out
          replace HB:=bh HB hb
          replace HB1:=bh HB1 hb
          clear hb
          refine hK.out _ _ q5 (fun hHeld=>?_)
          clear hK K
          refine nm 34 (h:=?_)
          refine pu 9 (h:=?_)
          refine oN 11 (h:=fun K hK=>?_)
          refine store_step (by rfl) (by rfl) 35 (.tmp 10) (.tmp 35) (by rfl) g10 0 35 _ B10.out (by rfl) _ (by rfl) [.int .i64 97,.int .i64 0,.int .i64 1,.int .i64 0,.int .i64 0,.string ⟨#[]⟩] rfl (by kernel_rfl) (by show 0+6≤6;decide) (by simp [Value.oneCell']) #[.int .i64 97,.int .i64 0,.int .i64 1,.int .i64 0,.int .i64 0,.string ⟨#[]⟩] rfl ?_
          intro w7_ hS hg
          replace B2:=gnx B2 hg B10
          clear q2
          have q2:=cells20 B2.out
          replace B5:=gnx B5 hg B10
          clear q5
          have q5:=cells6 B5.out
          replace HB:=gb HB hg G10
          replace HB1:=gb HB1 hg GX10
          clear B10 q10 hg
          have B10:=Aside0.mk hS
          clear hS
          have q10:=cells6 B10.out
          refine hK.out _ _ q5 (fun hHeld=>?_)
          clear hK K
          refine done_ (by kernel_rfl) ?_
          clear hHeld
          go_wp2
          refine st 17 (fun w'=>w'.cell? ⟨g10,0,none⟩=some (.int .i64 97)∧w'.cell? ⟨g10,1,none⟩=some (.int .i64 0)∧w'.cell? ⟨g10,2,none⟩=some (.int .i64 1)∧w'.cell? ⟨g10,3,none⟩=some (.int .i64 0)∧w'.cell? ⟨g10,4,none⟩=some (.int .i64 0)∧w'.cell? ⟨g10,5,none⟩=some (.string ⟨#[]⟩)) [] (hS:=q10) (h:=fun hHeld=>?_)
          refine tk 0 hHeld (h:=?_)
          refine oS 1 (h:=fun K hK=>?_)
          refine gc Tryz.func36 (may97c _) (h:=?_)
          rintro e w8 ⟨rfl,hb⟩
          refine ⟨_,rfl,?_⟩
          replace B2:=kb B2 hb
          clear q2
          have q2:=cells20 B2.out
          replace B5:=kb B5 hb
          clear q5
          have q5:=cells6 B5.out
          replace B10:=kb B10 hb
          clear q10
          have q10:=cells6 B10.out
          replace HB:=bh HB hb
          replace HB1:=bh HB1 hb
          clear hb
          refine hK.out _ _ q10 (fun hHeld=>?_)
          clear hK K
          refine nm 52 (h:=?_)
          refine pu 2 (h:=?_)
          refine tk 3 hHeld (h:=?_)
          refine tk 5 hHeld (h:=?_)
          refine oS 4 (h:=fun K hK=>?_)
          refine gc Tryz.func14 (told97c _) (h:=?_)
          rintro e w8 ⟨rfl,hb⟩
          refine ⟨_,rfl,?_⟩
          replace B2:=kb B2 hb
          clear q2
          have q2:=cells20 B2.out
          replace B5:=kb B5 hb
          clear q5
          have q5:=cells6 B5.out
          replace B10:=kb B10 hb
          clear q10
          have q10:=cells6 B10.out
          replace HB:=bh HB hb
          replace HB1:=bh HB1 hb
          clear hb
          refine hK.out _ _ q10 (fun hHeld=>?_)
          clear hK K
          refine nm 55 (h:=?_)
          refine pu 6 (h:=?_)
          refine pu 7 (h:=?_)
          refine pu 8 (h:=?_)
          refine pu 11 (h:=?_)
          refine pu 12 (h:=?_)
          refine pu 13 (h:=?_)
          refine tk 9 hHeld (h:=?_)
          refine oS 10 (h:=fun K hK=>?_)
          refine goes_ Tryz.func13 (by kernel_rfl) rfl #[.int .i64 31,.agg #[.int .i64 97,.int .i64 0,.int .i64 1,.int .i64 0,.int .i64 0,.string ⟨#[]⟩]] (by rfl) rfl rfl (by simp only [List.map_toArray,List.map_cons,List.map_nil];rfl) ?_
          with_reducible refine (key97_31 _ (HPW.out.below (by first | exact HB.out | exact below_drew1 HB.out))).mono ?_
          rintro e w9 ⟨vk,rfl,hvk,hb⟩
          obtain ⟨Ak,ck,rfl,hck,hCk⟩:=Kd.R_reads (show Kd.R (Kd.int .u8) 5 w9 _ _ vk LK by rw [← HLK.out];exact hvk)
          refine ⟨_,rfl,?_⟩
          replace B2:=kb B2 hb
          clear q2
          have q2:=cells20 B2.out
          replace B5:=kb B5 hb
          clear q5
          have q5:=cells6 B5.out
          replace B10:=kb B10 hb
          clear q10
          have q10:=cells6 B10.out
          replace HB:=bh HB hb
          replace HB1:=bh HB1 hb
          have HCK:=Aside0.mk hCk
          clear hb hvk hck hCk
          refine hK.out _ _ q10 (fun hHeld=>?_)
          clear hK K
          refine nm 61 (h:=?_)
          refine oS 14 (h:=fun K hK=>?_)
          refine gc Tryz.func65 (bEqual_calls Ak A LK.length 5 ck c LK [27,91,57,55,117] true _ HCK.out (Kd.C_below HCT.out HB.out) EQF.out) (h:=?_)
          rintro e w10 ⟨rfl,hb⟩
          refine ⟨_,rfl,?_⟩
          replace B2:=kb B2 hb
          clear q2
          have q2:=cells20 B2.out
          replace B5:=kb B5 hb
          clear q5
          have q5:=cells6 B5.out
          replace B10:=kb B10 hb
          clear q10
          have q10:=cells6 B10.out
          replace HB:=bh HB hb
          replace HB1:=bh HB1 hb
          clear hb
          refine hK.out _ _ q10 (fun hHeld=>?_)
          clear hK K
          refine nm 65 (h:=?_)
          refine pu 15 (h:=?_)
          refine pu 16 (h:=?_)
          refine done_ (by kernel_rfl) ?_
          clear hHeld
          go_wp2_with (first|((with_reducible refine gate_store (t:=58) rfl ?_);refine sx 58 0 B2 (h:=?_);intro w11 hS hg;replace B5:=gnx B5 hg B2;clear q5;have q5:=cells6 B5.out;replace B10:=gnx B10 hg B2;clear q10;have q10:=cells6 B10.out;replace HB:=gb HB hg G2;clear B2 q2 hg;have B2:=hS;clear hS;have q2:=cells20 B2.out))
          refine bodyPost_ret (results_ctt rfl _ _ g2 58 _ (0,0) _ rfl B2.out Tryz.underlying58 rfl (by kernel_rfl)) rfl ?_
          exact ⟨rfl,HB.out⟩
      · skip
        refine box_step 10 (by rfl) (by rfl) (cs:=#[.int .i64 0,.int .i64 0,.int .i64 0,.int .i64 0,.int .i64 0,.string ⟨#[]⟩]) (t:=35) (by first|(go_simp;done)|(go_simp;rfl)) ?_
        intro g10 hg w7 hbox hb
        have GX10:=Aside0.mk (show w1.heap.size≤g10 by rw [hg];first | exact HB1.out.size | exact (below_drew1 HB1.out).size)
        have HBo:=HB
        replace B2:=kb B2 hb
        clear q2
        have q2:=cells20 B2.out
        replace B5:=kb B5 hb
        clear q5
        have q5:=cells6 B5.out
        replace HB:=bh HB hb
        replace HB1:=bh HB1 hb
        have B10:=Aside0.mk hbox
        have q10:=cells6 B10.out
        have G10:=Aside0.mk (show w.heap.size≤g10 by rw [hg];first | exact below_size HBo.out | exact below_size (below_drew1 HBo.out))
        clear hbox hb hg HBo
        refine hK.out _ _ q5 (fun hHeld=>?_)
        clear hK K
        refine nm 10 (h:=?_)
        refine oS 6 (h:=fun K hK=>?_)
        refine gc Tryz.func188 (part_j1 Av cv 97 0 _ (Kd.C_below HC1.out (by first | exact HB1.out | exact below_drew1 HB1.out)) (by decide)) (h:=?_)
        rintro e w6 ⟨rfl,hb⟩
        refine ⟨_,rfl,?_⟩
        replace B2:=kb B2 hb
        clear q2
        have q2:=cells20 B2.out
        replace B5:=kb B5 hb
        clear q5
        have q5:=cells6 B5.out
        replace B10:=kb B10 hb
        clear q10
        have q10:=cells6 B10.out
        replace HB:=bh HB hb
        replace HB1:=bh HB1 hb
        clear hb
        refine hK.out _ _ q5 (fun hHeld=>?_)
        clear hK K
        refine nm 32 (h:=?_)
        refine oS 8 (h:=fun K hK=>?_)
        refine gc Tryz.func188 (part_j2 Av cv 97 0 _ (Kd.C_below HC1.out (by first | exact HB1.out | exact below_drew1 HB1.out)) (by decide)) (h:=?_)
        rintro e w6 ⟨rfl,hb⟩
        refine ⟨_,rfl,?_⟩
        replace B2:=kb B2 hb
        clear q2
        have q2:=cells20 B2.out
        replace B5:=kb B5 hb
        clear q5
        have q5:=cells6 B5.out
        replace B10:=kb B10 hb
        clear q10
        have q10:=cells6 B10.out
        replace HB:=bh HB hb
        replace HB1:=bh HB1 hb
        clear hb
        refine hK.out _ _ q5 (fun hHeld=>?_)
        clear hK K
        refine nm 34 (h:=?_)
        refine pu 9 (h:=?_)
        refine oN 11 (h:=fun K hK=>?_)
        refine store_step (by rfl) (by rfl) 35 (.tmp 10) (.tmp 35) (by rfl) g10 0 35 _ B10.out (by rfl) _ (by rfl) [.int .i64 97,.int .i64 0,.int .i64 1,.int .i64 0,.int .i64 0,.string ⟨#[]⟩] rfl (by kernel_rfl) (by show 0+6≤6;decide) (by simp [Value.oneCell']) #[.int .i64 97,.int .i64 0,.int .i64 1,.int .i64 0,.int .i64 0,.string ⟨#[]⟩] rfl ?_
        intro w7_ hS hg
        replace B2:=gnx B2 hg B10
        clear q2
        have q2:=cells20 B2.out
        replace B5:=gnx B5 hg B10
        clear q5
        have q5:=cells6 B5.out
        replace HB:=gb HB hg G10
        replace HB1:=gb HB1 hg GX10
        clear B10 q10 hg
        have B10:=Aside0.mk hS
        clear hS
        have q10:=cells6 B10.out
        refine hK.out _ _ q5 (fun hHeld=>?_)
        clear hK K
        refine done_ (by kernel_rfl) ?_
        clear hHeld
        go_wp2
        refine st 17 (fun w'=>w'.cell? ⟨g10,0,none⟩=some (.int .i64 97)∧w'.cell? ⟨g10,1,none⟩=some (.int .i64 0)∧w'.cell? ⟨g10,2,none⟩=some (.int .i64 1)∧w'.cell? ⟨g10,3,none⟩=some (.int .i64 0)∧w'.cell? ⟨g10,4,none⟩=some (.int .i64 0)∧w'.cell? ⟨g10,5,none⟩=some (.string ⟨#[]⟩)) [] (hS:=q10) (h:=fun hHeld=>?_)
        refine tk 0 hHeld (h:=?_)
        refine oS 1 (h:=fun K hK=>?_)
        refine gc Tryz.func36 (may97c _) (h:=?_)
        rintro e w8 ⟨rfl,hb⟩
        refine ⟨_,rfl,?_⟩
        replace B2:=kb B2 hb
        clear q2
        have q2:=cells20 B2.out
        replace B5:=kb B5 hb
        clear q5
        have q5:=cells6 B5.out
        replace B10:=kb B10 hb
        clear q10
        have q10:=cells6 B10.out
        replace HB:=bh HB hb
        replace HB1:=bh HB1 hb
        clear hb
        refine hK.out _ _ q10 (fun hHeld=>?_)
        clear hK K
        refine nm 52 (h:=?_)
        refine pu 2 (h:=?_)
        refine tk 3 hHeld (h:=?_)
        refine tk 5 hHeld (h:=?_)
        refine oS 4 (h:=fun K hK=>?_)
        refine gc Tryz.func14 (told97c _) (h:=?_)
        rintro e w8 ⟨rfl,hb⟩
        refine ⟨_,rfl,?_⟩
        replace B2:=kb B2 hb
        clear q2
        have q2:=cells20 B2.out
        replace B5:=kb B5 hb
        clear q5
        have q5:=cells6 B5.out
        replace B10:=kb B10 hb
        clear q10
        have q10:=cells6 B10.out
        replace HB:=bh HB hb
        replace HB1:=bh HB1 hb
        clear hb
        refine hK.out _ _ q10 (fun hHeld=>?_)
        clear hK K
        refine nm 55 (h:=?_)
        refine pu 6 (h:=?_)
        refine pu 7 (h:=?_)
        refine pu 8 (h:=?_)
        refine pu 11 (h:=?_)
        refine pu 12 (h:=?_)
        refine pu 13 (h:=?_)
        refine tk 9 hHeld (h:=?_)
        refine oS 10 (h:=fun K hK=>?_)
        refine goes_ Tryz.func13 (by kernel_rfl) rfl #[.int .i64 31,.agg #[.int .i64 97,.int .i64 0,.int .i64 1,.int .i64 0,.int .i64 0,.string ⟨#[]⟩]] (by rfl) rfl rfl (by simp only [List.map_toArray,List.map_cons,List.map_nil];rfl) ?_
        with_reducible refine (key97_31 _ (HPW.out.below (by first | exact HB.out | exact below_drew1 HB.out))).mono ?_
        rintro e w9 ⟨vk,rfl,hvk,hb⟩
        obtain ⟨Ak,ck,rfl,hck,hCk⟩:=Kd.R_reads (show Kd.R (Kd.int .u8) 5 w9 _ _ vk LK by rw [← HLK.out];exact hvk)
        refine ⟨_,rfl,?_⟩
        replace B2:=kb B2 hb
        clear q2
        have q2:=cells20 B2.out
        replace B5:=kb B5 hb
        clear q5
        have q5:=cells6 B5.out
        replace B10:=kb B10 hb
        clear q10
        have q10:=cells6 B10.out
        replace HB:=bh HB hb
        replace HB1:=bh HB1 hb
        have HCK:=Aside0.mk hCk
        clear hb hvk hck hCk
        refine hK.out _ _ q10 (fun hHeld=>?_)
        clear hK K
        refine nm 61 (h:=?_)
        refine oS 14 (h:=fun K hK=>?_)
        refine gc Tryz.func65 (bEqual_calls Ak A LK.length 5 ck c LK [27,91,57,55,117] true _ HCK.out (Kd.C_below HCT.out HB.out) EQF.out) (h:=?_)
        rintro e w10 ⟨rfl,hb⟩
        refine ⟨_,rfl,?_⟩
        replace B2:=kb B2 hb
        clear q2
        have q2:=cells20 B2.out
        replace B5:=kb B5 hb
        clear q5
        have q5:=cells6 B5.out
        replace B10:=kb B10 hb
        clear q10
        have q10:=cells6 B10.out
        replace HB:=bh HB hb
        replace HB1:=bh HB1 hb
        clear hb
        refine hK.out _ _ q10 (fun hHeld=>?_)
        clear hK K
        refine nm 65 (h:=?_)
        refine pu 15 (h:=?_)
        refine pu 16 (h:=?_)
        refine done_ (by kernel_rfl) ?_
        clear hHeld
        go_wp2_with (first|((with_reducible refine gate_store (t:=58) rfl ?_);refine sx 58 0 B2 (h:=?_);intro w11 hS hg;replace B5:=gnx B5 hg B2;clear q5;have q5:=cells6 B5.out;replace B10:=gnx B10 hg B2;clear q10;have q10:=cells6 B10.out;replace HB:=gb HB hg G2;clear B2 q2 hg;have B2:=hS;clear hS;have q2:=cells20 B2.out))
        refine bodyPost_ret (results_ctt rfl _ _ g2 58 _ (0,0) _ rfl B2.out Tryz.underlying58 rfl (by kernel_rfl)) rfl ?_
        exact ⟨rfl,HB.out⟩
    · skip
      refine box_step 10 (by rfl) (by rfl) (cs:=#[.int .i64 0,.int .i64 0,.int .i64 0,.int .i64 0,.int .i64 0,.string ⟨#[]⟩]) (t:=35) (by first|(go_simp;done)|(go_simp;rfl)) ?_
      intro g10 hg w7 hbox hb
      have GX10:=Aside0.mk (show w1.heap.size≤g10 by rw [hg];first | exact HB1.out.size | exact (below_drew1 HB1.out).size)
      have HBo:=HB
      replace B2:=kb B2 hb
      clear q2
      have q2:=cells20 B2.out
      replace B5:=kb B5 hb
      clear q5
      have q5:=cells6 B5.out
      replace HB:=bh HB hb
      replace HB1:=bh HB1 hb
      have B10:=Aside0.mk hbox
      have q10:=cells6 B10.out
      have G10:=Aside0.mk (show w.heap.size≤g10 by rw [hg];first | exact below_size HBo.out | exact below_size (below_drew1 HBo.out))
      clear hbox hb hg HBo
      refine hK.out _ _ q5 (fun hHeld=>?_)
      clear hK K
      refine nm 10 (h:=?_)
      refine oS 4 (h:=fun K hK=>?_)
      refine gc Tryz.func188 (part_i Av cv 1 1 _) (h:=?_)
      rintro e w6 ⟨rfl,hb⟩
      refine ⟨_,rfl,?_⟩
      replace B2:=kb B2 hb
      clear q2
      have q2:=cells20 B2.out
      replace B5:=kb B5 hb
      clear q5
      have q5:=cells6 B5.out
      replace B10:=kb B10 hb
      clear q10
      have q10:=cells6 B10.out
      replace HB:=bh HB hb
      replace HB1:=bh HB1 hb
      clear hb
      refine hK.out _ _ q5 (fun hHeld=>?_)
      clear hK K
      refine nm 30 (h:=?_)
      refine oS 6 (h:=fun K hK=>?_)
      refine gc Tryz.func188 (part_j1 Av cv 97 0 _ (Kd.C_below HC1.out (by first | exact HB1.out | exact below_drew1 HB1.out)) (by decide)) (h:=?_)
      rintro e w6 ⟨rfl,hb⟩
      refine ⟨_,rfl,?_⟩
      replace B2:=kb B2 hb
      clear q2
      have q2:=cells20 B2.out
      replace B5:=kb B5 hb
      clear q5
      have q5:=cells6 B5.out
      replace B10:=kb B10 hb
      clear q10
      have q10:=cells6 B10.out
      replace HB:=bh HB hb
      replace HB1:=bh HB1 hb
      clear hb
      refine hK.out _ _ q5 (fun hHeld=>?_)
      clear hK K
      refine nm 32 (h:=?_)
      refine oS 8 (h:=fun K hK=>?_)
      refine gc Tryz.func188 (part_j2 Av cv 97 0 _ (Kd.C_below HC1.out (by first | exact HB1.out | exact below_drew1 HB1.out)) (by decide)) (h:=?_)
      rintro e w6 ⟨rfl,hb⟩
      refine ⟨_,rfl,?_⟩
      replace B2:=kb B2 hb
      clear q2
      have q2:=cells20 B2.out
      replace B5:=kb B5 hb
      clear q5
      have q5:=cells6 B5.out
      replace B10:=kb B10 hb
      clear q10
      have q10:=cells6 B10.out
      replace HB:=bh HB hb
      replace HB1:=bh HB1 hb
      clear hb
      refine hK.out _ _ q5 (fun hHeld=>?_)
      clear hK K
      refine nm 34 (h:=?_)
      refine pu 9 (h:=?_)
      refine oN 11 (h:=fun K hK=>?_)
      refine store_step (by rfl) (by rfl) 35 (.tmp 10) (.tmp 35) (by rfl) g10 0 35 _ B10.out (by rfl) _ (by rfl) [.int .i64 97,.int .i64 0,.int .i64 1,.int .i64 0,.int .i64 0,.string ⟨#[]⟩] rfl (by kernel_rfl) (by show 0+6≤6;decide) (by simp [Value.oneCell']) #[.int .i64 97,.int .i64 0,.int .i64 1,.int .i64 0,.int .i64 0,.string ⟨#[]⟩] rfl ?_
      intro w7_ hS hg
      replace B2:=gnx B2 hg B10
      clear q2
      have q2:=cells20 B2.out
      replace B5:=gnx B5 hg B10
      clear q5
      have q5:=cells6 B5.out
      replace HB:=gb HB hg G10
      replace HB1:=gb HB1 hg GX10
      clear B10 q10 hg
      have B10:=Aside0.mk hS
      clear hS
      have q10:=cells6 B10.out
      refine hK.out _ _ q5 (fun hHeld=>?_)
      clear hK K
      refine done_ (by kernel_rfl) ?_
      clear hHeld
      go_wp2
      refine st 17 (fun w'=>w'.cell? ⟨g10,0,none⟩=some (.int .i64 97)∧w'.cell? ⟨g10,1,none⟩=some (.int .i64 0)∧w'.cell? ⟨g10,2,none⟩=some (.int .i64 1)∧w'.cell? ⟨g10,3,none⟩=some (.int .i64 0)∧w'.cell? ⟨g10,4,none⟩=some (.int .i64 0)∧w'.cell? ⟨g10,5,none⟩=some (.string ⟨#[]⟩)) [] (hS:=q10) (h:=fun hHeld=>?_)
      refine tk 0 hHeld (h:=?_)
      refine oS 1 (h:=fun K hK=>?_)
      refine gc Tryz.func36 (may97c _) (h:=?_)
      rintro e w8 ⟨rfl,hb⟩
      refine ⟨_,rfl,?_⟩
      replace B2:=kb B2 hb
      clear q2
      have q2:=cells20 B2.out
      replace B5:=kb B5 hb
      clear q5
      have q5:=cells6 B5.out
      replace B10:=kb B10 hb
      clear q10
      have q10:=cells6 B10.out
      replace HB:=bh HB hb
      replace HB1:=bh HB1 hb
      clear hb
      refine hK.out _ _ q10 (fun hHeld=>?_)
      clear hK K
      refine nm 52 (h:=?_)
      refine pu 2 (h:=?_)
      refine tk 3 hHeld (h:=?_)
      refine tk 5 hHeld (h:=?_)
      refine oS 4 (h:=fun K hK=>?_)
      refine gc Tryz.func14 (told97c _) (h:=?_)
      rintro e w8 ⟨rfl,hb⟩
      refine ⟨_,rfl,?_⟩
      replace B2:=kb B2 hb
      clear q2
      have q2:=cells20 B2.out
      replace B5:=kb B5 hb
      clear q5
      have q5:=cells6 B5.out
      replace B10:=kb B10 hb
      clear q10
      have q10:=cells6 B10.out
      replace HB:=bh HB hb
      replace HB1:=bh HB1 hb
      clear hb
      refine hK.out _ _ q10 (fun hHeld=>?_)
      clear hK K
      refine nm 55 (h:=?_)
      refine pu 6 (h:=?_)
      refine pu 7 (h:=?_)
      refine pu 8 (h:=?_)
      refine pu 11 (h:=?_)
      refine pu 12 (h:=?_)
      refine pu 13 (h:=?_)
      refine tk 9 hHeld (h:=?_)
      refine oS 10 (h:=fun K hK=>?_)
      refine goes_ Tryz.func13 (by kernel_rfl) rfl #[.int .i64 31,.agg #[.int .i64 97,.int .i64 0,.int .i64 1,.int .i64 0,.int .i64 0,.string ⟨#[]⟩]] (by rfl) rfl rfl (by simp only [List.map_toArray,List.map_cons,List.map_nil];rfl) ?_
      with_reducible refine (key97_31 _ (HPW.out.below (by first | exact HB.out | exact below_drew1 HB.out))).mono ?_
      rintro e w9 ⟨vk,rfl,hvk,hb⟩
      obtain ⟨Ak,ck,rfl,hck,hCk⟩:=Kd.R_reads (show Kd.R (Kd.int .u8) 5 w9 _ _ vk LK by rw [← HLK.out];exact hvk)
      refine ⟨_,rfl,?_⟩
      replace B2:=kb B2 hb
      clear q2
      have q2:=cells20 B2.out
      replace B5:=kb B5 hb
      clear q5
      have q5:=cells6 B5.out
      replace B10:=kb B10 hb
      clear q10
      have q10:=cells6 B10.out
      replace HB:=bh HB hb
      replace HB1:=bh HB1 hb
      have HCK:=Aside0.mk hCk
      clear hb hvk hck hCk
      refine hK.out _ _ q10 (fun hHeld=>?_)
      clear hK K
      refine nm 61 (h:=?_)
      refine oS 14 (h:=fun K hK=>?_)
      refine gc Tryz.func65 (bEqual_calls Ak A LK.length 5 ck c LK [27,91,57,55,117] true _ HCK.out (Kd.C_below HCT.out HB.out) EQF.out) (h:=?_)
      rintro e w10 ⟨rfl,hb⟩
      refine ⟨_,rfl,?_⟩
      replace B2:=kb B2 hb
      clear q2
      have q2:=cells20 B2.out
      replace B5:=kb B5 hb
      clear q5
      have q5:=cells6 B5.out
      replace B10:=kb B10 hb
      clear q10
      have q10:=cells6 B10.out
      replace HB:=bh HB hb
      replace HB1:=bh HB1 hb
      clear hb
      refine hK.out _ _ q10 (fun hHeld=>?_)
      clear hK K
      refine nm 65 (h:=?_)
      refine pu 15 (h:=?_)
      refine pu 16 (h:=?_)
      refine done_ (by kernel_rfl) ?_
      clear hHeld
      go_wp2_with (first|((with_reducible refine gate_store (t:=58) rfl ?_);refine sx 58 0 B2 (h:=?_);intro w11 hS hg;replace B5:=gnx B5 hg B2;clear q5;have q5:=cells6 B5.out;replace B10:=gnx B10 hg B2;clear q10;have q10:=cells6 B10.out;replace HB:=gb HB hg G2;clear B2 q2 hg;have B2:=hS;clear hS;have q2:=cells20 B2.out))
      refine bodyPost_ret (results_ctt rfl _ _ g2 58 _ (0,0) _ rfl B2.out Tryz.underlying58 rfl (by kernel_rfl)) rfl ?_
      exact ⟨rfl,HB.out⟩
  · skip
    refine box_step 10 (by rfl) (by rfl) (cs:=#[.int .i64 0,.int .i64 0,.int .i64 0,.int .i64 0,.int .i64 0,.string ⟨#[]⟩]) (t:=35) (by first|(go_simp;done)|(go_simp;rfl)) ?_
    intro g10 hg w7 hbox hb
    have GX10:=Aside0.mk (show w1.heap.size≤g10 by rw [hg];first | exact HB1.out.size | exact (below_drew1 HB1.out).size)
    have HBo:=HB
    replace B2:=kb B2 hb
    clear q2
    have q2:=cells20 B2.out
    replace B5:=kb B5 hb
    clear q5
    have q5:=cells6 B5.out
    replace HB:=bh HB hb
    replace HB1:=bh HB1 hb
    have B10:=Aside0.mk hbox
    have q10:=cells6 B10.out
    have G10:=Aside0.mk (show w.heap.size≤g10 by rw [hg];first | exact below_size HBo.out | exact below_size (below_drew1 HBo.out))
    clear hbox hb hg HBo
    refine hK.out _ _ q5 (fun hHeld=>?_)
    clear hK K
    refine nm 10 (h:=?_)
    refine oS 1 (h:=fun K hK=>?_)
    refine gc Tryz.func189 (code_calls Av cv 97 _ (Kd.C_below HC1.out (by first | exact HB1.out | exact below_drew1 HB1.out)) (by decide)) (h:=?_)
    rintro e w6 ⟨rfl,hb⟩
    refine ⟨_,rfl,?_⟩
    replace B2:=kb B2 hb
    clear q2
    have q2:=cells20 B2.out
    replace B5:=kb B5 hb
    clear q5
    have q5:=cells6 B5.out
    replace B10:=kb B10 hb
    clear q10
    have q10:=cells6 B10.out
    replace HB:=bh HB hb
    replace HB1:=bh HB1 hb
    clear hb
    refine hK.out _ _ q5 (fun hHeld=>?_)
    clear hK K
    refine nm 27 (h:=?_)
    refine oS 4 (h:=fun K hK=>?_)
    refine gc Tryz.func188 (part_i Av cv 1 1 _) (h:=?_)
    rintro e w6 ⟨rfl,hb⟩
    refine ⟨_,rfl,?_⟩
    replace B2:=kb B2 hb
    clear q2
    have q2:=cells20 B2.out
    replace B5:=kb B5 hb
    clear q5
    have q5:=cells6 B5.out
    replace B10:=kb B10 hb
    clear q10
    have q10:=cells6 B10.out
    replace HB:=bh HB hb
    replace HB1:=bh HB1 hb
    clear hb
    refine hK.out _ _ q5 (fun hHeld=>?_)
    clear hK K
    refine nm 30 (h:=?_)
    refine oS 6 (h:=fun K hK=>?_)
    refine gc Tryz.func188 (part_j1 Av cv 97 0 _ (Kd.C_below HC1.out (by first | exact HB1.out | exact below_drew1 HB1.out)) (by decide)) (h:=?_)
    rintro e w6 ⟨rfl,hb⟩
    refine ⟨_,rfl,?_⟩
    replace B2:=kb B2 hb
    clear q2
    have q2:=cells20 B2.out
    replace B5:=kb B5 hb
    clear q5
    have q5:=cells6 B5.out
    replace B10:=kb B10 hb
    clear q10
    have q10:=cells6 B10.out
    replace HB:=bh HB hb
    replace HB1:=bh HB1 hb
    clear hb
    refine hK.out _ _ q5 (fun hHeld=>?_)
    clear hK K
    refine nm 32 (h:=?_)
    refine oS 8 (h:=fun K hK=>?_)
    refine gc Tryz.func188 (part_j2 Av cv 97 0 _ (Kd.C_below HC1.out (by first | exact HB1.out | exact below_drew1 HB1.out)) (by decide)) (h:=?_)
    rintro e w6 ⟨rfl,hb⟩
    refine ⟨_,rfl,?_⟩
    replace B2:=kb B2 hb
    clear q2
    have q2:=cells20 B2.out
    replace B5:=kb B5 hb
    clear q5
    have q5:=cells6 B5.out
    replace B10:=kb B10 hb
    clear q10
    have q10:=cells6 B10.out
    replace HB:=bh HB hb
    replace HB1:=bh HB1 hb
    clear hb
    refine hK.out _ _ q5 (fun hHeld=>?_)
    clear hK K
    refine nm 34 (h:=?_)
    refine pu 9 (h:=?_)
    refine oN 11 (h:=fun K hK=>?_)
    refine store_step (by rfl) (by rfl) 35 (.tmp 10) (.tmp 35) (by rfl) g10 0 35 _ B10.out (by rfl) _ (by rfl) [.int .i64 97,.int .i64 0,.int .i64 1,.int .i64 0,.int .i64 0,.string ⟨#[]⟩] rfl (by kernel_rfl) (by show 0+6≤6;decide) (by simp [Value.oneCell']) #[.int .i64 97,.int .i64 0,.int .i64 1,.int .i64 0,.int .i64 0,.string ⟨#[]⟩] rfl ?_
    intro w7_ hS hg
    replace B2:=gnx B2 hg B10
    clear q2
    have q2:=cells20 B2.out
    replace B5:=gnx B5 hg B10
    clear q5
    have q5:=cells6 B5.out
    replace HB:=gb HB hg G10
    replace HB1:=gb HB1 hg GX10
    clear B10 q10 hg
    have B10:=Aside0.mk hS
    clear hS
    have q10:=cells6 B10.out
    refine hK.out _ _ q5 (fun hHeld=>?_)
    clear hK K
    refine done_ (by kernel_rfl) ?_
    clear hHeld
    go_wp2
    refine st 17 (fun w'=>w'.cell? ⟨g10,0,none⟩=some (.int .i64 97)∧w'.cell? ⟨g10,1,none⟩=some (.int .i64 0)∧w'.cell? ⟨g10,2,none⟩=some (.int .i64 1)∧w'.cell? ⟨g10,3,none⟩=some (.int .i64 0)∧w'.cell? ⟨g10,4,none⟩=some (.int .i64 0)∧w'.cell? ⟨g10,5,none⟩=some (.string ⟨#[]⟩)) [] (hS:=q10) (h:=fun hHeld=>?_)
    refine tk 0 hHeld (h:=?_)
    refine oS 1 (h:=fun K hK=>?_)
    refine gc Tryz.func36 (may97c _) (h:=?_)
    rintro e w8 ⟨rfl,hb⟩
    refine ⟨_,rfl,?_⟩
    replace B2:=kb B2 hb
    clear q2
    have q2:=cells20 B2.out
    replace B5:=kb B5 hb
    clear q5
    have q5:=cells6 B5.out
    replace B10:=kb B10 hb
    clear q10
    have q10:=cells6 B10.out
    replace HB:=bh HB hb
    replace HB1:=bh HB1 hb
    clear hb
    refine hK.out _ _ q10 (fun hHeld=>?_)
    clear hK K
    refine nm 52 (h:=?_)
    refine pu 2 (h:=?_)
    refine tk 3 hHeld (h:=?_)
    refine tk 5 hHeld (h:=?_)
    refine oS 4 (h:=fun K hK=>?_)
    refine gc Tryz.func14 (told97c _) (h:=?_)
    rintro e w8 ⟨rfl,hb⟩
    refine ⟨_,rfl,?_⟩
    replace B2:=kb B2 hb
    clear q2
    have q2:=cells20 B2.out
    replace B5:=kb B5 hb
    clear q5
    have q5:=cells6 B5.out
    replace B10:=kb B10 hb
    clear q10
    have q10:=cells6 B10.out
    replace HB:=bh HB hb
    replace HB1:=bh HB1 hb
    clear hb
    refine hK.out _ _ q10 (fun hHeld=>?_)
    clear hK K
    refine nm 55 (h:=?_)
    refine pu 6 (h:=?_)
    refine pu 7 (h:=?_)
    refine pu 8 (h:=?_)
    refine pu 11 (h:=?_)
    refine pu 12 (h:=?_)
    refine pu 13 (h:=?_)
    refine tk 9 hHeld (h:=?_)
    refine oS 10 (h:=fun K hK=>?_)
    refine goes_ Tryz.func13 (by kernel_rfl) rfl #[.int .i64 31,.agg #[.int .i64 97,.int .i64 0,.int .i64 1,.int .i64 0,.int .i64 0,.string ⟨#[]⟩]] (by rfl) rfl rfl (by simp only [List.map_toArray,List.map_cons,List.map_nil];rfl) ?_
    with_reducible refine (key97_31 _ (HPW.out.below (by first | exact HB.out | exact below_drew1 HB.out))).mono ?_
    rintro e w9 ⟨vk,rfl,hvk,hb⟩
    obtain ⟨Ak,ck,rfl,hck,hCk⟩:=Kd.R_reads (show Kd.R (Kd.int .u8) 5 w9 _ _ vk LK by rw [← HLK.out];exact hvk)
    refine ⟨_,rfl,?_⟩
    replace B2:=kb B2 hb
    clear q2
    have q2:=cells20 B2.out
    replace B5:=kb B5 hb
    clear q5
    have q5:=cells6 B5.out
    replace B10:=kb B10 hb
    clear q10
    have q10:=cells6 B10.out
    replace HB:=bh HB hb
    replace HB1:=bh HB1 hb
    have HCK:=Aside0.mk hCk
    clear hb hvk hck hCk
    refine hK.out _ _ q10 (fun hHeld=>?_)
    clear hK K
    refine nm 61 (h:=?_)
    refine oS 14 (h:=fun K hK=>?_)
    refine gc Tryz.func65 (bEqual_calls Ak A LK.length 5 ck c LK [27,91,57,55,117] true _ HCK.out (Kd.C_below HCT.out HB.out) EQF.out) (h:=?_)
    rintro e w10 ⟨rfl,hb⟩
    refine ⟨_,rfl,?_⟩
    replace B2:=kb B2 hb
    clear q2
    have q2:=cells20 B2.out
    replace B5:=kb B5 hb
    clear q5
    have q5:=cells6 B5.out
    replace B10:=kb B10 hb
    clear q10
    have q10:=cells6 B10.out
    replace HB:=bh HB hb
    replace HB1:=bh HB1 hb
    clear hb
    refine hK.out _ _ q10 (fun hHeld=>?_)
    clear hK K
    refine nm 65 (h:=?_)
    refine pu 15 (h:=?_)
    refine pu 16 (h:=?_)
    refine done_ (by kernel_rfl) ?_
    clear hHeld
    go_wp2_with (first|((with_reducible refine gate_store (t:=58) rfl ?_);refine sx 58 0 B2 (h:=?_);intro w11 hS hg;replace B5:=gnx B5 hg B2;clear q5;have q5:=cells6 B5.out;replace B10:=gnx B10 hg B2;clear q10;have q10:=cells6 B10.out;replace HB:=gb HB hg G2;clear B2 q2 hg;have B2:=hS;clear hS;have q2:=cells20 B2.out))
    refine bodyPost_ret (results_ctt rfl _ _ g2 58 _ (0,0) _ rfl B2.out Tryz.underlying58 rfl (by kernel_rfl)) rfl ?_
    exact ⟨rfl,HB.out⟩
end Go.Proofs.YthjacokachgmfaaGreatDoor.H
end
