import Derived.DeepKeys5
import Derived.WideKeyMaps
import Derived.Test.YthjacokachgmfaaGreatDoorT04
import Derived.Test.YthjacokachgmfaaGreatDoorT07
import Derived.Test.YthjacokachgmfaaGreatDoorT25
import Derived.Test.YthjacokachgmfaaGreatDoorT26
import Derived.Test.YthjacokachgmfaaGreatDoorT30
import Derived.Test.YthjacokachgmfaaGreatDoorT35
set_option linter.unusedVariables false
set_option linter.unusedSimpArgs false
section
namespace Go.Proofs.YthjacokachgmfaaGreatDoor.H
open Go Go.RowKit YthjacokachgmfaaGreatDoorW.PrintWords YthjacokachgmfaaGreatDoorW.PrintLast YthjacokachgmfaaGreatDoorW.PrintMore
open Ev
open YthjacokachgmfaaGreatDoor.G
set_option maxRecDepth 100000
theorem clone0 (w:World):Calls Tryz.prog 251 #[.slice none 0 0] w fun e w'=>e=.returned (.slice none 0 0)∧Below w.heap.size w w':=(clone_nil 0 w).mono (fun e w' h=>⟨h.1,h.2 ▸ Below.refl _ _⟩)
theorem cut0 (A:Option Addr) (c:Nat):∃ A1 c1,∀ W:World,(Instr.slice 66 (.slice A 1 c) (some (.int .i64 0)) none none).run Tryz.prog W=.ok (.slice A1 1 c1) W:=by
  obtain ⟨i0,hi0,_,hsz,_⟩:=info_parts info3
  exact ⟨_,_,cut_from (P:=Tryz.prog) 66 3 .i64 Tryz.underlying66 hi0 1 hsz A 1 c 0 (by decide) (by decide)⟩
set_option maxHeartbeats 8000000 in
theorem push_t' (now n:Int) (w:World):Calls Tryz.prog 212 #[.agg #[.int .i64 now,.slice none 0 0],.int .i64 n] w fun e w'=>∃ kA2 kn2 kc2,e=.returned (.agg #[.int .i64 (Go.bits .and .i64 (mx n 0) 31),.slice kA2 kn2 kc2])∧Below w.heap.size w w':=by
  have HB:=Aside0.mk (Below.refl w.heap.size w)
  have hw7:wrap64 (-7:Int)=-7:=by kernel_rfl
  have hm7:max (-7:Int) 0=0:=by decide
  go_enter Tryz.func212,Tryz.ntmps212
  go_wp2_with (first|(refine bx 2 #[.int .i64 now,.slice none 0 0] 68 (h:=?_);intro g2 hg w1 hbox hb;have HBo:=HB;replace HB:=bh HB hb;have B2:=Aside0.mk hbox;have q2:=cells2 B2.out;have G2:=gG HBo hg;clear hbox hb hg HBo)|(refine bx 4 #[.int .i64 0,.slice none 0 0] 68 (h:=?_);intro g4 hg w2 hbox hb;have HBo:=HB;have L2_:=blk_lt B2.out;replace B2:=kb B2 hb;clear q2;have q2:=cells2 B2.out;replace HB:=bh HB hb;have B4:=Aside0.mk hbox;have q4:=cells2 B4.out;have G4:=gG HBo hg;have NE4_2:=Aside0.mk (show g4≠g2 by omega);have NE2_4:=Aside0.mk (Ne.symm NE4_2.out);clear L2_;clear hbox hb hg HBo))
  refine st 8 (fun w'=>w'.cell? ⟨g2,0,none⟩=some (.int .i64 now)∧w'.cell? ⟨g2,1,none⟩=some (.slice none 0 0)) [] (hS:=q2) (h:=fun hHeld=>?_)
  refine pu 0 (h:=?_)
  refine pu 3 (h:=?_)
  refine tk 1 hHeld (h:=?_)
  refine tk 4 hHeld (h:=?_)
  refine tw 2 5 (h1:=fun K hK=>?_) (h2:=fun K hK=>?_)
  · skip
    refine gc Tryz.func251 (clone0 _) (h:=?_)
    rintro e w4 ⟨rfl,hb⟩
    refine ⟨_,rfl,?_⟩
    replace B2:=kb B2 hb
    clear q2
    have q2:=cells2 B2.out
    replace B4:=kb B4 hb
    clear q4
    have q4:=cells2 B4.out
    replace HB:=bh HB hb
    clear hb
    refine hK.out _ _ q2 (fun hHeld=>?_)
    clear hK K
    refine nm 8 (h:=?_)
    refine oS 5 (h:=fun K hK=>?_)
    refine slice_step 11 (by rfl) (by rfl) (cs:=#[.int .i64 now]) (t:=3) (by first|(go_simp;done)|(go_simp;rfl)) ?_
    intro gs hg w5 hbox hb
    have HBo:=HB
    replace B2:=kb B2 hb
    clear q2
    have q2:=cells2 B2.out
    replace B4:=kb B4 hb
    clear q4
    have q4:=cells2 B4.out
    replace HB:=bh HB hb
    have Bs:=Aside0.mk hbox
    have qs_0:=cells1 Bs.out
    have Gs:=Aside0.mk (show w.heap.size≤gs by rw [hg];first | exact below_size HBo.out | exact below_size (below_drew1 HBo.out))
    clear hbox hb hg HBo
    refine hK.out _ _ q2 (fun hHeld=>?_)
    clear hK K
    refine nm 11 (h:=?_)
    refine oS 6 (h:=fun K hK=>?_)
    refine Kd.R_append_rows_step (Kd.int .i64) (w0:=w) w.heap.size (by rfl) (.tmp 8) (.tmp 11) 66 3 (.int .i64 0) 8 rfl Tryz.underlying66 info3 rfl (by decide) (by decide) (.slice none 0 0) [] [now] (some ⟨gs,0,none⟩) 1 1 (fun _=>True) (fun _=>False) rfl rfl (Kd.R_nil _ _ _ _ _) (lit_one Bs.out) (fun _ _ h=>h) (fun _ h=>h.elim) (fun k hk=>trivial) HB.out HB.out.size (by simp) ?_
    intro v1 w6 hR hb' hg hat
    have hb:=below_none hg
    replace B2:=kb B2 hb
    clear q2
    have q2:=cells2 B2.out
    replace B4:=kb B4 hb
    clear q4
    have q4:=cells2 B4.out
    replace Bs:=kb Bs hb
    clear qs_0
    have qs_0:=cells1 Bs.out
    replace HB:=bh HB hb
    obtain ⟨A9,c9,rfl⟩:=Kd.R_slice hR
    clear hb hb' hg hat hR
    refine hK.out _ _ q2 (fun hHeld=>?_)
    clear hK K
    refine nm 12 (h:=?_)
    refine pu 7 (h:=?_)
    refine done_ (by kernel_rfl) ?_
    clear hHeld
    obtain ⟨A1,c1,hcut⟩:=cut0 A9 c9
    go_wp2
    refine st 10 (fun w'=>True) [] (hS:=(trivial)) (h:=fun hHeld=>?_)
    refine pu 0 (h:=?_)
    refine pu 2 (h:=?_)
    refine pu 3 (h:=?_)
    refine pu 4 (h:=?_)
    refine pu 5 (h:=?_)
    refine pu 6 (h:=?_)
    refine pu 7 (h:=?_)
    refine oS 1 (h:=fun K hK=>?_)
    refine gc Tryz.func252 (stack_flagsOf.calls n _ _ rfl) (h:=?_)
    rintro e w7 ⟨rfl,hb⟩
    refine ⟨_,rfl,?_⟩
    replace B2:=kb B2 hb
    clear q2
    have q2:=cells2 B2.out
    replace B4:=kb B4 hb
    clear q4
    have q4:=cells2 B4.out
    replace Bs:=kb Bs hb
    clear qs_0
    have qs_0:=cells1 Bs.out
    replace HB:=bh HB hb
    clear hb
    refine hK.out _ _ (trivial) (fun hHeld=>?_)
    clear hK K
    refine nm 14 (h:=?_)
    refine pu 8 (h:=?_)
    refine oN 9 (h:=fun K hK=>?_)
    refine store_step (by rfl) (by rfl) 68 (.tmp 4) (.tmp 21) (by rfl) g4 0 68 _ B4.out (by rfl) _ (by rfl) [.int .i64 (Go.bits .and .i64 (mx n 0) 31),.slice A1 1 c1] rfl (by kernel_rfl) (by show 0+2≤2;decide) (by simp [Value.oneCell']) #[.int .i64 (Go.bits .and .i64 (mx n 0) 31),.slice A1 1 c1] rfl ?_
    intro w8 hS hg
    replace B2:=gk B2 hg NE2_4.out
    clear q2
    have q2:=cells2 B2.out
    replace Bs:=gnx Bs hg B4
    clear qs_0
    have qs_0:=cells1 Bs.out
    replace HB:=gb HB hg G4
    clear B4 q4 hg
    have B4:=Aside0.mk hS
    clear hS
    have q4:=cells2 B4.out
    refine hK.out _ _ (trivial) (fun hHeld=>?_)
    clear hK K
    refine done_ (by kernel_rfl) ?_
    clear hHeld
    go_wp2
    refine bodyPost_ret (results_cell_row rfl _ _ g4 68 _ (0,0) _ rfl B4.out Tryz.underlying68 rfl (by kernel_rfl)) rfl ?_
    exact ⟨_,_,_,rfl,HB.out⟩
  · skip
    refine slice_step 11 (by rfl) (by rfl) (cs:=#[.int .i64 now]) (t:=3) (by first|(go_simp;done)|(go_simp;rfl)) ?_
    intro gs hg w5 hbox hb
    have HBo:=HB
    replace B2:=kb B2 hb
    clear q2
    have q2:=cells2 B2.out
    replace B4:=kb B4 hb
    clear q4
    have q4:=cells2 B4.out
    replace HB:=bh HB hb
    have Bs:=Aside0.mk hbox
    have qs_0:=cells1 Bs.out
    have Gs:=Aside0.mk (show w.heap.size≤gs by rw [hg];first | exact below_size HBo.out | exact below_size (below_drew1 HBo.out))
    clear hbox hb hg HBo
    refine hK.out _ _ q2 (fun hHeld=>?_)
    clear hK K
    refine nm 11 (h:=?_)
    refine oS 2 (h:=fun K hK=>?_)
    refine gc Tryz.func251 (clone0 _) (h:=?_)
    rintro e w4 ⟨rfl,hb⟩
    refine ⟨_,rfl,?_⟩
    replace B2:=kb B2 hb
    clear q2
    have q2:=cells2 B2.out
    replace B4:=kb B4 hb
    clear q4
    have q4:=cells2 B4.out
    replace Bs:=kb Bs hb
    clear qs_0
    have qs_0:=cells1 Bs.out
    replace HB:=bh HB hb
    clear hb
    refine hK.out _ _ q2 (fun hHeld=>?_)
    clear hK K
    refine nm 8 (h:=?_)
    refine oS 6 (h:=fun K hK=>?_)
    refine Kd.R_append_rows_step (Kd.int .i64) (w0:=w) w.heap.size (by rfl) (.tmp 8) (.tmp 11) 66 3 (.int .i64 0) 8 rfl Tryz.underlying66 info3 rfl (by decide) (by decide) (.slice none 0 0) [] [now] (some ⟨gs,0,none⟩) 1 1 (fun _=>True) (fun _=>False) rfl rfl (Kd.R_nil _ _ _ _ _) (lit_one Bs.out) (fun _ _ h=>h) (fun _ h=>h.elim) (fun k hk=>trivial) HB.out HB.out.size (by simp) ?_
    intro v1 w6 hR hb' hg hat
    have hb:=below_none hg
    replace B2:=kb B2 hb
    clear q2
    have q2:=cells2 B2.out
    replace B4:=kb B4 hb
    clear q4
    have q4:=cells2 B4.out
    replace Bs:=kb Bs hb
    clear qs_0
    have qs_0:=cells1 Bs.out
    replace HB:=bh HB hb
    obtain ⟨A9,c9,rfl⟩:=Kd.R_slice hR
    clear hb hb' hg hat hR
    refine hK.out _ _ q2 (fun hHeld=>?_)
    clear hK K
    refine nm 12 (h:=?_)
    refine pu 7 (h:=?_)
    refine done_ (by kernel_rfl) ?_
    clear hHeld
    obtain ⟨A1,c1,hcut⟩:=cut0 A9 c9
    go_wp2
    refine st 10 (fun w'=>True) [] (hS:=(trivial)) (h:=fun hHeld=>?_)
    refine pu 0 (h:=?_)
    refine pu 2 (h:=?_)
    refine pu 3 (h:=?_)
    refine pu 4 (h:=?_)
    refine pu 5 (h:=?_)
    refine pu 6 (h:=?_)
    refine pu 7 (h:=?_)
    refine oS 1 (h:=fun K hK=>?_)
    refine gc Tryz.func252 (stack_flagsOf.calls n _ _ rfl) (h:=?_)
    rintro e w7 ⟨rfl,hb⟩
    refine ⟨_,rfl,?_⟩
    replace B2:=kb B2 hb
    clear q2
    have q2:=cells2 B2.out
    replace B4:=kb B4 hb
    clear q4
    have q4:=cells2 B4.out
    replace Bs:=kb Bs hb
    clear qs_0
    have qs_0:=cells1 Bs.out
    replace HB:=bh HB hb
    clear hb
    refine hK.out _ _ (trivial) (fun hHeld=>?_)
    clear hK K
    refine nm 14 (h:=?_)
    refine pu 8 (h:=?_)
    refine oN 9 (h:=fun K hK=>?_)
    refine store_step (by rfl) (by rfl) 68 (.tmp 4) (.tmp 21) (by rfl) g4 0 68 _ B4.out (by rfl) _ (by rfl) [.int .i64 (Go.bits .and .i64 (mx n 0) 31),.slice A1 1 c1] rfl (by kernel_rfl) (by show 0+2≤2;decide) (by simp [Value.oneCell']) #[.int .i64 (Go.bits .and .i64 (mx n 0) 31),.slice A1 1 c1] rfl ?_
    intro w8 hS hg
    replace B2:=gk B2 hg NE2_4.out
    clear q2
    have q2:=cells2 B2.out
    replace Bs:=gnx Bs hg B4
    clear qs_0
    have qs_0:=cells1 Bs.out
    replace HB:=gb HB hg G4
    clear B4 q4 hg
    have B4:=Aside0.mk hS
    clear hS
    have q4:=cells2 B4.out
    refine hK.out _ _ (trivial) (fun hHeld=>?_)
    clear hK K
    refine done_ (by kernel_rfl) ?_
    clear hHeld
    go_wp2
    refine bodyPost_ret (results_cell_row rfl _ _ g4 68 _ (0,0) _ rfl B4.out Tryz.underlying68 rfl (by kernel_rfl)) rfl ?_
    exact ⟨_,_,_,rfl,HB.out⟩
end Go.Proofs.YthjacokachgmfaaGreatDoor.H
end
section
namespace Go.Proofs.YthjacokachgmfaaGreatDoor.H
open Go Go.RowKit YthjacokachgmfaaGreatDoorW.PrintWords YthjacokachgmfaaGreatDoorW.PrintLast YthjacokachgmfaaGreatDoorW.PrintMore
open Ev YthjacokachgmfaaGreatDoor.G
set_option maxRecDepth 100000
def pushF (n:Int):Int:=Go.bits .and .i64 (mx n 0) 31
theorem push_t (now n:Int) (w:World):Calls Tryz.prog 212 #[.agg #[.int .i64 now,.slice none 0 0],.int .i64 n] w fun e w'=>∃ kA2 kn2 kc2,e=.returned (.agg #[.int .i64 (pushF n),.slice kA2 kn2 kc2])∧Below w.heap.size w w':=push_t' now n w
set_option maxHeartbeats 8000000 in
theorem kept_calls (b0 b1 b2 b3 b4 b5 b6:Bool) (n0 n1 n2 now:Int) (fin n:Int) (inter data:ByteArray) (pA:Option Addr) (pc:Nat) (gs:Nat) (w0 w:World) (hB:Below w0.heap.size w0 w) (hG:w0.heap.size≤gs) (hs:w.heap[gs]?=some (.cells #[.bool b0,.bool b1,.bool b2,.bool b3,.bool b4,.bool b5,.bool b6,.int .i64 n0,.int .i64 n1,.int .i64 n2,.int .u8 0,.int .u8 0,.int .u8 0,.int .u8 0,.int .u8 0,.int .u8 0,.int .u8 0,.int .u8 0,.int .u8 0,.int .u8 0,.int .u8 0,.int .u8 0,.int .i64 now,.slice none 0 0] 70 (0,0))) (hC:Kd.C kli w pA 1 [[n]]) (hn:0≤n) :
    Calls Tryz.prog 161 #[.pointer (some ⟨gs,0,none⟩),.agg #[.int .i64 0,.int .i64 0,.int .i64 0,.int .i64 0,.int .i64 0,.int .i64 0,.int .i64 0,.int .i64 0,.int .i64 0,.bool false,.bool false,.bool false,.bool false,.bool false,.bool false,.bool false,.int .i64 0,.int .i64 0,.int .i64 0],.agg #[.int .i64 1,.int .u8 62,.slice pA 1 pc,.string inter,.int .u8 fin,.string data]] w fun e w'=>∃ kA2 kn2 kc2,e=.returned (.slice none 0 0)∧w'.heap[gs]?=some (.cells #[.bool b0,.bool b1,.bool b2,.bool b3,.bool b4,.bool b5,.bool b6,.int .i64 n0,.int .i64 n1,.int .i64 n2,.int .u8 0,.int .u8 0,.int .u8 0,.int .u8 0,.int .u8 0,.int .u8 0,.int .u8 0,.int .u8 0,.int .u8 0,.int .u8 0,.int .u8 0,.int .u8 0,.int .i64 (pushF n),.slice kA2 kn2 kc2] 70 (0,0))∧Below w0.heap.size w0 w'∧Kept w w' (fun k=>k=gs):=by
  have Bs:=Aside0.mk hs
  have HB:=Aside0.mk hB
  have Gs:=Aside0.mk hG
  have HC:=Aside0.mk hC
  have HK:Aside0 (Kept w w (fun k=>k=gs)):=⟨Kept.refl _ _⟩
  have HN:=Aside0.mk (And.intro hn hn)
  clear hB hG hs hC hn
  have qs:=cells24 Bs.out
  go_enter Tryz.func161,Tryz.ntmps161
  go_wp2_with (first|(refine bx 4 #[.int .i64 0,.int .i64 0,.int .i64 0,.int .i64 0,.int .i64 0,.int .i64 0,.int .i64 0,.int .i64 0,.int .i64 0,.bool false,.bool false,.bool false,.bool false,.bool false,.bool false,.bool false,.int .i64 0,.int .i64 0,.int .i64 0] 26 (h:=?_);intro g4 hg w1 hbox hb;have HBo:=HB;replace Bs:=kb Bs hb;clear qs;have qs:=cells24 Bs.out;replace HB:=bh HB hb;have HC_:=Aside0.mk (Kd.C_below HC.out hb);have HK_:=Aside0.mk (Kept.below HK.out hb);clear HC HK;have HC:=HC_;have HK:=HK_;clear HC_ HK_;have B4:=Aside0.mk hbox;have q4:=cells19 B4.out;have G4:=gG HBo hg;clear hbox hb hg HBo)|(refine bx 5 #[.int .i64 1,.int .u8 62,.slice pA 1 pc,.string inter,.int .u8 fin,.string data] 44 (h:=?_);intro g5 hg w2 hbox hb;have HBo:=HB;replace Bs:=kb Bs hb;clear qs;have qs:=cells24 Bs.out;replace B4:=kb B4 hb;clear q4;have q4:=cells19 B4.out;replace HB:=bh HB hb;have HC_:=Aside0.mk (Kd.C_below HC.out hb);have HK_:=Aside0.mk (Kept.below HK.out hb);clear HC HK;have HC:=HC_;have HK:=HK_;clear HC_ HK_;have B5:=Aside0.mk hbox;have q5:=cells6 B5.out;have G5:=gG HBo hg;clear hbox hb hg HBo))
  refine st 11 (fun w'=>w'.cell? ⟨gs,22,none⟩=some (.int .i64 now)∧w'.cell? ⟨gs,23,none⟩=some (.slice none 0 0)∧w'.cell? ⟨g5,0,none⟩=some (.int .i64 1)∧w'.cell? ⟨g5,1,none⟩=some (.int .u8 62)∧w'.cell? ⟨g5,2,none⟩=some (.slice pA 1 pc)∧w'.cell? ⟨g5,3,none⟩=some (.string inter)∧w'.cell? ⟨g5,4,none⟩=some (.int .u8 fin)∧w'.cell? ⟨g5,5,none⟩=some (.string data)) [7,10] (hS:=⟨qs.2.2.2.2.2.2.2.2.2.2.2.2.2.2.2.2.2.2.2.2.2.2.1,qs.2.2.2.2.2.2.2.2.2.2.2.2.2.2.2.2.2.2.2.2.2.2.2,q5.1,q5.2.1,q5.2.2.1,q5.2.2.2.1,q5.2.2.2.2.1,q5.2.2.2.2.2⟩) (h:=fun hHeld=>?_)
  refine pu 0 (h:=?_)
  refine pu 1 (h:=?_)
  refine pu 2 (h:=?_)
  refine pu 3 (h:=?_)
  refine tk 4 hHeld (h:=?_)
  refine tk 5 hHeld (h:=?_)
  refine oS 6 (h:=fun K hK=>?_)
  refine gc Tryz.func206 (arg_calls 1 62 fin n 0 inter data pA pc _ (Kd.C_below HC.out (below_drew1 (Below.refl _ _))) HN.out.1) (h:=?_)
  rintro e w3 ⟨rfl,hb0⟩
  refine ⟨_,rfl,?_⟩
  have hb:=below_step (below_drew1 (Below.refl _ _)) hb0
  replace Bs:=kb Bs hb
  clear qs
  have qs:=cells24 Bs.out
  replace B4:=kb B4 hb
  clear q4
  have q4:=cells19 B4.out
  replace B5:=kb B5 hb
  clear q5
  have q5:=cells6 B5.out
  replace HB:=bh HB hb
  have HC_:=Aside0.mk (Kd.C_below HC.out hb)
  have HK_:=Aside0.mk (Kept.below HK.out hb)
  clear HC HK
  have HC:=HC_
  have HK:=HK_
  clear HC_ HK_
  clear hb hb0
  refine hK.out _ _ ⟨qs.2.2.2.2.2.2.2.2.2.2.2.2.2.2.2.2.2.2.2.2.2.2.1,qs.2.2.2.2.2.2.2.2.2.2.2.2.2.2.2.2.2.2.2.2.2.2.2,q5.1,q5.2.1,q5.2.2.1,q5.2.2.2.1,q5.2.2.2.2.1,q5.2.2.2.2.2⟩ (fun hHeld=>?_)
  clear hK K
  refine nm 29 (h:=?_)
  refine lS 7 (h:=fun K hK=>?_)
  refine gc Tryz.func212 (push_t now n _) (h:=?_)
  rintro e w4 ⟨kA2,kn2,kc2,rfl,hb⟩
  refine ⟨_,rfl,?_⟩
  replace Bs:=kb Bs hb
  clear qs
  have qs:=cells24 Bs.out
  replace B4:=kb B4 hb
  clear q4
  have q4:=cells19 B4.out
  replace B5:=kb B5 hb
  clear q5
  have q5:=cells6 B5.out
  replace HB:=bh HB hb
  have HC_:=Aside0.mk (Kd.C_below HC.out hb)
  have HK_:=Aside0.mk (Kept.below HK.out hb)
  clear HC HK
  have HC:=HC_
  have HK:=HK_
  clear HC_ HK_
  clear hb
  refine hK.out _ _ ?_
  clear hK K
  refine nm 30 (h:=?_)
  refine pu 8 (h:=?_)
  refine pu 9 (h:=?_)
  refine lN 10 (h:=fun K hK=>?_)
  refine store_step (by rfl) (by rfl) 68 (.tmp 32) (.tmp 30) (by rfl) gs 22 70 _ Bs.out (by rfl) _ (by rfl) [.int .i64 (pushF n),.slice kA2 kn2 kc2] rfl (by kernel_rfl) (by show 22+2≤24;decide) (by simp [Value.oneCell']) #[.bool b0,.bool b1,.bool b2,.bool b3,.bool b4,.bool b5,.bool b6,.int .i64 n0,.int .i64 n1,.int .i64 n2,.int .u8 0,.int .u8 0,.int .u8 0,.int .u8 0,.int .u8 0,.int .u8 0,.int .u8 0,.int .u8 0,.int .u8 0,.int .u8 0,.int .u8 0,.int .u8 0,.int .i64 (pushF n),.slice kA2 kn2 kc2] rfl ?_
  intro w5 hS hg
  have HB_:=Aside0.mk (HB.out.grown hg (below_size HB.out) (fun k hk=>by injection hk with hk;rw [← hk];exact Gs.out))
  have HK_:=Aside0.mk (Kept.of_grown hg HK.out (fun k hk=>.inl (by injection hk with hk;exact hk.symm)))
  clear HB HK
  have HB:=HB_
  have HK:=HK_
  clear HB_ HK_
  refine hK.out _ _ ?_
  clear hK K
  refine done_ (by kernel_rfl) ?_
  have BsX:=Aside0.mk hS
  clear hS hg
  go_wp2
  go_ret
  exact ⟨kA2,kn2,kc2,rfl,BsX.out,HB.out,HK.out⟩
end Go.Proofs.YthjacokachgmfaaGreatDoor.H
end
section
namespace Go.Proofs.YthjacokachgmfaaGreatDoor.H
open Go Go.RowKit Go.Maps Go.ChangeMaps YthjacokachgmfaaGreatDoorW.PrintWords YthjacokachgmfaaGreatDoorW.PrintLast YthjacokachgmfaaGreatDoorW.PrintMore
set_option maxRecDepth 100000
def akv (x:Int × Int × List UInt8 × Int):Value:=.agg #[.int .i64 x.1,.int .u8 x.2.1,.string ⟨x.2.2.1.toArray⟩,.int .u8 x.2.2.2]
theorem akv_inj {x y:Int × Int × List UInt8 × Int} (h:akv x=akv y):x=y:=by
  obtain ⟨a,b,c,d⟩:=x
  obtain ⟨a',b',c',d'⟩:=y
  simp [akv] at h
  obtain ⟨rfl,rfl,h,rfl⟩:=h
  rw [h]
def tab:List (Nat × (Int × Int × List UInt8 × Int) × Operand):=[(2,(1,0,[],104),.func 149),(4,(1,0,[],108),.func 149),(6,(1,63,[],104),.func 149),(8,(1,63,[],108),.func 149),(10,(1,63,[],115),.func 150),(12,(1,63,[],114),.func 151),(14,(1,62,[],109),.func 152),(16,(1,62,[],110),.func 152),(18,(1,0,[],99),.func 153),(20,(1,62,[],99),.func 153),(22,(1,61,[],99),.func 153),(24,(1,0,[],110),.func 154),(26,(1,63,[],110),.func 154),(28,(1,0,[36],112),.func 155),(30,(1,63,[36],112),.func 155),(32,(1,0,[33],112),.func 156),(34,(1,62,[],113),.func 157),(36,(1,63,[],117),.func 160),(38,(1,62,[],117),.func 161),(40,(1,60,[],117),.func 161),(42,(1,61,[],117),.func 161),(45,(5,0,[],61),.tmp 24),(48,(5,0,[],62),.tmp 26),(50,(5,0,[],99),.func 163),(52,(3,0,[36],113),.func 164),(54,(3,0,[43],113),.func 166)]
def bidx:List Nat:=[1,3,5,7,9,11,13,15,17,19,21,23,25,27,29,31,33,35,37,39,41,43,46,49,51,53]
def tact (x0 x1 x24 x26 x30:Value):Act:=⟨#[x0,x1,akv (1,0,[],104),akv (1,0,[],108),akv (1,63,[],104),akv (1,63,[],108),akv (1,63,[],115),akv (1,63,[],114),akv (1,62,[],109),akv (1,62,[],110),akv (1,0,[],99),akv (1,62,[],99),akv (1,61,[],99),akv (1,0,[],110),akv (1,63,[],110),akv (1,0,[36],112),akv (1,63,[36],112),akv (1,0,[33],112),akv (1,62,[],113),akv (1,63,[],117),akv (1,62,[],117),akv (1,60,[],117),akv (1,61,[],117),akv (5,0,[],61),x24,akv (5,0,[],62),x26,akv (5,0,[],99),akv (3,0,[36],113),akv (3,0,[43],113),x30],[]⟩
noncomputable def tops:Array Oper:=match Tryz.f109.body with | some (.seq _ (.seq (.region _ ops _) _))=>ops | _=>#[]
theorem ready_is {md:Region.Mode} {ops:Array Oper} {listed:Array Bool} {i:Nat} (hi:i∈Region.ready md ops listed):i < ops.size∧listed.getD i true=false∧∀ o,ops[i]?=some o→∀ e∈o.after.toList,Region.binds md e=true→listed.getD e.on false=true:=by
  simp only [Region.ready,List.mem_filter,List.mem_range,Bool.and_eq_true,Bool.not_eq_true'] at hi
  obtain ⟨h1,h2,h3⟩:=hi
  refine ⟨h1,h2,fun o ho e he hb=>?_⟩
  rw [ho] at h3
  simp only [Option.map_some,Option.getD_some,Array.all_eq_true_iff_forall_mem] at h3
  have h4:=h3 e (Array.mem_def.2 he)
  simpa [hb] using h4
theorem all_done {md:Region.Mode} {ops:Array Oper} {listed:Array Bool} (hd:(List.range ops.size).all (fun i=>match ops[i]? with | some o=>o.after.all (fun e=>decide (e.on < i)) | none=>true)=true) (hs:listed.size=ops.size) (hr:Region.ready md ops listed=[]):∀ i,i < ops.size→listed.getD i false=true:=by
  intro i
  induction i using Nat.strongRecOn with
  | _ i ih =>
    intro hi
    by_cases hc:listed.getD i false=true
    · exact hc
    · exfalso
      have hlt:i < listed.size:=by omega
      have h2:listed.getD i true=false:=by
        simp only [Array.getD_eq_getD_getElem?,Array.getElem?_eq_getElem hlt,Option.getD_some] at hc ⊢
        simpa using hc
      have hm:i∈Region.ready md ops listed:=by
        simp only [Region.ready,List.mem_filter,List.mem_range,Bool.and_eq_true,Bool.not_eq_true']
        refine ⟨hi,h2,?_⟩
        rw [Array.getElem?_eq_getElem hi]
        simp only [Option.map_some,Option.getD_some,Array.all_eq_true_iff_forall_mem]
        intro e he
        have h3:=List.all_eq_true.1 hd i (List.mem_range.2 hi)
        rw [Array.getElem?_eq_getElem hi] at h3
        simp only [Array.all_eq_true_iff_forall_mem,decide_eq_true_eq] at h3
        have h4:=h3 e he
        simp [ih e.on h4 (by omega)]
      rw [hr] at hm
      cases hm
def TL (listed:Array Bool) (L:List ((Int × Int × List UInt8 × Int) × Value)):Prop :=
  (∀ q∈tab,listed.getD q.1 false=true→∃ v,(q.2.1,v)∈L∧∀ f,q.2.2=.func f→v=.func (.func f) #[] #[])∧(∀ p∈L,∃ q∈tab,q.2.1=p.1∧listed.getD q.1 false=true)∧(L.map (·.1)).Nodup
def TI (w0:World) (listed:Array Bool) (a:Act) (w:World):Prop :=
  listed.size=57∧(∀ j∈bidx,listed.getD j false=true)∧Below w0.heap.size w0 w∧∃ x0 x1 x24 x26 x30,a=tact x0 x1 x24 x26 x30 ∧
   ((listed.getD 0 false=false∧(∀ q∈tab,listed.getD q.1 false=false)∧listed.getD 55 false=false∧listed.getD 56 false=false) ∨
    (listed.getD 0 false=true∧∃ g L,x1=.map (some g)∧w0.heap.size≤g∧MapAt Tryz.prog 167 w g (L.map fun p=>(akv p.1,p.2))∧TL listed L∧(listed.getD 55 false=true→x30=.map (some g))∧(listed.getD 56 false=true→x0=.map (some g))))
theorem getD_set (listed:Array Bool) (i j:Nat) (hi:i < listed.size):(listed.setIfInBounds i true).getD j false=if i=j then true else listed.getD j false:=by
  simp only [Array.getD_eq_getD_getElem?,Array.getElem?_setIfInBounds]
  by_cases h:i=j
  · subst h;simp [hi]
  · simp [h]
theorem tab_op:∀ q∈tab,∃ s ty pos after,tops[q.1]?=some ⟨none,.insert 164 (.tmp 1) (.tmp s) q.2.2,ty,pos,after,none⟩∧(∀ x0 x1 x24 x26 x30,(tact x0 x1 x24 x26 x30).eval (.tmp s)=akv q.2.1)∧(tact undef undef undef undef undef).eval (.tmp 1)=undef∧∃ e∈after.toList,e.on=0∧Region.binds .any e=true:=by
  intro q hq
  simp only [tab,List.mem_cons,List.not_mem_nil,or_false] at hq
  rcases hq with rfl | rfl | rfl | rfl | rfl | rfl | rfl | rfl | rfl | rfl | rfl | rfl | rfl | rfl | rfl | rfl | rfl | rfl | rfl | rfl | rfl | rfl | rfl | rfl | rfl | rfl
  all_goals exact ⟨_,_,_,_,rfl,fun _ _ _ _ _=>rfl,rfl,_,List.mem_cons_self,rfl,rfl⟩
theorem tab_keys:∀ q∈tab,(keyOf Tryz.prog 167 (akv q.2.1)).isSome=true:=by
  intro q hq
  simp only [tab,List.mem_cons,List.not_mem_nil,or_false] at hq
  rcases hq with rfl | rfl | rfl | rfl | rfl | rfl | rfl | rfl | rfl | rfl | rfl | rfl | rfl | rfl | rfl | rfl | rfl | rfl | rfl | rfl | rfl | rfl | rfl | rfl | rfl | rfl
  all_goals kernel_rfl
theorem tab_one:∀ q∈tab,∀ q'∈tab,q.2.1=q'.2.1→q.1=q'.1:=by decide
theorem tab_once:∀ q∈tab,∀ q'∈tab,q.1=q'.1→q=q':=by
  intro q hq q' hq'
  simp only [tab,List.mem_cons,List.not_mem_nil,or_false] at hq hq'
  rcases hq with rfl | rfl | rfl | rfl | rfl | rfl | rfl | rfl | rfl | rfl | rfl | rfl | rfl | rfl | rfl | rfl | rfl | rfl | rfl | rfl | rfl | rfl | rfl | rfl | rfl | rfl<;>rcases hq' with rfl | rfl | rfl | rfl | rfl | rfl | rfl | rfl | rfl | rfl | rfl | rfl | rfl | rfl | rfl | rfl | rfl | rfl | rfl | rfl | rfl | rfl | rfl | rfl | rfl | rfl<;>intro h<;>first | rfl|(exfalso;revert h;decide)
theorem hmapt:Tryz.prog.underlying 164=some (.map 167 163):=by kernel_rfl
theorem ask_keyed:Keyed Tryz.prog 167:=Keyed.of_law (deep_law_laid (by kernel_rfl) (m:=2) (by omega) (of_decide_eq_true (by kernel_rfl)) (by kernel_rfl) (by kernel_rfl))
theorem TL_set {listed:Array Bool} {L:List ((Int × Int × List UInt8 × Int) × Value)} (hs:listed.size=57) (h:TL listed L) {i:Nat} (hi:i < 57) (hn:∀ q∈tab,q.1≠i):TL (listed.setIfInBounds i true) L:=by
  obtain ⟨h1,h2,h3⟩:=h
  refine ⟨fun q hq hl=>h1 q hq ?_,fun p hp=>?_,h3⟩
  · rw [getD_set _ _ _ (by omega),if_neg (Ne.symm (hn q hq))] at hl
    exact hl
  · obtain ⟨q,hq,e1,e2⟩:=h2 p hp
    exact ⟨q,hq,e1,by rw [getD_set _ _ _ (by omega),if_neg (Ne.symm (hn q hq))];exact e2⟩
theorem TL_put {listed:Array Bool} {L:List ((Int × Int × List UInt8 × Int) × Value)} (hs:listed.size=57) (h:TL listed L) {q:Nat × (Int × Int × List UInt8 × Int) × Operand} (hq:q∈tab) (hi:q.1 < 57) (hu:listed.getD q.1 false=false) (v:Value) (hv:∀ f,q.2.2=.func f→v=.func (.func f) #[] #[]) :
    (∀ p∈L,p.1≠q.2.1)∧TL (listed.setIfInBounds q.1 true) (L++[(q.2.1,v)]):=by
  obtain ⟨h1,h2,h3⟩:=h
  have hnew:∀ p∈L,p.1≠q.2.1:=by
    intro p hp e
    obtain ⟨q',hq',e1,e2⟩:=h2 p hp
    have e3:=tab_one q' hq' q hq (e1.trans e)
    rw [e3,hu] at e2
    cases e2
  refine ⟨hnew,fun q' hq' hl=>?_,fun p hp=>?_,?_⟩
  · rw [getD_set _ _ _ (by omega)] at hl
    by_cases e:q.1=q'.1
    · obtain rfl:=tab_once q hq q' hq' e
      exact ⟨v,by simp,hv⟩
    · rw [if_neg e] at hl
      obtain ⟨v',h4,h5⟩:=h1 q' hq' hl
      exact ⟨v',by simp [h4],h5⟩
  · rcases List.mem_append.1 hp with hp | hp
    · obtain ⟨q',hq',e1,e2⟩:=h2 p hp
      exact ⟨q',hq',e1,by rw [getD_set _ _ _ (by omega),e2];simp⟩
    · simp only [List.mem_singleton] at hp
      subst hp
      exact ⟨q,hq,rfl,by rw [getD_set _ _ _ (by omega)];simp⟩
  · rw [List.map_append,List.nodup_append]
    refine ⟨h3,by simp,fun x hx y hy=>?_⟩
    simp only [List.map_cons,List.map_nil,List.mem_singleton] at hy
    subst hy
    obtain ⟨p,hp,rfl⟩:=List.mem_map.1 hx
    exact hnew p hp
theorem keypad_calls (b:Bool) (w:World) :
    Calls Tryz.prog 162 #[.bool b] w fun e w'=>∃ v,e=.returned v∧Below w.heap.size w w':=by
  have hmf:∀ (fn:Fn) (first cap:Array Value) (w:World),(Instr.makeFunc fn first cap).run Tryz.prog w=.ok (.func fn first cap) w:=fun _ _ _ _=>rfl
  go_enter Tryz.func162,Tryz.ntmps162
  go_wp2
  go_ret
  exact ⟨_,rfl,below_alloc (Below.refl _ _) _⟩
theorem tab_step (w0:World) (Q:Exit→Act→World→Prop) (listed:Array Bool) (a:Act) (w:World) (i:Nat) (hI:TI w0 listed a w) (hi:i∈Region.ready .any tops listed):wpOp Tryz.prog tops Q i (TI w0 (listed.setIfInBounds i true)) a w:=by
  obtain ⟨hlt,hun,hdep⟩:=ready_is hi
  have hsz:tops.size=57:=by kernel_rfl
  rw [hsz] at hlt
  obtain ⟨hs,hb,hB,x0,x1,x24,x26,x30,rfl,hX⟩:=hI
  have hun':listed.getD i false=false:=by
    have hl:i < listed.size:=by omega
    simp only [Array.getD_eq_getD_getElem?,Array.getElem?_eq_getElem hl,Option.getD_some] at hun ⊢
    exact hun
  have hb':∀ j∈bidx,(listed.setIfInBounds i true).getD j false=true:=fun j hj=>by rw [getD_set _ _ _ (by omega),hb j hj];simp
  have hs':(listed.setIfInBounds i true).size=57:=by simp [hs]
  have hc:i=0∨i∈bidx∨(∃ q∈tab,q.1=i)∨i=44∨i=47∨i=55∨i=56:=(by decide:∀ i,i < 57→(i=0∨i∈bidx∨(∃ q∈tab,q.1=i)∨i=44∨i=47∨i=55∨i=56)) i hlt
  rcases hc with rfl | hc | ⟨q,hq,rfl⟩ | rfl | rfl | rfl | rfl
  ·
    obtain ⟨ty,pos,after,ho⟩:∃ ty pos after,tops[0]?=some ⟨some 1,.makeMap 164 none,ty,pos,after,none⟩:=⟨_,_,_,rfl⟩
    unfold wpOp
    rw [ho]
    refine .inl ?_
    unfold Oper.wp execOp
    simp only [Option.map_none,Sem.run_bind,run_makeMap,Result.andThen_ok,Sem.run_pure,Oper.upon_value]
    refine ⟨hs',hb',below_alloc hB _,x0,.map (some w.heap.size),x24,x26,x30,rfl,.inr ⟨by rw [getD_set _ _ _ (by omega)];rfl,w.heap.size,[],rfl,below_size hB,MapAt.new w,⟨?_,(fun p hp=>absurd hp List.not_mem_nil),List.nodup_nil⟩,?_,?_⟩⟩
    all_goals
      rcases hX with ⟨h1,h2,h3,h4⟩ | ⟨h1,_⟩
      · first
          | (intro q hq hl;rw [getD_set _ _ _ (by omega)] at hl;exfalso;have h5:=h2 q hq;have h6:∀ q∈tab,(0:Nat)≠q.1:=by decide
             rw [if_neg (h6 q hq),h5] at hl;cases hl)
          | (intro hl;rw [getD_set _ _ _ (by omega)] at hl;exfalso;first|(rw [h3] at hl;simp at hl)|(rw [h4] at hl;simp at hl))
      · rw [h1] at hun'
        cases hun'
  · rw [hb i hc] at hun'
    cases hun'
  ·
    obtain ⟨s,ty,pos,after,ho,hk,_,e,he,he0,heb⟩:=tab_op q hq
    have h0:=hdep _ ho e he heb
    rw [he0] at h0
    rcases hX with ⟨h1,_⟩ | ⟨_,g,L,rfl,hg,hM,hT,h30,h0'⟩
    · rw [h1] at h0
      cases h0
    obtain ⟨hn,hT'⟩:=TL_put hs hT hq hlt hun' ((tact x0 (.map (some g)) x24 x26 x30).eval q.2.2) (fun f hf=>by rw [hf];rfl)
    obtain ⟨lx,hlx⟩:=Option.isSome_iff_exists.1 (tab_keys q hq)
    obtain ⟨w',hrun,hM',hgr⟩:=hM.put ask_keyed hmapt hlx ((tact x0 (.map (some g)) x24 x26 x30).eval q.2.2) (fun p hp e=>by
      obtain ⟨p',hp',rfl⟩:=List.mem_map.1 hp
      exact hn p' hp' (akv_inj e))
    unfold wpOp
    rw [ho]
    refine .inl ?_
    unfold Oper.wp execOp
    simp only [hk,show (tact x0 (.map (some g)) x24 x26 x30).eval (.tmp 1)=.map (some g) from rfl,Sem.run_bind,hrun,Result.andThen_ok,Sem.run_pure,Oper.upon_skip]
    refine ⟨hs',hb',hB.grown hgr (below_size hB) (fun k hk=>by injection hk with hk;omega),x0,.map (some g),x24,x26,x30,rfl,.inr ⟨by rw [getD_set _ _ _ (by omega),h0];simp,g,_,rfl,hg,by rw [List.map_append];exact hM',hT',?_,?_⟩⟩
    · intro hl
      have h6:∀ q∈tab,q.1≠55:=by decide
      rw [getD_set _ _ _ (by omega),if_neg (h6 q hq)] at hl
      exact h30 hl
    · intro hl
      have h6:∀ q∈tab,q.1≠56:=by decide
      rw [getD_set _ _ _ (by omega),if_neg (h6 q hq)] at hl
      exact h0' hl
  ·
    obtain ⟨ty,pos,after,ho⟩:∃ ty pos after,tops[44]?=some ⟨some 24,.call { callee:=.value (.func 162),args:=#[.const (.bool true)],argTypes:=#[4] },ty,pos,after,none⟩:=⟨_,_,_,rfl⟩
    unfold wpOp
    rw [ho]
    refine .inl ?_
    unfold Oper.wp execOp
    simp only [resolve,Deferred.ofValue,invoke,Act.eval,Sem.run_bind,Sem.run_pure,Result.andThen_ok,List.map_toArray,List.map_cons,List.map_nil]
    refine Calls.mono (keypad_calls true w) ?_
    rintro e w' ⟨v,rfl,hb1⟩
    refine ⟨hs',hb',below_step hB hb1,x0,x1,v,x26,x30,rfl,?_⟩
    have h6:∀ q∈tab,q.1≠44:=by decide
    rcases hX with ⟨h1,h2,h3,h4⟩ | ⟨h1,g,L,rfl,hg,hM,hT,h30,h0'⟩
    · exact .inl ⟨by rw [getD_set _ _ _ (by omega),h1];simp,fun q hq=>by rw [getD_set _ _ _ (by omega),if_neg (Ne.symm (h6 q hq))];exact h2 q hq,by rw [getD_set _ _ _ (by omega),h3];simp,by rw [getD_set _ _ _ (by omega),h4];simp⟩
    · exact .inr ⟨by rw [getD_set _ _ _ (by omega),h1];simp,g,L,rfl,hg,hM.below hb1,TL_set hs hT hlt h6,fun hl=>h30 (by rw [getD_set _ _ _ (by omega)] at hl;simpa using hl),fun hl=>h0' (by rw [getD_set _ _ _ (by omega)] at hl;simpa using hl)⟩
  ·
    obtain ⟨ty,pos,after,ho⟩:∃ ty pos after,tops[47]?=some ⟨some 26,.call { callee:=.value (.func 162),args:=#[.const (.bool false)],argTypes:=#[4] },ty,pos,after,none⟩:=⟨_,_,_,rfl⟩
    unfold wpOp
    rw [ho]
    refine .inl ?_
    unfold Oper.wp execOp
    simp only [resolve,Deferred.ofValue,invoke,Act.eval,Sem.run_bind,Sem.run_pure,Result.andThen_ok,List.map_toArray,List.map_cons,List.map_nil]
    refine Calls.mono (keypad_calls false w) ?_
    rintro e w' ⟨v,rfl,hb1⟩
    refine ⟨hs',hb',below_step hB hb1,x0,x1,x24,v,x30,rfl,?_⟩
    have h6:∀ q∈tab,q.1≠47:=by decide
    rcases hX with ⟨h1,h2,h3,h4⟩ | ⟨h1,g,L,rfl,hg,hM,hT,h30,h0'⟩
    · exact .inl ⟨by rw [getD_set _ _ _ (by omega),h1];simp,fun q hq=>by rw [getD_set _ _ _ (by omega),if_neg (Ne.symm (h6 q hq))];exact h2 q hq,by rw [getD_set _ _ _ (by omega),h3];simp,by rw [getD_set _ _ _ (by omega),h4];simp⟩
    · exact .inr ⟨by rw [getD_set _ _ _ (by omega),h1];simp,g,L,rfl,hg,hM.below hb1,TL_set hs hT hlt h6,fun hl=>h30 (by rw [getD_set _ _ _ (by omega)] at hl;simpa using hl),fun hl=>h0' (by rw [getD_set _ _ _ (by omega)] at hl;simpa using hl)⟩
  ·
    obtain ⟨ty,pos,after,ho,e,he,he0,heb⟩:∃ ty pos after,tops[55]?=some ⟨some 30,.move (.tmp 1),ty,pos,after,none⟩∧∃ e∈after.toList,e.on=0∧Region.binds .any e=true:=⟨_,_,_,rfl,_,List.mem_cons_self,rfl,rfl⟩
    have h0:=hdep _ ho e he heb
    rw [he0] at h0
    unfold wpOp
    rw [ho]
    refine .inl ?_
    unfold Oper.wp execOp
    simp only [Sem.run_pure,Oper.upon_value]
    have h6:∀ q∈tab,q.1≠55:=by decide
    rcases hX with ⟨h1,_⟩ | ⟨h1,g,L,rfl,hg,hM,hT,h30,h0'⟩
    · rw [h1] at h0
      cases h0
    · exact ⟨hs',hb',hB,x0,.map (some g),x24,x26,.map (some g),rfl,.inr ⟨by rw [getD_set _ _ _ (by omega),h1];simp,g,L,rfl,hg,hM,TL_set hs hT hlt h6,fun _=>rfl,fun hl=>h0' (by rw [getD_set _ _ _ (by omega)] at hl;simpa using hl)⟩⟩
  ·
    obtain ⟨ty,pos,after,ho,e,he,he0,heb⟩:∃ ty pos after,tops[56]?=some ⟨some 0,.assign (.tmp 30),ty,pos,after,none⟩∧∃ e∈after.toList,e.on=55∧Region.binds .any e=true:=⟨_,_,_,rfl,_,List.mem_cons_self,rfl,rfl⟩
    have h0:=hdep _ ho e he heb
    rw [he0] at h0
    unfold wpOp
    rw [ho]
    refine .inl ?_
    unfold Oper.wp execOp
    simp only [Sem.run_pure,Oper.upon_value]
    have h6:∀ q∈tab,q.1≠56:=by decide
    rcases hX with ⟨h1,h2,h3,_⟩ | ⟨h1,g,L,rfl,hg,hM,hT,h30,h0'⟩
    · rw [h3] at h0
      cases h0
    · exact ⟨hs',hb',hB,x30,.map (some g),x24,x26,x30,rfl,.inr ⟨by rw [getD_set _ _ _ (by omega),h1];simp,g,L,rfl,hg,hM,TL_set hs hT hlt h6,fun hl=>h30 (by rw [getD_set _ _ _ (by omega)] at hl;simpa using hl),fun _=>h30 h0⟩⟩
set_option maxHeartbeats 4000000 in
theorem table_calls (w:World) :
    Calls Tryz.prog 109 #[] w fun e w'=>∃ (g:Nat) (L:List ((Int × Int × List UInt8 × Int) × Value)),e=.returned (.map (some g))∧w.heap.size≤g∧MapAt Tryz.prog 167 w' g (L.map fun p=>(akv p.1,p.2))∧(∀ q∈tab,∃ v,(q.2.1,v)∈L∧∀ f,q.2.2=.func f→v=.func (.func f) #[] #[])∧(L.map (·.1)).Nodup∧(∀ p∈L,∃ q∈tab,q.2.1=p.1)∧Below w.heap.size w w':=by
  go_enter Tryz.func109,Tryz.ntmps109
  go_wp2
  refine wp_region_any (by kernel_rfl) ?_
  refine wpAny_take (i:=1) (v:=akv (1,0,[],104)) rfl (by kernel_rfl) (by kernel_rfl) (by kernel_rfl) (fun _ _ _ h=>h) (Or.inl ⟨by rfl,fun w=>by kernel_rfl⟩) ?_
  refine wpAny_take (i:=3) (v:=akv (1,0,[],108)) rfl (by kernel_rfl) (by kernel_rfl) (by kernel_rfl) (fun _ _ _ h=>h) (Or.inl ⟨by rfl,fun w=>by kernel_rfl⟩) ?_
  refine wpAny_take (i:=5) (v:=akv (1,63,[],104)) rfl (by kernel_rfl) (by kernel_rfl) (by kernel_rfl) (fun _ _ _ h=>h) (Or.inl ⟨by rfl,fun w=>by kernel_rfl⟩) ?_
  refine wpAny_take (i:=7) (v:=akv (1,63,[],108)) rfl (by kernel_rfl) (by kernel_rfl) (by kernel_rfl) (fun _ _ _ h=>h) (Or.inl ⟨by rfl,fun w=>by kernel_rfl⟩) ?_
  refine wpAny_take (i:=9) (v:=akv (1,63,[],115)) rfl (by kernel_rfl) (by kernel_rfl) (by kernel_rfl) (fun _ _ _ h=>h) (Or.inl ⟨by rfl,fun w=>by kernel_rfl⟩) ?_
  refine wpAny_take (i:=11) (v:=akv (1,63,[],114)) rfl (by kernel_rfl) (by kernel_rfl) (by kernel_rfl) (fun _ _ _ h=>h) (Or.inl ⟨by rfl,fun w=>by kernel_rfl⟩) ?_
  refine wpAny_take (i:=13) (v:=akv (1,62,[],109)) rfl (by kernel_rfl) (by kernel_rfl) (by kernel_rfl) (fun _ _ _ h=>h) (Or.inl ⟨by rfl,fun w=>by kernel_rfl⟩) ?_
  refine wpAny_take (i:=15) (v:=akv (1,62,[],110)) rfl (by kernel_rfl) (by kernel_rfl) (by kernel_rfl) (fun _ _ _ h=>h) (Or.inl ⟨by rfl,fun w=>by kernel_rfl⟩) ?_
  refine wpAny_take (i:=17) (v:=akv (1,0,[],99)) rfl (by kernel_rfl) (by kernel_rfl) (by kernel_rfl) (fun _ _ _ h=>h) (Or.inl ⟨by rfl,fun w=>by kernel_rfl⟩) ?_
  refine wpAny_take (i:=19) (v:=akv (1,62,[],99)) rfl (by kernel_rfl) (by kernel_rfl) (by kernel_rfl) (fun _ _ _ h=>h) (Or.inl ⟨by rfl,fun w=>by kernel_rfl⟩) ?_
  refine wpAny_take (i:=21) (v:=akv (1,61,[],99)) rfl (by kernel_rfl) (by kernel_rfl) (by kernel_rfl) (fun _ _ _ h=>h) (Or.inl ⟨by rfl,fun w=>by kernel_rfl⟩) ?_
  refine wpAny_take (i:=23) (v:=akv (1,0,[],110)) rfl (by kernel_rfl) (by kernel_rfl) (by kernel_rfl) (fun _ _ _ h=>h) (Or.inl ⟨by rfl,fun w=>by kernel_rfl⟩) ?_
  refine wpAny_take (i:=25) (v:=akv (1,63,[],110)) rfl (by kernel_rfl) (by kernel_rfl) (by kernel_rfl) (fun _ _ _ h=>h) (Or.inl ⟨by rfl,fun w=>by kernel_rfl⟩) ?_
  refine wpAny_take (i:=27) (v:=akv (1,0,[36],112)) rfl (by kernel_rfl) (by kernel_rfl) (by kernel_rfl) (fun _ _ _ h=>h) (Or.inl ⟨by rfl,fun w=>by kernel_rfl⟩) ?_
  refine wpAny_take (i:=29) (v:=akv (1,63,[36],112)) rfl (by kernel_rfl) (by kernel_rfl) (by kernel_rfl) (fun _ _ _ h=>h) (Or.inl ⟨by rfl,fun w=>by kernel_rfl⟩) ?_
  refine wpAny_take (i:=31) (v:=akv (1,0,[33],112)) rfl (by kernel_rfl) (by kernel_rfl) (by kernel_rfl) (fun _ _ _ h=>h) (Or.inl ⟨by rfl,fun w=>by kernel_rfl⟩) ?_
  refine wpAny_take (i:=33) (v:=akv (1,62,[],113)) rfl (by kernel_rfl) (by kernel_rfl) (by kernel_rfl) (fun _ _ _ h=>h) (Or.inl ⟨by rfl,fun w=>by kernel_rfl⟩) ?_
  refine wpAny_take (i:=35) (v:=akv (1,63,[],117)) rfl (by kernel_rfl) (by kernel_rfl) (by kernel_rfl) (fun _ _ _ h=>h) (Or.inl ⟨by rfl,fun w=>by kernel_rfl⟩) ?_
  refine wpAny_take (i:=37) (v:=akv (1,62,[],117)) rfl (by kernel_rfl) (by kernel_rfl) (by kernel_rfl) (fun _ _ _ h=>h) (Or.inl ⟨by rfl,fun w=>by kernel_rfl⟩) ?_
  refine wpAny_take (i:=39) (v:=akv (1,60,[],117)) rfl (by kernel_rfl) (by kernel_rfl) (by kernel_rfl) (fun _ _ _ h=>h) (Or.inl ⟨by rfl,fun w=>by kernel_rfl⟩) ?_
  refine wpAny_take (i:=41) (v:=akv (1,61,[],117)) rfl (by kernel_rfl) (by kernel_rfl) (by kernel_rfl) (fun _ _ _ h=>h) (Or.inl ⟨by rfl,fun w=>by kernel_rfl⟩) ?_
  refine wpAny_take (i:=43) (v:=akv (5,0,[],61)) rfl (by kernel_rfl) (by kernel_rfl) (by kernel_rfl) (fun _ _ _ h=>h) (Or.inl ⟨by rfl,fun w=>by kernel_rfl⟩) ?_
  refine wpAny_take (i:=46) (v:=akv (5,0,[],62)) rfl (by kernel_rfl) (by kernel_rfl) (by kernel_rfl) (fun _ _ _ h=>h) (Or.inl ⟨by rfl,fun w=>by kernel_rfl⟩) ?_
  refine wpAny_take (i:=49) (v:=akv (5,0,[],99)) rfl (by kernel_rfl) (by kernel_rfl) (by kernel_rfl) (fun _ _ _ h=>h) (Or.inl ⟨by rfl,fun w=>by kernel_rfl⟩) ?_
  refine wpAny_take (i:=51) (v:=akv (3,0,[36],113)) rfl (by kernel_rfl) (by kernel_rfl) (by kernel_rfl) (fun _ _ _ h=>h) (Or.inl ⟨by rfl,fun w=>by kernel_rfl⟩) ?_
  refine wpAny_take (i:=53) (v:=akv (3,0,[43],113)) rfl (by kernel_rfl) (by kernel_rfl) (by kernel_rfl) (fun _ _ _ h=>h) (Or.inl ⟨by rfl,fun w=>by kernel_rfl⟩) ?_
  change wpAny _ _ tops _ _ _ _ _
  refine wpAny_inv (TI w) (tab_step w _) ?_ _ _ _ _ (by decide) rfl ?_
  · intro listed a w' hI hr
    have hall:=all_done (by kernel_rfl) hI.1 hr
    have hsz:tops.size=57:=by kernel_rfl
    rw [hsz] at hall
    obtain ⟨hs,hb,hB,x0,x1,x24,x26,x30,rfl,hX⟩:=hI
    rcases hX with ⟨h1,_⟩ | ⟨_,g,L,rfl,hg,hM,⟨hT1,hT2,hT3⟩,h30,h0'⟩
    · rw [hall 0 (by omega)] at h1
      cases h1
    obtain rfl:=h0' (hall 56 (by omega))
    have HH:=Aside0.mk (show w.heap.size≤g∧MapAt Tryz.prog 167 w' g (L.map fun p=>(akv p.1,p.2))∧(∀ q∈tab,∃ v,(q.2.1,v)∈L∧∀ f,q.2.2=.func f→v=.func (.func f) #[] #[])∧(L.map (·.1)).Nodup∧(∀ p∈L,∃ q∈tab,q.2.1=p.1)∧Below w.heap.size w w' from
      ⟨hg,hM,fun q hq=>hT1 q hq (hall q.1 ((by decide:∀ q∈tab,q.1 < 57) q hq)),hT3,fun p hp=>by obtain ⟨q,hq,e1,_⟩:=hT2 p hp;exact ⟨q,hq,e1⟩,hB⟩)
    clear hs hb hB hg hM hT1 hT2 hT3 h30 h0' hall hr hsz
    unfold tact
    go_wp2
    go_ret
    exact ⟨g,L,rfl,HH.out⟩
  · exact ⟨rfl,by decide,below_drew1 (Below.refl _ _),.map none,undef,undef,undef,undef,rfl,.inl ⟨rfl,by decide,rfl,rfl⟩⟩
end Go.Proofs.YthjacokachgmfaaGreatDoor.H
end
