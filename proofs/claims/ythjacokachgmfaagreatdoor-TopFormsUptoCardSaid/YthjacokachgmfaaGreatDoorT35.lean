import Derived.Test.YthjacokachgmfaaGreatDoorProg
import Derived.Lib.SliceRun
import Derived.WalkSpells
import Derived.Below
import Derived.Deep.Draws
import Derived.Deep.AppendLies
import Derived.Maps.AppendAt
import Derived.OwnWalk
import Derived.Laws.BytesArg
import Derived.Laws.MakeOwn
import Derived.Laws.OwnMore
import Derived.Deep.OwnRows
import Derived.Tactics
import Derived.Lib.ConvBytes
import Derived.Laws.Slices
import Derived.WalkKit
import Derived.KernelRfl
import Derived.RowKit3
import Derived.Deep.LoopGhost
import Derived.Deep.QuietTactic
import Derived.BigQuiet
import Derived.WideLaws
import Derived.Deep.DeepCutAuto
import Derived.Deep.CutBlock
import Derived.Deep.RegionHeld3
import Derived.Laws.Rows
import Derived.Lib.AppendStr
import Derived.ArgAppend
import Derived.Laws.IdiomCopy
import Derived.OrdersHeld
import Derived.Laws.BitsLemmas
import Derived.RowKit
import Derived.Test.YthjacokachgmfaaGreatDoorT01
import Derived.Test.YthjacokachgmfaaGreatDoorT02
import Derived.Test.YthjacokachgmfaaGreatDoorT03
import Derived.Test.YthjacokachgmfaaGreatDoorT04
import Derived.Test.YthjacokachgmfaaGreatDoorT06
import Derived.Test.YthjacokachgmfaaGreatDoorT07
import Derived.Test.YthjacokachgmfaaGreatDoorT08
import Derived.Test.YthjacokachgmfaaGreatDoorT09
import Derived.Test.YthjacokachgmfaaGreatDoorT10
import Derived.Test.YthjacokachgmfaaGreatDoorT11
import Derived.Test.YthjacokachgmfaaGreatDoorT19
import Derived.Test.YthjacokachgmfaaGreatDoorT20
import Derived.Test.YthjacokachgmfaaGreatDoorT22
import Derived.Test.YthjacokachgmfaaGreatDoorT30
import Derived.Test.YthjacokachgmfaaGreatDoorT34
set_option linter.unusedVariables false
set_option linter.unusedSimpArgs false
section
namespace Go.Proofs.YthjacokachgmfaaGreatDoor.H
open Go Go.RowKit YthjacokachgmfaaGreatDoorW.PrintWords YthjacokachgmfaaGreatDoorW.PrintLast YthjacokachgmfaaGreatDoorW.PrintMore
open Ev
set_option maxRecDepth 100000
attribute [local go_sem] Oper.semAt_some
theorem keepsFrom_grown {D g:Nat} {W W1 W2:World} {cs:Array Value} {t:TypeId} (h:Below W.heap.size W W1) (hg:W1.grownBy W2 (some g)) (hG:W1.heap[g]?=some (.cells cs t (0,0))):KeepsFrom D W W2 :=
  ⟨Nat.le_trans h.size hg.size,fun k o _ hk hc=>by
    have h1:=(h.block k (blk_lt hk)).trans hk
    refine (hg.block k (blk_lt h1) (fun e=>?_)).trans h1
    injection e with e
    subst e
    rw [hG] at h1
    cases h1
    cases hc⟩
theorem keeps_grown {n₀ b g:Nat} {W W1 W2:World} (hn:n₀≤W.heap.size) (hb:b < W.heap.size) (h:Below W.heap.size W W1) (hg:W1.grownBy W2 (some g)) (hgn:n₀≤g) (hne:g≠b):Keeps n₀ b W W2 :=
  ⟨(keeps_below h hn hb).low.grown hg (Nat.le_trans hn h.size) (fun k e=>by injection e with e;rw [← e];exact hgn),(hg.block b (Nat.lt_of_lt_of_le hb h.size) (fun e=>hne (by injection e with e;exact e.symm))).trans (h.block b hb)⟩
theorem Stb.size {D b:Nat} (N:Nat):Stb D b (fun W=>N≤W.heap.size) :=
  ⟨fun W W' row x hg _=>Nat.le_trans x hg.size,fun W v x=>by simpa [World.setCell] using x⟩
def SetS (w0 w:World) (gs g3 g5 N:Nat) (st stn cs5:Array Value):Nat→World→Prop
  | 0,W=>W.heap[gs]?=some (.cells st 70 (0,0))∧W.heap[g3]?=some (.cells #[.pointer (some ⟨gs,0,none⟩)] 168 (0,0))∧W.heap[g5]?=some (.cells cs5 44 (0,0))∧Below w0.heap.size w0 W∧Kept w W (fun k=>k=gs)∧N≤W.heap.size
  | _+1,W=>W.heap[gs]?=some (.cells stn 70 (0,0))∧W.heap[g3]?=some (.cells #[.pointer (some ⟨gs,0,none⟩)] 168 (0,0))∧W.heap[g5]?=some (.cells cs5 44 (0,0))∧Below w0.heap.size w0 W∧Kept w W (fun k=>k=gs)∧N≤W.heap.size
theorem SetS_stb (w0 w:World) (D b gs g3 g5 N:Nat) (st stn cs5:Array Value) (hs:gs≠b) (h3:g3≠b) (h5:g5≠b) (hD:w0.heap.size≤D) (hb:w0.heap.size≤b) (hD2:w.heap.size≤D) (hb2:w.heap.size≤b):∀ k,Stb D b (SetS w0 w gs g3 g5 N st stn cs5 k)
  | 0=>(Stb.blk _ _ _ hs).and ((Stb.blk _ _ _ h3).and ((Stb.blk _ _ _ h5).and ((Stb.below w0 hD hb).and ((Stb.kept w _ hD2 hb2).and (Stb.size N)))))
  | _+1=>(Stb.blk _ _ _ hs).and ((Stb.blk _ _ _ h3).and ((Stb.blk _ _ _ h5).and ((Stb.below w0 hD hb).and ((Stb.kept w _ hD2 hb2).and (Stb.size N)))))
set_option maxHeartbeats 8000000 in
theorem aset_calls (b0 b1 b2 b3 b4 b5 b6:Bool) (n0 n1 n2 now:Int) (kA:Option Addr) (kn kc:Nat) (inter data:ByteArray) (pA:Option Addr) (pc:Nat) (gs:Nat) (w0 w:World) (hB:Below w0.heap.size w0 w) (hG:w0.heap.size≤gs) (hs:w.heap[gs]?=some (.cells #[.bool b0,.bool b1,.bool b2,.bool b3,.bool b4,.bool b5,.bool b6,.int .i64 n0,.int .i64 n1,.int .i64 n2,.int .u8 0,.int .u8 0,.int .u8 0,.int .u8 0,.int .u8 0,.int .u8 0,.int .u8 0,.int .u8 0,.int .u8 0,.int .u8 0,.int .u8 0,.int .u8 0,.int .i64 now,.slice kA kn kc] 70 (0,0))) (hC:Kd.C kli w0 pA 1 [[2004]]) :
    Calls Tryz.prog 149 #[.pointer (some ⟨gs,0,none⟩),.agg #[.int .i64 0,.int .i64 0,.int .i64 0,.int .i64 0,.int .i64 0,.int .i64 0,.int .i64 0,.int .i64 0,.int .i64 0,.bool false,.bool false,.bool false,.bool false,.bool false,.bool false,.bool false,.int .i64 0,.int .i64 0,.int .i64 0],.agg #[.int .i64 1,.int .u8 63,.slice pA 1 pc,.string inter,.int .u8 104,.string data]] w fun e w'=>e=.returned (.slice none 0 0)∧w'.heap[gs]?=some (.cells #[.bool b0,.bool b1,.bool b2,.bool b3,.bool true,.bool b5,.bool b6,.int .i64 n0,.int .i64 n1,.int .i64 n2,.int .u8 0,.int .u8 0,.int .u8 0,.int .u8 0,.int .u8 0,.int .u8 0,.int .u8 0,.int .u8 0,.int .u8 0,.int .u8 0,.int .u8 0,.int .u8 0,.int .i64 now,.slice kA kn kc] 70 (0,0))∧Below w0.heap.size w0 w'∧Kept w w' (fun k=>k=gs):=by
  have Bs:=Aside0.mk hs
  have HB:=Aside0.mk hB
  have Gs:=Aside0.mk hG
  have HC:=Aside0.mk hC
  have HK:Aside0 (Kept w w (fun k=>k=gs)):=⟨Kept.refl _ _⟩
  clear hB hG hs hC
  have qs:=cells24 Bs.out
  refine (callsIn_wide (n:=6)).1 ?_
  refine callsIn_of_wp_marks Tryz.func149 rfl trivial ?_ rfl
  simp only [Tryz.ntmps149,List.size_toArray,List.length_cons,List.length_nil,Nat.reduceAdd,Nat.reduceSub,Array.replicate_succ,Array.replicate_zero,List.push_toArray,List.append_toArray,List.nil_append,List.cons_append]
  refine wpIn_wide.2 ?_
  go_wp2_with (first|(refine bx 3 #[.pointer (some ⟨gs,0,none⟩)] 168 (h:=?_);intro g3 hg w1 hbox hb;have HBo:=HB;replace Bs:=kb Bs hb;clear qs;have qs:=cells24 Bs.out;replace HB:=bh HB hb;replace HK:=Aside0.mk (by first | exact Kept.below HK.out hb | exact Kept.below (Kept.below HK.out (below_drew1 (Below.refl _ _))) hb);have B3:=Aside0.mk hbox;have q3_0:=cells1 B3.out;have G3:=gG HBo hg;clear hbox hb hg HBo)|(refine bx 4 #[.int .i64 0,.int .i64 0,.int .i64 0,.int .i64 0,.int .i64 0,.int .i64 0,.int .i64 0,.int .i64 0,.int .i64 0,.bool false,.bool false,.bool false,.bool false,.bool false,.bool false,.bool false,.int .i64 0,.int .i64 0,.int .i64 0] 26 (h:=?_);intro g4 hg w2 hbox hb;have HBo:=HB;replace Bs:=kb Bs hb;clear qs;have qs:=cells24 Bs.out;replace B3:=kb B3 hb;clear q3_0;have q3_0:=cells1 B3.out;replace HB:=bh HB hb;replace HK:=Aside0.mk (by first | exact Kept.below HK.out hb | exact Kept.below (Kept.below HK.out (below_drew1 (Below.refl _ _))) hb);have B4:=Aside0.mk hbox;have q4:=cells19 B4.out;have G4:=gG HBo hg;clear hbox hb hg HBo)|(refine bx 5 #[.int .i64 1,.int .u8 63,.slice pA 1 pc,.string inter,.int .u8 104,.string data] 44 (h:=?_);intro g5 hg w3 hbox hb;have HBo:=HB;replace Bs:=kb Bs hb;clear qs;have qs:=cells24 Bs.out;replace B3:=kb B3 hb;clear q3_0;have q3_0:=cells1 B3.out;replace B4:=kb B4 hb;clear q4;have q4:=cells19 B4.out;replace HB:=bh HB hb;replace HK:=Aside0.mk (by first | exact Kept.below HK.out hb | exact Kept.below (Kept.below HK.out (below_drew1 (Below.refl _ _))) hb);have B5:=Aside0.mk hbox;have q5:=cells6 B5.out;have G5:=gG HBo hg;clear hbox hb hg HBo)|(go_at_call 201;refine (each_calls 1 63 104 inter data pA 1 pc _).mono ?_;rintro e w4 ⟨gq,rfl,hq,hGq,hb⟩;have G5LT:=Aside0.mk (blk_lt B5.out);have HB3:=HB;have HK3:=HK;replace Bs:=kb Bs hb;clear qs;have qs:=cells24 Bs.out;replace B3:=kb B3 hb;clear q3_0;have q3_0:=cells1 B3.out;replace B4:=kb B4 hb;clear q4;have q4:=cells19 B4.out;replace B5:=kb B5 hb;clear q5;have q5:=cells6 B5.out;replace HB:=bh HB hb;replace HK:=Aside0.mk (by first | exact Kept.below HK.out hb | exact Kept.below (Kept.below HK.out (below_drew1 (Below.refl _ _))) hb);clear hb;have Bq:=Aside0.mk hq;have HBq:=Aside0.mk (show w3.heap.size≤gq from hGq);clear hq hGq))
  have hltq:=blk_lt Bq.out
  have NQ:=Aside0.mk (blk_ne Bs.out Bq.out (by decide))
  have N3:=blk_ne B3.out Bq.out (by decide)
  have N5:g5≠gq:=fun e=>by have h5:=G5LT.out;have:=HBq.out;omega
  have HQ0:=Aside0.mk (Nat.le_trans HB3.out.size HBq.out)
  have HQ1:=Aside0.mk (Nat.le_trans HK3.out.1 HBq.out)
  refine (wpIn_wide (n:=6)).1 ?_
  refine range_n (F:=Fence.wide) (n:=6) (w:=w4) (b:=gq) (n₀:=w0.heap.size) hltq HB.out.size rfl (by decide) (gf:=246) (lb:=#[.pointer (some ⟨gq,0,none⟩)]) rfl trivial (enters_of Tryz.func246 (by kernel_rfl) rfl) (encs:=fun x:Int=>#[.int .i64 x]) (all:=[2004])
    (fun W hW=>each_seq w0 5 (by decide) 1 63 104 2004 inter data pA pc gq HC.out (by decide) W (below_step HB.out hW) (blk_below Bq.out hW)) (fun _=>rfl)
    (SetS w0 w gs g3 g5 w4.heap.size #[.bool b0,.bool b1,.bool b2,.bool b3,.bool b4,.bool b5,.bool b6,.int .i64 n0,.int .i64 n1,.int .i64 n2,.int .u8 0,.int .u8 0,.int .u8 0,.int .u8 0,.int .u8 0,.int .u8 0,.int .u8 0,.int .u8 0,.int .u8 0,.int .u8 0,.int .u8 0,.int .u8 0,.int .i64 now,.slice kA kn kc] #[.bool b0,.bool b1,.bool b2,.bool b3,.bool true,.bool b5,.bool b6,.int .i64 n0,.int .i64 n1,.int .i64 n2,.int .u8 0,.int .u8 0,.int .u8 0,.int .u8 0,.int .u8 0,.int .u8 0,.int .u8 0,.int .u8 0,.int .u8 0,.int .u8 0,.int .u8 0,.int .u8 0,.int .i64 now,.slice kA kn kc] #[.int .i64 1,.int .u8 63,.slice pA 1 pc,.string inter,.int .u8 104,.string data]) (SetS_stb w0 w _ _ _ _ _ _ _ _ _ NQ.out N3 N5 HB.out.size HQ0.out HK.out.1 HQ1.out) ⟨Bs.out,B3.out,B5.out,HB.out,HK.out,Nat.le_refl _⟩
    (fun x=>{ tmps:=#[.pointer (some ⟨gs,0,none⟩),.agg #[.int .i64 0,.int .i64 0,.int .i64 0,.int .i64 0,.int .i64 0,.int .i64 0,.int .i64 0,.int .i64 0,.int .i64 0,.bool false,.bool false,.bool false,.bool false,.bool false,.bool false,.bool false,.int .i64 0,.int .i64 0,.int .i64 0],.agg #[.int .i64 1,.int .u8 63,.slice pA 1 pc,.string inter,.int .u8 104,.string data],.pointer (some ⟨g3,0,none⟩),.pointer (some ⟨g4,0,none⟩),.pointer (some ⟨g5,0,none⟩),.slice none 0 0,.int .i64 x,.agg #[.int .i64 1,.int .u8 63,.slice pA 1 pc,.string inter,.int .u8 104,.string data],.func (.func 246) #[] #[.pointer (some ⟨gq,0,none⟩)],.int .i64 x,undef,undef,undef,undef,undef,undef,undef,undef,undef,undef,undef,undef,undef,undef,undef,undef,undef,undef],defers:=[] }) ?assign ?body ?done
  case assign =>
    intro l x W K hK
    gi_wp2
    exact hK
  case body =>
    intro l k x W hS hk
    cases k with
    | succ k=>simp at hk
    | zero =>
      obtain rfl:2004=x:=by simpa using hk
      clear Bs HB B3 B5 HK qs q3_0 q5 q4
      obtain ⟨hs1,hs2,hs3,hs4,hs6,hs5⟩:=hS
      have Bs:=Aside0.mk hs1
      have B3:=Aside0.mk hs2
      have B5:=Aside0.mk hs3
      have HB:=Aside0.mk hs4
      have HK:=Aside0.mk hs6
      have HLS:=Aside0.mk hs5
      have HLQ:=Aside0.mk (Nat.lt_of_lt_of_le hltq hs5)
      have HN0:=Aside0.mk hs4.size
      have HW:=Aside0.mk (Below.refl W.heap.size W)
      clear hs1 hs2 hs3 hs4 hs5 hs6 hltq N3 N5
      have qs:=cells24 Bs.out
      have q3_0:=cells1 B3.out
      have q5:=cells6 B5.out
      gi_wp2
      refine start_round (m:=19) (S:=fun w'=>w'.cell? ⟨g3,0,none⟩=some (.pointer (some ⟨gs,0,none⟩))∧w'.cell? ⟨gs,0,none⟩=some (.bool b0)∧w'.cell? ⟨gs,1,none⟩=some (.bool b1)∧w'.cell? ⟨gs,2,none⟩=some (.bool b2)∧w'.cell? ⟨gs,3,none⟩=some (.bool b3)∧w'.cell? ⟨gs,4,none⟩=some (.bool b4)∧w'.cell? ⟨gs,5,none⟩=some (.bool b5)∧w'.cell? ⟨gs,6,none⟩=some (.bool b6)∧w'.cell? ⟨gs,7,none⟩=some (.int .i64 n0)∧w'.cell? ⟨gs,8,none⟩=some (.int .i64 n1)∧w'.cell? ⟨gs,9,none⟩=some (.int .i64 n2)∧w'.cell? ⟨g5,1,none⟩=some (.int .u8 63)∧w'.cell? ⟨g5,4,none⟩=some (.int .u8 104)) (ds:=[18]) #[false,false,false,false,false,false,false,false,false,false,false,false,false,false,false,false,false,false,false] (by kernel_rfl) (by rintro ⟨_,_,h⟩;exact h) (by kernel_rfl) rfl rfl ⟨q3_0,qs.1,qs.2.1,qs.2.2.1,qs.2.2.2.1,qs.2.2.2.2.1,qs.2.2.2.2.2.1,qs.2.2.2.2.2.2.1,qs.2.2.2.2.2.2.2.1,qs.2.2.2.2.2.2.2.2.1,qs.2.2.2.2.2.2.2.2.2.1,q5.2.1,q5.2.2.2.2.1⟩ (fun hHeld=>?_)
      refine pu 5 (h:=?_)
      refine pu 8 (h:=?_)
      refine pu 9 (h:=?_)
      refine tk 0 hHeld (h:=?_)
      refine tk 1 hHeld (h:=?_)
      refine pu 2 (h:=?_)
      refine pu 3 (h:=?_)
      refine tk 4 hHeld (h:=?_)
      refine tk 6 hHeld (h:=?_)
      refine pu 7 (h:=?_)
      refine tk 10 hHeld (h:=?_)
      refine pu 11 (h:=?_)
      refine oS 12 (h:=fun K hK=>?_)
      refine gc Tryz.func202 (set_calls b0 b1 b2 b3 b4 b5 b6 n0 n1 n2 _) (h:=?_)
      rintro e w5 ⟨rfl,hb⟩
      refine ⟨_,rfl,?_⟩
      replace Bs:=kb Bs hb
      clear qs
      have qs:=cells24 Bs.out
      replace B3:=kb B3 hb
      clear q3_0
      have q3_0:=cells1 B3.out
      replace B5:=kb B5 hb
      clear q5
      have q5:=cells6 B5.out
      replace HB:=bh HB hb
      replace HK:=Aside0.mk (by first | exact Kept.below HK.out hb | exact Kept.below (Kept.below HK.out (below_drew1 (Below.refl _ _))) hb)
      replace HW:=bh HW hb
      clear hb
      refine hK.out _ _ ⟨q3_0,qs.1,qs.2.1,qs.2.2.1,qs.2.2.2.1,qs.2.2.2.2.1,qs.2.2.2.2.2.1,qs.2.2.2.2.2.2.1,qs.2.2.2.2.2.2.2.1,qs.2.2.2.2.2.2.2.2.1,qs.2.2.2.2.2.2.2.2.2.1,q5.2.1,q5.2.2.2.2.1⟩ (fun hHeld=>?_)
      clear hK K
      refine nm 24 (h:=?_)
      refine pu 13 (h:=?_)
      refine pu 14 (h:=?_)
      refine pu 15 (h:=?_)
      refine pu 16 (h:=?_)
      refine pu 17 (h:=?_)
      refine lN 18 (h:=fun K hK=>?_)
      refine store_step (by rfl) (by rfl) 32 (.tmp 28) (.tmp 25) (by rfl) gs 0 70 _ Bs.out (by rfl) _ (by rfl) [.bool b0,.bool b1,.bool b2,.bool b3,.bool true,.bool b5,.bool b6,.int .i64 n0,.int .i64 n1,.int .i64 n2] rfl (by kernel_rfl) (by show 0+10≤24;decide) (by simp [Value.oneCell']) #[.bool b0,.bool b1,.bool b2,.bool b3,.bool true,.bool b5,.bool b6,.int .i64 n0,.int .i64 n1,.int .i64 n2,.int .u8 0,.int .u8 0,.int .u8 0,.int .u8 0,.int .u8 0,.int .u8 0,.int .u8 0,.int .u8 0,.int .u8 0,.int .u8 0,.int .u8 0,.int .u8 0,.int .i64 now,.slice kA kn kc] rfl ?_
      intro w6 hS hg
      replace B3:=gnx B3 hg Bs
      clear q3_0
      have q3_0:=cells1 B3.out
      replace B5:=gnx B5 hg Bs
      clear q5
      have q5:=cells6 B5.out
      replace HB:=gb HB hg Gs
      replace HK:=Aside0.mk (Kept.of_grown hg HK.out (fun k hk=>.inl (by injection hk with hk;exact hk.symm)))
      have HKF:=Aside0.mk (keepsFrom_grown (D:=w4.heap.size) HW.out hg Bs.out)
      have HKP:=Aside0.mk (keeps_grown (b:=gq) HN0.out HLQ.out HW.out hg Gs.out NQ.out)
      clear Bs qs hg
      have Bs:=Aside0.mk hS
      clear hS
      have qs:=cells24 Bs.out
      refine hK.out _ _ ?_
      clear hK K
      refine done_ (by kernel_rfl) ?_
      exact ⟨HKF.out,HKP.out,Bs.out,B3.out,B5.out,HB.out,HK.out,Nat.le_trans HLS.out HKF.out.1⟩
  case done =>
    intro D W hD hS hDW
    obtain ⟨hs1,hs2,hs3,hs4,hs6,hs5⟩:=hS
    go_wp2
    refine ⟨by simp,.inl ⟨_,_,rfl,run_takeDeferred hDW,?_⟩⟩
    exact ⟨_,results_tmp rfl _ _ _,rfl,blk_putD hs1 hDW,below_putD hs4 (Nat.le_trans HB.out.size hD),kept_putD hs6 (Nat.le_trans HK.out.1 hD)⟩
end Go.Proofs.YthjacokachgmfaaGreatDoor.H
end
section
namespace Go.Proofs.YthjacokachgmfaaGreatDoor.H
open Go Go.RowKit YthjacokachgmfaaGreatDoorW.PrintWords YthjacokachgmfaaGreatDoorW.PrintLast YthjacokachgmfaaGreatDoorW.PrintMore
open Ev
set_option maxRecDepth 100000
set_option maxHeartbeats 8000000 in
theorem amode_calls (b0 b1 b2 b3 b5 b6:Bool) (n0 n1 n2 now:Int) (kA:Option Addr) (kn kc:Nat) (fin:Int) (inter data:ByteArray) (pA:Option Addr) (pc:Nat) (gs:Nat) (w0 w:World) (hB:Below w0.heap.size w0 w) (hs:w.heap[gs]?=some (.cells #[.bool b0,.bool b1,.bool b2,.bool b3,.bool true,.bool b5,.bool b6,.int .i64 n0,.int .i64 n1,.int .i64 n2,.int .u8 0,.int .u8 0,.int .u8 0,.int .u8 0,.int .u8 0,.int .u8 0,.int .u8 0,.int .u8 0,.int .u8 0,.int .u8 0,.int .u8 0,.int .u8 0,.int .i64 now,.slice kA kn kc] 70 (0,0))) (hC:Kd.C kli w pA 1 [[2004]]) :
    Calls Tryz.prog 155 #[.pointer (some ⟨gs,0,none⟩),.agg #[.int .i64 0,.int .i64 0,.int .i64 0,.int .i64 0,.int .i64 0,.int .i64 0,.int .i64 0,.int .i64 0,.int .i64 0,.bool false,.bool false,.bool false,.bool false,.bool false,.bool false,.bool false,.int .i64 0,.int .i64 0,.int .i64 0],.agg #[.int .i64 1,.int .u8 63,.slice pA 1 pc,.string inter,.int .u8 fin,.string data]] w fun e w'=>∃ ga Av cv,e=.returned (.slice (some ⟨ga,0,none⟩) 1 1)∧w0.heap.size≤ga∧w'.heap[ga]?=some (.cells #[.int .i64 1,.int .u8 63,.slice Av 2 cv,.string ⟨#[36]⟩,.int .u8 121,.string ⟨#[]⟩] 44 (0,0))∧kli.R 66 w' w0.heap.size (fun _=>True) (.slice Av 2 cv) [[2004],[1]]∧w'.heap[gs]?=some (.cells #[.bool b0,.bool b1,.bool b2,.bool b3,.bool true,.bool b5,.bool b6,.int .i64 n0,.int .i64 n1,.int .i64 n2,.int .u8 0,.int .u8 0,.int .u8 0,.int .u8 0,.int .u8 0,.int .u8 0,.int .u8 0,.int .u8 0,.int .u8 0,.int .u8 0,.int .u8 0,.int .u8 0,.int .i64 now,.slice kA kn kc] 70 (0,0))∧Below w0.heap.size w0 w':=by
  have Bs:=Aside0.mk hs
  have HB:=Aside0.mk hB
  have HC:=Aside0.mk hC
  clear hB hs hC
  have qs:=cells24 Bs.out
  go_enter Tryz.func155,Tryz.ntmps155
  go_wp2_with (first|(refine bx 4 #[.int .i64 0,.int .i64 0,.int .i64 0,.int .i64 0,.int .i64 0,.int .i64 0,.int .i64 0,.int .i64 0,.int .i64 0,.bool false,.bool false,.bool false,.bool false,.bool false,.bool false,.bool false,.int .i64 0,.int .i64 0,.int .i64 0] 26 (h:=?_);intro g4 hg w1 hbox hb;have HBo:=HB;replace Bs:=kb Bs hb;clear qs;have qs:=cells24 Bs.out;replace HB:=bh HB hb;replace HC:=Aside0.mk (by first | exact Kd.C_below HC.out hb | exact Kd.C_below (Kd.C_below HC.out (below_drew1 (Below.refl _ _))) hb);have B4:=Aside0.mk hbox;have q4:=cells19 B4.out;have G4:=gG HBo hg;clear hbox hb hg HBo)|(refine bx 5 #[.int .i64 1,.int .u8 63,.slice pA 1 pc,.string inter,.int .u8 fin,.string data] 44 (h:=?_);intro g5 hg w2 hbox hb;have HBo:=HB;replace Bs:=kb Bs hb;clear qs;have qs:=cells24 Bs.out;replace B4:=kb B4 hb;clear q4;have q4:=cells19 B4.out;replace HB:=bh HB hb;replace HC:=Aside0.mk (by first | exact Kd.C_below HC.out hb | exact Kd.C_below (Kd.C_below HC.out (below_drew1 (Below.refl _ _))) hb);have B5:=Aside0.mk hbox;have q5:=cells6 B5.out;have G5:=gG HBo hg;clear hbox hb hg HBo))
  refine st 12 (fun w'=>w'.cell? ⟨gs,0,none⟩=some (.bool b0)∧w'.cell? ⟨gs,1,none⟩=some (.bool b1)∧w'.cell? ⟨gs,2,none⟩=some (.bool b2)∧w'.cell? ⟨gs,3,none⟩=some (.bool b3)∧w'.cell? ⟨gs,4,none⟩=some (.bool true)∧w'.cell? ⟨gs,5,none⟩=some (.bool b5)∧w'.cell? ⟨gs,6,none⟩=some (.bool b6)∧w'.cell? ⟨gs,7,none⟩=some (.int .i64 n0)∧w'.cell? ⟨gs,8,none⟩=some (.int .i64 n1)∧w'.cell? ⟨gs,9,none⟩=some (.int .i64 n2)∧w'.cell? ⟨g5,0,none⟩=some (.int .i64 1)∧w'.cell? ⟨g5,1,none⟩=some (.int .u8 63)∧w'.cell? ⟨g5,2,none⟩=some (.slice pA 1 pc)∧w'.cell? ⟨g5,3,none⟩=some (.string inter)∧w'.cell? ⟨g5,4,none⟩=some (.int .u8 fin)∧w'.cell? ⟨g5,5,none⟩=some (.string data)) [] (hS:=⟨qs.1,qs.2.1,qs.2.2.1,qs.2.2.2.1,qs.2.2.2.2.1,qs.2.2.2.2.2.1,qs.2.2.2.2.2.2.1,qs.2.2.2.2.2.2.2.1,qs.2.2.2.2.2.2.2.2.1,qs.2.2.2.2.2.2.2.2.2.1,q5.1,q5.2.1,q5.2.2.1,q5.2.2.2.1,q5.2.2.2.2.1,q5.2.2.2.2.2⟩) (h:=fun hHeld=>?_)
  refine pu 0 (h:=?_)
  refine pu 1 (h:=?_)
  refine pu 2 (h:=?_)
  refine pu 4 (h:=?_)
  refine tk 3 hHeld (h:=?_)
  refine tk 5 hHeld (h:=?_)
  refine pu 6 (h:=?_)
  refine tk 7 hHeld (h:=?_)
  refine oS 8 (h:=fun K hK=>?_)
  refine gc Tryz.func206 (arg_calls 1 63 fin 2004 0 inter data pA pc _ (Kd.C_below HC.out (below_drew1 (Below.refl _ _))) (by decide)) (h:=?_)
  rintro e w3 ⟨rfl,hb⟩
  refine ⟨_,rfl,?_⟩
  replace Bs:=kb Bs hb
  clear qs
  have qs:=cells24 Bs.out
  replace B4:=kb B4 hb
  clear q4
  have q4:=cells19 B4.out
  replace B5:=kb B5 hb
  clear q5
  have q5:=cells6 B5.out
  replace HB:=bh HB hb
  replace HC:=Aside0.mk (by first | exact Kd.C_below HC.out hb | exact Kd.C_below (Kd.C_below HC.out (below_drew1 (Below.refl _ _))) hb)
  clear hb
  refine hK.out _ _ ⟨qs.1,qs.2.1,qs.2.2.1,qs.2.2.2.1,qs.2.2.2.2.1,qs.2.2.2.2.2.1,qs.2.2.2.2.2.2.1,qs.2.2.2.2.2.2.2.1,qs.2.2.2.2.2.2.2.2.1,qs.2.2.2.2.2.2.2.2.2.1,q5.1,q5.2.1,q5.2.2.1,q5.2.2.2.1,q5.2.2.2.2.1,q5.2.2.2.2.2⟩ (fun hHeld=>?_)
  clear hK K
  refine nm 15 (h:=?_)
  refine oS 9 (h:=fun K hK=>?_)
  have HBo:=HB
  refine gc Tryz.func210 (rmode_calls b0 b1 b2 b3 b5 b6 n0 n1 n2 _) (h:=?_)
  rintro e w4 ⟨Av,cv,rfl,hR,hb⟩
  refine ⟨_,rfl,?_⟩
  replace Bs:=kb Bs hb
  clear qs
  have qs:=cells24 Bs.out
  replace B4:=kb B4 hb
  clear q4
  have q4:=cells19 B4.out
  replace B5:=kb B5 hb
  clear q5
  have q5:=cells6 B5.out
  replace HB:=bh HB hb
  replace HC:=Aside0.mk (by first | exact Kd.C_below HC.out hb | exact Kd.C_below (Kd.C_below HC.out (below_drew1 (Below.refl _ _))) hb)
  have HKL:=Aside0.mk (Kd.R_lower hR (by first | exact below_size HBo.out | exact below_size (below_drew1 HBo.out)))
  clear hR HBo
  clear hb
  refine hK.out _ _ ⟨qs.1,qs.2.1,qs.2.2.1,qs.2.2.2.1,qs.2.2.2.2.1,qs.2.2.2.2.2.1,qs.2.2.2.2.2.2.1,qs.2.2.2.2.2.2.2.1,qs.2.2.2.2.2.2.2.2.1,qs.2.2.2.2.2.2.2.2.2.1,q5.1,q5.2.1,q5.2.2.1,q5.2.2.2.1,q5.2.2.2.2.1,q5.2.2.2.2.2⟩ (fun hHeld=>?_)
  clear hK K
  refine nm 16 (h:=?_)
  refine oS 10 (h:=fun K hK=>?_)
  refine slice_step 17 (by rfl) (by rfl) (cs:=#[.int .i64 1,.int .u8 63,.slice Av 2 cv,.string ⟨#[36]⟩,.int .u8 121,.string ⟨#[]⟩]) (t:=44) (by first|(go_simp;done)|(go_simp;rfl)) ?_
  intro ga hg w5 hbox hb
  have L5_:=blk_lt B5.out
  have HBo:=HB
  replace Bs:=kb Bs hb
  clear qs
  have qs:=cells24 Bs.out
  replace B4:=kb B4 hb
  clear q4
  have q4:=cells19 B4.out
  replace B5:=kb B5 hb
  clear q5
  have q5:=cells6 B5.out
  replace HB:=bh HB hb
  replace HC:=Aside0.mk (by first | exact Kd.C_below HC.out hb | exact Kd.C_below (Kd.C_below HC.out (below_drew1 (Below.refl _ _))) hb)
  replace HKL:=Aside0.mk (Kd.R_below HKL.out hb)
  have Ba:=Aside0.mk hbox
  have qa:=cells6 Ba.out
  have NEa_5:=Aside0.mk (show ga≠g5 by rw [hg];exact fun e=>absurd L5_ (by rw [← e];exact Nat.lt_irrefl _))
  have NE5_a:=Aside0.mk (Ne.symm NEa_5.out)
  clear L5_
  have Ga:=Aside0.mk (show w0.heap.size≤ga by rw [hg];first | exact below_size HBo.out | exact below_size (below_drew1 HBo.out))
  clear hbox hb hg HBo
  refine hK.out _ _ ⟨qs.1,qs.2.1,qs.2.2.1,qs.2.2.2.1,qs.2.2.2.2.1,qs.2.2.2.2.2.1,qs.2.2.2.2.2.2.1,qs.2.2.2.2.2.2.2.1,qs.2.2.2.2.2.2.2.2.1,qs.2.2.2.2.2.2.2.2.2.1,q5.1,q5.2.1,q5.2.2.1,q5.2.2.2.1,q5.2.2.2.2.1,q5.2.2.2.2.2⟩ (fun hHeld=>?_)
  clear hK K
  refine nm 17 (h:=?_)
  refine pu 11 (h:=?_)
  refine done_ (by kernel_rfl) ?_
  clear hHeld
  go_wp2
  go_ret
  exact ⟨ga,Av,cv,rfl,Ga.out,Ba.out,HKL.out,Bs.out,HB.out⟩
end Go.Proofs.YthjacokachgmfaaGreatDoor.H
end
section
namespace Go.Proofs.YthjacokachgmfaaGreatDoor.H
open Go.RowKit YthjacokachgmfaaGreatDoorW.PrintWords YthjacokachgmfaaGreatDoorW.PrintLast YthjacokachgmfaaGreatDoorW.PrintMore
def slices_Clone_int_int.f (l0:List Int):Option (List Int):=if l0.length < 17592186044416 then some l0 else none
theorem clone_nil (c0:Nat) (w:World):Calls Tryz.prog 251 #[.slice none 0 c0] w fun e w'=>e=.returned (.slice none 0 0)∧w'=w:=by
  have qT:∀ (w:World) (a:Option Addr) (n c n' c':Nat),(binOp .eql 66 (.slice a n c) (.slice none n' c')).run Tryz.prog w=.ok (.bool a.isNone) w:=fun w a n c n' c'=>Lib.run_eql_slice_nil w _ _ a n c n' c' Tryz.underlying66
  go_enter Tryz.func251,Tryz.ntmps251
  go_wp2
  go_ret
  exact ⟨rfl,rfl⟩
set_option maxHeartbeats 1000000 in
theorem clone_some (ad:Addr) (c0:Nat) (l0:List Int) (w:World) (hr0:Kd.C (Kd.int .i64) w (some ad) l0.length l0) (hc0:l0.length≤c0) (hl:l0.length < 17592186044416) :
    Calls Tryz.prog 251 #[.slice (some ad) l0.length c0] w fun e w'=>∃ v0_:Value,e=.returned (v0_)∧Kd.R (Kd.int .i64) 3 w' w.heap.size (fun _=>True) v0_ l0∧Below w.heap.size w w':=by
  have qT:∀ (w:World) (a:Option Addr) (n c n' c':Nat),(binOp .eql 66 (.slice a n c) (.slice none n' c')).run Tryz.prog w=.ok (.bool a.isNone) w:=fun w a n c n' c'=>Lib.run_eql_slice_nil w _ _ a n c n' c' Tryz.underlying66
  have HR:=Aside0.mk hr0
  have HL:=Aside0.mk hl
  clear hr0 hl
  go_enter Tryz.func251,Tryz.ntmps251
  go_wp2_with (first|((with_reducible refine gate_dst (N:=5) rfl ?_);refine Kd.R_lit (Kd.int .i64) _ 3 ?hg (N:=5) ?hd (xs:=([]:List Int)) (inner:=[]) (ok:=fun _=>True) (okp:=fun _=>True) ?hr ?hp (fun _ hk=>hk) trivial (Below.refl _ _) (Nat.le_refl _) (by simp) ?_;(case hd=>rfl);(case hg=>rfl);(case hr=>first|(go_simp;done)|(go_simp;rfl));(case hp=>exact (Reps.none _ _));intro v130 w12 ho13 hb hg_ hnew_;clear hg_ hnew_;have HO:=Aside0.mk ho13;have HB:=Aside0.mk hb;clear ho13 hb)|((with_reducible refine gate_builtin (b:=.append) (xs:=#[.tmp 5,.tmp 6]) rfl ?_);at_builtin;refine Kd.R_append_rows (Kd.int .i64) (w0:=w) w.heap.size rfl (.tmp 5) (.tmp 6) 66 3 (.int .i64 0) 8 rfl Tryz.underlying66 info3 rfl (by decide) (by omega) v130 [] l0 _ _ _ (fun _=>True) (fun _=>False) rfl rfl ?aO ?aR (fun _ _ h=>h) (fun _ h=>h.elim) ?aF ?aB ?aS ?aL ?_;(case aR=>exact (Kd.C_below HR.out HB.out));(case aB=>exact HB.out);(case aF=>exact (fun _ _=>trivial));(case aO=>exact HO.out);(case aS=>exact HB.out.size);(case aL=>have:=HL.out;simp;omega);intro v133 w16 ho hb hg hat;have HO2:=Aside0.mk ho;have HB2:=Aside0.mk hb;clear ho hb hg hat))
  go_ret
  exact ⟨_,rfl,HO2.out,HB2.out⟩
theorem slices_Clone_int_int.calls (A0:Option Addr) (c0:Nat) (l0:List Int) (r:List Int) (w:World) (hr0:Kd.C (Kd.int .i64) w A0 l0.length l0) (hc0:l0.length≤c0) (h:slices_Clone_int_int.f l0=some r) :
    Calls Tryz.prog 251 #[.slice A0 l0.length c0] w fun e w'=>∃ v0_:Value,e=.returned (v0_)∧Kd.R (Kd.int .i64) 3 w' w.heap.size (fun _=>True) v0_ r∧Below w.heap.size w w':=by
  unfold slices_Clone_int_int.f at h
  by_cases hl:l0.length < 17592186044416
  · rw [if_pos hl] at h
    obtain rfl:=Option.some.inj h
    cases A0 with
    | none =>
      have h0:l0=[]:=by
        cases l0 with
        | nil=>rfl
        | cons x l=>obtain ⟨ad,e,_⟩:=hr0.2.2 (by simp);cases e
      subst h0
      refine (clone_nil c0 w).mono ?_
      rintro e w' ⟨rfl,rfl⟩
      exact ⟨_,rfl,Kd.R_nil _ _ _ _ _,Below.refl _ _⟩
    | some ad=>exact clone_some ad c0 l0 w hr0 hc0 hl
  · rw [if_neg hl] at h
    cases h
end Go.Proofs.YthjacokachgmfaaGreatDoor.H
end
section
namespace Go.Proofs.YthjacokachgmfaaGreatDoor.G
open YthjacokachgmfaaGreatDoor.H Go.RowKit YthjacokachgmfaaGreatDoorW.PrintWords YthjacokachgmfaaGreatDoorW.PrintLast YthjacokachgmfaaGreatDoorW.PrintMore
attribute [local go_sem] max2_int min2_int max_two min_two max_three min_three max_four min_four
def errW:Option Int→Value
  | none=>.nilIface
  | some c=>.iface 0 (.int .i64 c)
theorem errW_none:errW none=.nilIface:=rfl
theorem errW_some (c:Int):errW (some c)=.iface 0 (.int .i64 c):=rfl
theorem info3:(Tryz.prog.info? 3).map (fun i=>(i.zero,i.size,i.bytes))=some (some (.int .i64 0),1,8):=by kernel_rfl
end Go.Proofs.YthjacokachgmfaaGreatDoor.G
end
section
namespace Go.Proofs.YthjacokachgmfaaGreatDoor.G
open YthjacokachgmfaaGreatDoor.H Go.RowKit YthjacokachgmfaaGreatDoorW.PrintWords YthjacokachgmfaaGreatDoorW.PrintLast YthjacokachgmfaaGreatDoorW.PrintMore
attribute [local go_sem] max2_int min2_int max_two min_two max_three min_three max_four min_four
def stack_flagsOf.f (a0:Int):Option (Int):=some (Go.bits .and .i64 (mx a0 0) 31)
set_option maxHeartbeats 8000000 in
set_option maxRecDepth 100000 in
theorem stack_flagsOf.calls (a0:Int) (r:Int) (w:World) (h:stack_flagsOf.f a0=some r) :
    Calls Tryz.prog 252 #[.int .i64 a0] w fun e w'=>e=.returned (.int .i64 r)∧Below w.heap.size w w':=by
  have HB:=Aside0.mk (Below.refl w.heap.size w)
  have H:(some (Go.bits .and .i64 (mx a0 0) 31))=some r:=h
  clear h
  obtain ⟨ji2,hji2⟩:∃ j_:Int,(mx a0 0)=j_:=⟨_,rfl⟩
  replace H:(some (Go.bits .and .i64 (ji2) 31))=some r:=by first|(rw [hji2] at H;exact H)|(simp only [hji2] at H ⊢;exact H)
  (try (have hji2l:0≤ji2:=by (rw [← hji2];unfold mx;(repeat' split)<;>omega)))
  (try (have hji2m:0≤ji2:=by omega))
  have hji2_:(if a0 < 0 then 0 else a0)=ji2:=hji2
  obtain rfl:=Option.some.inj H
  go_enter Tryz.func252,Tryz.ntmps252
  go_wp2
  go_ret
  exact ⟨by first | rfl|(simp [errW_none,errW_some]<;>rfl)|(simp only [← hji2];first | rfl|(simp [errW_none,errW_some]<;>rfl))|(simp [*,errW_none,errW_some]<;>rfl),by repeat (first|(with_reducible first | exact HB.out | apply below_alloc | apply pw_below_drewN | apply below_drew1) | exact HB.out)⟩
end Go.Proofs.YthjacokachgmfaaGreatDoor.G
end
