import Derived.Test.YthjacokachgmfaaGreatDoorProg
import Derived.Lib.ConvBytes
import Derived.Outline
import Derived.Maps.AppendAt
import Derived.WalkSpells
import Derived.Lib.Bytes
import Derived.RangeFuncNested
import Derived.RangeFuncBound
import Derived.RangeFuncCalls
import Derived.RangeFuncLeaves
import Derived.RangeFuncBox
import Derived.Below
import Derived.Shelf.Abstract
import Derived.Shelf.RegionOpen
import Derived.BigRegionIn
import Derived.WalkKit
import Derived.OwnWalkIn
import Derived.TacticsInMore
import Derived.LoopNIn
import Derived.LoopIn
import Derived.Test.YthjacokachgmfaaGreatDoorT01
import Derived.Test.YthjacokachgmfaaGreatDoorT02
import Derived.Test.YthjacokachgmfaaGreatDoorT03
import Derived.Test.YthjacokachgmfaaGreatDoorT14
set_option linter.unusedVariables false
set_option linter.unusedSimpArgs false
section
namespace Go.Proofs.YthjacokachgmfaaGreatDoor.H
open Go Go.RowKit Go.Lib YthjacokachgmfaaGreatDoorW.PrintWords
def numsS (s:ByteArray):List Int:=s.data.toList.map (fun b=>(b.toNat:Int))
theorem numsS_len (s:ByteArray):(numsS s).length=s.size:=by unfold numsS;rw [List.length_map,Array.length_toList];rfl
theorem numsS_bytes (s:ByteArray):∀ z∈numsS s,0≤z∧z≤255:=by
  intro z hz
  obtain ⟨b,_,rfl⟩:=List.mem_map.1 hz
  have:=b.toNat_lt
  omega
theorem cap_le (w:World) (n e:Nat):n≤grownCap w n 0 e:=grownCap_ge w n 0 e
theorem conv_c (w:World) (s:ByteArray) (hs:s.size≤2000000):Kd.C (Kd.int .u8) (bytesWorld w 5 s) (some ⟨w.heap.size,0,none⟩) (numsS s).length (numsS s):=by
  refine ⟨rfl,by rw [numsS_len];omega,fun _=>⟨_,rfl,fun j p hp=>⟨[.int .u8 p],rfl,rfl,fun i u hu=>?_⟩⟩⟩
  have hj:=(List.getElem?_eq_some_iff.1 hp).1
  rw [numsS_len] at hj
  have e:(⟨w.heap.size,0,none⟩:Addr).add (j * (Kd.int .u8).sz+i)=⟨w.heap.size,j,none⟩:=by
    have:i=0:=by
      have:=(List.getElem?_eq_some_iff.1 hu).1
      simp at this
      omega
    subst this
    show (⟨w.heap.size,0,none⟩:Addr).add (j * 1+0)=_
    simp [Addr.add]
    try omega
  have:i=0:=by
    have:=(List.getElem?_eq_some_iff.1 hu).1
    simp at this
    omega
  subst this
  cases hu
  rw [e,bytesWorld_cell w _ s j hj]
  congr 2
  have h2:=hp
  unfold numsS at h2
  rw [List.getElem?_map] at h2
  rw [List.getD_eq_getElem?_getD]
  cases h3:s.data.toList[j]? with
  | none=>rw [h3] at h2;cases h2
  | some b=>rw [h3] at h2;cases h2;rfl
theorem conv_below (w:World) (s:ByteArray):Below w.heap.size w (bytesWorld w 5 s):=by
  refine ⟨?_,?_,?_,by rw [bytesWorld_size];omega,fun k hk=>bytesWorld_at_old w _ s k hk⟩
  all_goals (unfold bytesWorld World.freeze;split<;>rfl)
end Go.Proofs.YthjacokachgmfaaGreatDoor.H
namespace Go.Proofs.YthjacokachgmfaaGreatDoor.H
open Go Go.RowKit Go.Lib YthjacokachgmfaaGreatDoorW.PrintWords YthjacokachgmfaaGreatDoorW.PrintLast YthjacokachgmfaaGreatDoorW.PrintMore YthjacokachgmfaaGreatDoor.F YthjacokachgmfaaGreatDoor.Pure
def okR (r:Int):Bool:=decide (32≤r)&&(decide (r < 127)||decide (159 < r))
def numC':Value→Int
  | .int _ n=>n
  | _=>0
def cleanB (l:List Int) (is:Bool):Bool:=is&&(decide (l.length≤8)&&l.all okR)
theorem all_at {l:List Int} {j:Nat} (hj:j < l.length) (h:(l.take j).all okR=true) (hr:okR (rd l j)=true):(l.take (j+1)).all okR=true:=by
  have e:rd l j=l[j]:=by
    show l.getD _ 0=_
    rw [show (j:Int).toNat=j by omega,List.getD_eq_getElem?_getD,List.getElem?_eq_getElem hj];rfl
  rw [List.take_succ_eq_append_getElem hj,List.all_append,h,← e]
  simp [hr]
theorem all_not {l:List Int} {j:Nat} (hj:j < l.length) (hr:okR (rd l j)=false):l.all okR=false:=by
  have e:rd l j=l[j]:=by
    show l.getD _ 0=_
    rw [show (j:Int).toNat=j by omega,List.getD_eq_getElem?_getD,List.getElem?_eq_getElem hj];rfl
  rw [List.all_eq_false]
  exact ⟨l[j],List.getElem_mem _,by rw [← e,hr];decide⟩
theorem conv_run (w:World) (s:ByteArray):(convert 9 22 (.string s)).run Tryz.prog w=.ok (.slice (some ⟨w.heap.size,0,none⟩) (numsS s).length (grownCap w s.size 0 5)) (bytesWorld w 5 s):=by
  rw [numsS_len]
  exact Go.Lib.run_convert_string_bytes w _ _ _ s Tryz.underlying9 Tryz.underlying22 Tryz.underlying5
set_option maxRecDepth 100000 in
set_option maxHeartbeats 4000000 in
theorem clean_t (s:ByteArray) (hs:s.size≤1100000) (w:World):Calls Tryz.prog 31 #[.string s] w fun e w'=>e=.returned (.bool (cleanB (allC (numsS s)).1 (allC (numsS s)).2))∧Below w.heap.size w w':=by
  have kc:=conv_run
  obtain ⟨l,is,hA⟩:∃ l is,allC (numsS s)=(l,is):=⟨_,_,rfl⟩
  have hR:=refall_eq (b:=numsS s) (numsS_bytes s) (by rw [numsS_len];omega) (s.size+12) (by rw [numsS_len];omega)
  rw [hA] at hR ⊢
  have HR:=Aside0.mk hR
  have HLL:=Aside0.mk (show l.length≤1100000 by have:=all_len (numsS s);rw [hA,numsS_len] at this;dsimp only at this;omega)
  clear hR hA
  have HS:=Aside0.mk hs
  have HB:=Aside0.mk (conv_below w s)
  have HCC:=Aside0.mk (conv_c w s (by omega))
  have HCP:=Aside0.mk (show (numsS s).length≤grownCap w s.size 0 5 by rw [numsS_len];exact cap_le _ _ _)
  cases is
  · go_enter Tryz.func31,Tryz.ntmps31
    go_wp2_with (go_at_call 70;(with_reducible refine (clavierref02_All.calls (s.size+12) _ _ (numsS s) l _ _ HCC.out HCP.out HR.out).mono ?_);rintro e w2 ⟨v2,rfl,hv2,hb2⟩;obtain ⟨A3,c3,rfl⟩:=Kd.R_slice hv2;have HO:=Aside0.mk hv2;have HB2:=Aside0.mk (below_step HB.out hb2);clear hv2 hb2 HB;have HB:=HB2;clear HB2)
    go_ret
    exact ⟨rfl,HB.out⟩
  by_cases hl:l.length≤8
  · have d0:decide ((l.length:Int) > 8)=false:=decide_eq_false (by omega)
    have HL8:=Aside0.mk hl
    clear hl
    go_enter Tryz.func31,Tryz.ntmps31
    go_wp2_with (go_at_call 70;(with_reducible refine (clavierref02_All.calls (s.size+12) _ _ (numsS s) l _ _ HCC.out HCP.out HR.out).mono ?_);rintro e w2 ⟨v2,rfl,hv2,hb2⟩;obtain ⟨A3,c3,rfl⟩:=Kd.R_slice hv2;have HO:=Aside0.mk hv2;have HB2:=Aside0.mk (below_step HB.out hb2);clear hv2 hb2 HB;have HB:=HB2;clear HB2)
    go_loopw [5] (fun v5 wr=>∃ (j:Nat),v5=.int .i64 (j:Int)∧j≤l.length∧Aside0 ((l.take j).all okR=true)∧wr=w2) (fun v5 _=>(l.length - numC' v5).toNat)
    case atStart=>exact ⟨0,rfl,Nat.zero_le _,⟨rfl⟩,rfl⟩
    case round =>
      obtain ⟨j,rfl,hj,HT,rfl⟩:=hrel
      by_cases hlt:j < l.length
      · obtain ⟨ad,e1,hx⟩:=Kd.at_int (Kd.R_reads' HO.out).2.2 (j:Int) (by omega) (by omega)
        subst e1
        have hx':wr.cell? (ad.add j)=some (.int .i64 (rd l j)):=by simpa using hx
        have hlL:=HLL.out
        have qi:(j < l.length)=True:=eq_true hlt
        obtain ⟨r,hr⟩:∃ r,rd l j=r:=⟨_,rfl⟩
        rw [hr] at hx hx'
        have HRR:=Aside0.mk hr
        clear hr
        by_cases k1:r < 32
        · have e1:decide (r < 32)=true:=decide_eq_true k1
          have HN:=Aside0.mk (show l.all okR=false from all_not hlt (by rw [HRR.out];simp [okR];omega))
          clear k1
          go_wp2
          go_ret
          exact ⟨by unfold cleanB;rw [HN.out];simp,HB.out⟩
        · have e1:decide (r < 32)=false:=decide_eq_false k1
          by_cases k2:r≥127
          · have e2:decide (r≥127)=true:=decide_eq_true k2
            by_cases k3:r≤159
            · have e3:decide (r≤159)=true:=decide_eq_true k3
              have HN:=Aside0.mk (show l.all okR=false from all_not hlt (by rw [HRR.out];simp [okR];omega))
              clear k1 k2 k3
              go_wp2
              go_ret
              exact ⟨by unfold cleanB;rw [HN.out];simp,HB.out⟩
            · have e3:decide (r≤159)=false:=decide_eq_false k3
              have HN:=Aside0.mk (all_at hlt HT.out (by rw [HRR.out];simp [okR];omega))
              clear k1 k2 k3
              go_wp2
              exact ⟨⟨j+1,by push_cast;rfl,hlt,HN,trivial⟩,by show ((l.length:Int) - ((j:Int)+1)).toNat < ((l.length:Int) - (j:Int)).toNat;omega⟩
          · have e2:decide (r≥127)=false:=decide_eq_false k2
            have HN:=Aside0.mk (all_at hlt HT.out (by rw [HRR.out];simp [okR];omega))
            clear k1 k2
            go_wp2
            exact ⟨⟨j+1,by push_cast;rfl,hlt,HN,trivial⟩,by show ((l.length:Int) - ((j:Int)+1)).toNat < ((l.length:Int) - (j:Int)).toNat;omega⟩
      · obtain rfl:j=l.length:=by omega
        go_wp2
        go_ret
        have h8:=HL8.out
        have ht:=HT.out
        rw [List.take_length] at ht
        exact ⟨by unfold cleanB;rw [decide_eq_true h8,ht];rfl,HB.out⟩
  · have d0:decide ((l.length:Int) > 8)=true:=decide_eq_true (by omega)
    have HL8:=Aside0.mk hl
    clear hl
    go_enter Tryz.func31,Tryz.ntmps31
    go_wp2_with (go_at_call 70;(with_reducible refine (clavierref02_All.calls (s.size+12) _ _ (numsS s) l _ _ HCC.out HCP.out HR.out).mono ?_);rintro e w2 ⟨v2,rfl,hv2,hb2⟩;obtain ⟨A3,c3,rfl⟩:=Kd.R_slice hv2;have HO:=Aside0.mk hv2;have HB2:=Aside0.mk (below_step HB.out hb2);clear hv2 hb2 HB;have HB:=HB2;clear HB2)
    go_ret
    have hl:=HL8.out
    exact ⟨by unfold cleanB;rw [decide_eq_false hl];rfl,HB.out⟩
def clavierref10_clean.f (a0:ByteArray):Option (Bool):=if a0.size≤1100000 then some (cleanB (allC (numsS a0)).1 (allC (numsS a0)).2) else none
theorem clavierref10_clean.calls (a0:ByteArray) (r:Bool) (w:World) (h:clavierref10_clean.f a0=some r) :
    Calls Tryz.prog 31 #[.string a0] w fun e w'=>e=.returned (.bool r)∧Below w.heap.size w w':=by
  unfold clavierref10_clean.f at h
  by_cases hs:a0.size≤1100000
  · rw [if_pos hs] at h
    obtain rfl:=Option.some.inj h
    exact clean_t a0 hs w
  · rw [if_neg hs] at h
    cases h
end Go.Proofs.YthjacokachgmfaaGreatDoor.H
end
section
namespace Go.Proofs.YthjacokachgmfaaGreatDoor.H
open Go Go.RowKit YthjacokachgmfaaGreatDoorW.PrintWords YthjacokachgmfaaGreatDoorW.PrintLast YthjacokachgmfaaGreatDoorW.PrintMore
theorem neq_nil (W:World):(binOp .neq 66 (.slice none 0 0) (.slice none 0 0)).run Tryz.prog W=.ok (.bool false) W:=by kernel_rfl
theorem neq_some (ad:Addr) (n c:Nat) (W:World):(binOp .neq 66 (.slice (some ad) n c) (.slice none 0 0)).run Tryz.prog W=.ok (.bool true) W:=by kernel_rfl
def padB (fr kd:Int):Bool:=decide (fr≥57399)&&(kd != 6)&&(kd != 7)
theorem str_em {s:ByteArray} (h:s.size≠0):s.toList.isEmpty=false:=by
  have hl:s.toList.length=s.size:=by rw [Go.Lib.toList_data];simp
  cases h2:s.toList with
  | nil=>rw [h2] at hl;simp at hl;omega
  | cons _ _=>rfl
theorem cell_al {w:World} {a:Addr} {v:Value} (h:w.cell? a=some v) (o:Obj):(w.alloc o).cell? a=some v :=
  (World.cell?_of_block (Below.heap_alloc w o a.block (World.block_lt_of_cell? w _ h))).trans h
theorem third (w:World) (o1 o2 o3:Obj):(((w.alloc o1).alloc o2).alloc o3).heap[w.heap.size+1]?=some o2 :=
  blk_alloc (by have:=blk_new (w.alloc o1) o2;rwa [World.size_alloc] at this) o3
set_option maxRecDepth 100000 in
set_option maxHeartbeats 2000000 in
theorem entry_1 (fr mn kd i:Int) (w:World):Calls Tryz.prog 121 #[.agg #[.int .i64 fr,.int .i64 mn,.int .i64 kd,.string ⟨#[]⟩,.slice none 0 0,.string ⟨#[]⟩],.int .i64 i] w fun e w'=>e=.returned (.agg #[.int .i64 kd,.int .u8 0,.int .i64 0,.int .i64 0,.bool (padB fr kd)])∧Below w.heap.size w w':=by
  have hu24:=Tryz.underlying93
  have hu47:=Tryz.underlying185
  have hu45:=Tryz.underlying66
  have q0:=neq_nil
  have q1:=neq_some
  go_enter Tryz.func121,Tryz.ntmps121
  go_wp2
  all_goals refine bodyPost_ret (results_cell_row rfl _ _ (w.heap.size+1) 93 #[.int .i64 kd,.int .u8 0,.int .i64 0,.int .i64 0,.bool (padB fr kd)] (0,0) _ rfl ?_ Tryz.underlying93 rfl (by kernel_rfl)) rfl ⟨rfl,?_⟩
  all_goals first|(repeat (first | exact Below.refl _ _ | apply below_alloc)) | skip
  all_goals (rw [third];simp [padB, *]<;>omega)
set_option maxRecDepth 100000 in
set_option maxHeartbeats 2000000 in
theorem entry_2 (fr mn kd i:Int) (ad:Addr) (n:Nat) (v:Int) (w:World) (h0:0≤i) (h1:i < n) (hc:w.cell? (ad.add i.toNat)=some (.int .i64 v)):Calls Tryz.prog 121 #[.agg #[.int .i64 fr,.int .i64 mn,.int .i64 kd,.string ⟨#[]⟩,.slice (some ad) n n,.string ⟨#[]⟩],.int .i64 i] w fun e w'=>e=.returned (.agg #[.int .i64 kd,.int .u8 0,.int .i64 v,.int .i64 0,.bool (padB fr kd)])∧Below w.heap.size w w':=by
  have hu24:=Tryz.underlying93
  have hu47:=Tryz.underlying185
  have hu45:=Tryz.underlying66
  have q0:=neq_nil
  have q1:=neq_some
  have p0:=eq_true h0
  have p1:=eq_true h1
  have hc3:∀ (o1 o2 o3:Obj),(((w.alloc o1).alloc o2).alloc o3).cell? (ad.add i.toNat)=some (.int .i64 v):=fun o1 o2 o3=>cell_al (cell_al (cell_al hc _) _) _
  clear h0 h1
  go_enter Tryz.func121,Tryz.ntmps121
  go_wp2
  all_goals refine bodyPost_ret (results_cell_row rfl _ _ (w.heap.size+1) 93 #[.int .i64 kd,.int .u8 0,.int .i64 v,.int .i64 0,.bool (padB fr kd)] (0,0) _ rfl ?_ Tryz.underlying93 rfl (by kernel_rfl)) rfl ⟨rfl,?_⟩
  all_goals first|(repeat (first | exact Below.refl _ _ | apply below_alloc)) | skip
  all_goals (rw [third];simp [padB, *]<;>omega)
set_option maxRecDepth 100000 in
set_option maxHeartbeats 2000000 in
theorem entry_3 (fr mn kd i:Int) (fin:ByteArray) (w:World) (h0:0≤i) (h1:i < fin.size):Calls Tryz.prog 121 #[.agg #[.int .i64 fr,.int .i64 mn,.int .i64 kd,.string fin,.slice none 0 0,.string ⟨#[]⟩],.int .i64 i] w fun e w'=>e=.returned (.agg #[.int .i64 kd,.int .u8 (bt fin i),.int .i64 0,.int .i64 0,.bool (padB fr kd)])∧Below w.heap.size w w':=by
  have hu24:=Tryz.underlying93
  have hu47:=Tryz.underlying185
  have hu45:=Tryz.underlying66
  have q0:=neq_nil
  have q1:=neq_some
  have hs:=str_em (s:=fin) (by omega)
  have hb:=bt_at fin i (by omega)
  go_enter Tryz.func121,Tryz.ntmps121
  go_wp2
  all_goals refine bodyPost_ret (results_cell_row rfl _ _ (w.heap.size+1) 93 #[.int .i64 kd,.int .u8 (bt fin i),.int .i64 0,.int .i64 0,.bool (padB fr kd)] (0,0) _ rfl ?_ Tryz.underlying93 rfl (by kernel_rfl)) rfl ⟨rfl,?_⟩
  all_goals first|(repeat (first | exact Below.refl _ _ | apply below_alloc)) | skip
  all_goals (rw [third];simp [padB, *]<;>omega)
set_option maxRecDepth 100000 in
set_option maxHeartbeats 2000000 in
theorem entry_4 (fr mn kd i:Int) (fin chr:ByteArray) (w:World) (h0:0≤i) (h1:i < fin.size) (h2:i < chr.size):Calls Tryz.prog 121 #[.agg #[.int .i64 fr,.int .i64 mn,.int .i64 kd,.string fin,.slice none 0 0,.string chr],.int .i64 i] w fun e w'=>e=.returned (.agg #[.int .i64 kd,.int .u8 (bt fin i),.int .i64 0,.int .i64 (wrap64 (bt chr i)),.bool (padB fr kd)])∧Below w.heap.size w w':=by
  have hu24:=Tryz.underlying93
  have hu47:=Tryz.underlying185
  have hu45:=Tryz.underlying66
  have q0:=neq_nil
  have q1:=neq_some
  have hs:=str_em (s:=fin) (by omega)
  have hs2:=str_em (s:=chr) (by omega)
  have hb:=bt_at fin i (by omega)
  have hb2:=bt_at chr i (by omega)
  go_enter Tryz.func121,Tryz.ntmps121
  go_wp2
  all_goals refine bodyPost_ret (results_cell_row rfl _ _ (w.heap.size+1) 93 #[.int .i64 kd,.int .u8 (bt fin i),.int .i64 0,.int .i64 (wrap64 (bt chr i)),.bool (padB fr kd)] (0,0) _ rfl ?_ Tryz.underlying93 rfl (by kernel_rfl)) rfl ⟨rfl,?_⟩
  all_goals first|(repeat (first | exact Below.refl _ _ | apply below_alloc)) | skip
  all_goals (rw [third];simp [padB, *]<;>omega)
end Go.Proofs.YthjacokachgmfaaGreatDoor.H
end
section
namespace Go.Proofs.YthjacokachgmfaaGreatDoor.H
open Go Go.RowKit YthjacokachgmfaaGreatDoorW.PrintWords YthjacokachgmfaaGreatDoorW.PrintLast YthjacokachgmfaaGreatDoorW.PrintMore
abbrev RowT:=Int × Int × Int × ByteArray × Option (Nat × List Int) × ByteArray
def TAB:List RowT:=[
  (9,1,2,⟨#[]⟩,none,⟨#[]⟩),
  (13,1,2,⟨#[]⟩,none,⟨#[]⟩),
  (27,1,2,⟨#[]⟩,none,⟨#[]⟩),
  (127,1,2,⟨#[]⟩,none,⟨#[]⟩),
  (57348,2,4,⟨#[]⟩,some (0,[2,3]),⟨#[]⟩),
  (57350,4,3,⟨#[68,67,65,66]⟩,none,⟨#[]⟩),
  (57354,2,4,⟨#[]⟩,some (1,[5,6]),⟨#[]⟩),
  (57356,2,3,⟨#[72,70]⟩,none,⟨#[]⟩),
  (57358,5,6,⟨#[]⟩,none,⟨#[]⟩),
  (57363,1,4,⟨#[]⟩,some (2,[29]),⟨#[]⟩),
  (57364,4,3,⟨#[80,81,82,83]⟩,none,⟨#[]⟩),
  (57368,8,4,⟨#[]⟩,some (3,[15,17,18,19,20,21,23,24]),⟨#[]⟩),
  (57376,23,6,⟨#[]⟩,none,⟨#[]⟩),
  (57399,18,5,⟨#[112,113,114,115,116,117,118,119,120,121,110,111,106,109,107,77,88,108]⟩,none,⟨#[48,49,50,51,52,53,54,55,56,57,46,47,42,45,43,13,61,44]⟩),
  (57417,4,3,⟨#[68,67,65,66]⟩,none,⟨#[]⟩),
  (57421,2,4,⟨#[]⟩,some (4,[5,6]),⟨#[]⟩),
  (57423,2,3,⟨#[72,70]⟩,none,⟨#[]⟩),
  (57425,2,4,⟨#[]⟩,some (5,[2,3]),⟨#[]⟩),
  (57427,1,3,⟨#[69]⟩,none,⟨#[]⟩),
  (57428,13,6,⟨#[]⟩,none,⟨#[]⟩),
  (57441,14,7,⟨#[]⟩,none,⟨#[]⟩)]
@[reducible] def numsV (s:Nat):Option (Nat × List Int)→Value
  | none=>.slice none 0 0
  | some (q,l)=>.slice (some ⟨s+q,0,none⟩) l.length l.length
@[reducible] def rowV (s:Nat) (r:RowT):List Value:=[.int .i64 r.1,.int .i64 r.2.1,.int .i64 r.2.2.1,.string r.2.2.2.1,numsV s r.2.2.2.2.1,.string r.2.2.2.2.2]
def rowsArr (s:Nat):Array Value:=(TAB.flatMap (rowV s)).toArray
def NUMS:List (List Int):=[[2,3],[5,6],[29],[15,17,18,19,20,21,23,24],[5,6],[2,3]]
def TabAt (s:Nat) (W:World):Prop:=W.heap[s+6]?=some (.cells (rowsArr s) 185 (0,0))∧∀ q l,NUMS[q]?=some l→W.heap[s+q]?=some (.cells (l.map (Value.int .i64)).toArray 3 (0,0))
set_option maxRecDepth 100000 in
set_option maxHeartbeats 4000000 in
theorem rows_c (w:World):Calls Tryz.prog 120 #[] w fun e w'=>e=.returned (.slice (some ⟨w.heap.size+6,0,none⟩) 21 21)∧Below w.heap.size w w'∧TabAt w.heap.size w':=by
  go_enter Tryz.func120,Tryz.ntmps120
  go_wp2
  go_ret
  refine ⟨rfl,?_,?_,?_⟩
  · repeat (first | exact Below.refl _ _ | apply below_alloc)
  · have h (W:World) (o:Obj) (n:Nat) (hn:W.heap.size=n):(W.alloc o).heap[n]?=some o:=hn ▸ blk_new W o
    exact h _ _ _ (by simp only [World.size_alloc])
  · intro q l hq
    have h (W:World) (o:Obj) (n:Nat) (hn:W.heap.size=n):(W.alloc o).heap[n]?=some o:=hn ▸ blk_new W o
    have hlt:q < 6:=by
      have:=(List.getElem?_eq_some_iff.1 hq).1
      exact this
    rcases q with _ | _ | _ | _ | _ | _ | q
    · cases hq;iterate 6 (refine blk_alloc ?_ _)
      exact h _ _ _ rfl
    · cases hq;iterate 5 (refine blk_alloc ?_ _)
      exact h _ _ _ (by simp only [World.size_alloc])
    · cases hq;iterate 4 (refine blk_alloc ?_ _)
      exact h _ _ _ (by simp only [World.size_alloc])
    · cases hq;iterate 3 (refine blk_alloc ?_ _)
      exact h _ _ _ (by simp only [World.size_alloc])
    · cases hq;iterate 2 (refine blk_alloc ?_ _)
      exact h _ _ _ (by simp only [World.size_alloc])
    · cases hq;iterate 1 (refine blk_alloc ?_ _)
      exact h _ _ _ (by simp only [World.size_alloc])
    · exfalso;omega
end Go.Proofs.YthjacokachgmfaaGreatDoor.H
end
section
namespace Go.Proofs.YthjacokachgmfaaGreatDoor.H
open Go Go.RowKit Go.Shelf YthjacokachgmfaaGreatDoorW.PrintWords YthjacokachgmfaaGreatDoorW.PrintLast YthjacokachgmfaaGreatDoorW.PrintMore
def KpD (n₀ D:Nat) (W W':World):Prop:=Below n₀ W W'∧∀ (k:Nat) (o:Obj),D≤k→W.heap[k]?=some o→o.isCells=true→W'.heap[k]?=some o
theorem KpD.trans {n₀ D:Nat} {A B C:World} (h:KpD n₀ D A B) (k:KpD n₀ D B C):KpD n₀ D A C:=⟨h.1.trans k.1,fun i o hi ho hc=>k.2 i o hi (h.2 i o hi ho hc) hc⟩
abbrev EntT:=Int × Int × Int × Int × Int × Bool
def entOf (r:RowT) (i:Int):EntT:=(r.1+i,r.2.2.1,(if r.2.2.2.1.size=0 then 0 else bt r.2.2.2.1 i),(match r.2.2.2.2.1 with | none=>0 | some (_,l)=>rd l i),(if r.2.2.2.2.2.size=0 then 0 else wrap64 (bt r.2.2.2.2.2 i)),padB r.1 r.2.2.1)
def entsR (r:RowT) (m:Nat):List EntT:=(List.range m).map (fun (i:Nat)=>entOf r i)
def ENTS (n:Nat):List EntT:=(TAB.take n).flatMap (fun r=>entsR r r.2.1.toNat)
@[reducible] def entV (x:EntT):Value:=.agg #[.int .i64 x.2.1,.int .u8 x.2.2.1,.int .i64 x.2.2.2.1,.int .i64 x.2.2.2.2.1,.bool x.2.2.2.2.2]
@[reducible] def encE (x:EntT):Array Value:=#[.int .i64 x.1,entV x]
theorem ents_next (r:RowT) (m:Nat):entsR r (m+1)=entsR r m++[entOf r m]:=by
  unfold entsR;rw [List.range_succ,List.map_append];rfl
theorem ENTS_next (n:Nat) (h:n < TAB.length):ENTS (n+1)=ENTS n++entsR TAB[n] TAB[n].2.1.toNat:=by
  unfold ENTS
  rw [List.take_succ_eq_append_getElem h,List.flatMap_append]
  simp
def shape (r:RowT):Prop:=1≤r.2.1∧0≤r.1∧r.1≤100000∧r.2.1≤100 ∧
  ((r.2.2.2.1=⟨#[]⟩∧r.2.2.2.2.1=none∧r.2.2.2.2.2=⟨#[]⟩) ∨
   (r.2.2.2.1=⟨#[]⟩∧(∃ q l,r.2.2.2.2.1=some (q,l)∧NUMS[q]?=some l∧r.2.1≤l.length)∧r.2.2.2.2.2=⟨#[]⟩) ∨
   (r.2.1≤r.2.2.2.1.size∧r.2.2.2.2.1=none∧r.2.2.2.2.2=⟨#[]⟩) ∨
   (r.2.1≤r.2.2.2.1.size∧r.2.2.2.2.1=none∧r.2.1≤r.2.2.2.2.2.size))
theorem shapes:∀ r∈TAB,shape r:=by
  intro r hr
  unfold TAB at hr
  simp only [List.mem_cons,List.not_mem_nil,or_false] at hr
  rcases hr with rfl | rfl | rfl | rfl | rfl | rfl | rfl | rfl | rfl | rfl | rfl | rfl | rfl | rfl | rfl | rfl | rfl | rfl | rfl | rfl | rfl
  all_goals refine ⟨by decide,by decide,by decide,by decide,?_⟩
  all_goals first
    | exact .inl ⟨rfl,rfl,rfl⟩
    | exact .inr (.inl ⟨rfl,⟨_,_,rfl,rfl,by decide⟩,rfl⟩)
    | exact .inr (.inr (.inl ⟨by decide,rfl,rfl⟩))
    | exact .inr (.inr (.inr ⟨by decide,rfl,by decide⟩))
theorem entry_c (s:Nat) (r:RowT) (hr:shape r) (i:Int) (h0:0≤i) (h1:i < r.2.1) (w:World) (hT:TabAt s w) :
    Calls Tryz.prog 121 #[.agg (rowV s r).toArray,.int .i64 i] w fun e w'=>e=.returned (entV (entOf r i))∧Below w.heap.size w w':=by
  obtain ⟨fr,mn,kd,fin,nums,chr⟩:=r
  obtain ⟨hm,-,-,-,⟨rfl,rfl,rfl⟩ | ⟨rfl,⟨q,l,rfl,hq,hl⟩,rfl⟩ | ⟨hf,rfl,rfl⟩ | ⟨hf,rfl,hc⟩⟩:=hr
  · exact entry_1 fr mn kd i w
  · have hn:=hT.2 q l hq
    have hil:i.toNat < l.length:=by have:i < (l.length:Int):=Int.lt_of_lt_of_le h1 hl;omega
    have hcell:w.cell? ((⟨s+q,0,none⟩:Addr).add i.toNat)=some (.int .i64 (rd l i)):=by
      have e:(⟨s+q,0,none⟩:Addr).add i.toNat=⟨s+q,i.toNat,none⟩:=by simp [Addr.add];omega
      rw [e,World.cell?,hn]
      have:l.getD i.toNat 0=l[i.toNat]:=by rw [List.getD_eq_getElem?_getD,List.getElem?_eq_getElem hil];rfl
      simp [rd,this,hil]
    exact entry_2 fr mn kd i ⟨s+q,0,none⟩ l.length (rd l i) w h0 (by omega) hcell
  · have:=entry_3 fr mn kd i fin w h0 (Int.lt_of_lt_of_le h1 hf)
    have e:entV (entOf (fr,mn,kd,fin,none,⟨#[]⟩) i)=.agg #[.int .i64 kd,.int .u8 (bt fin i),.int .i64 0,.int .i64 0,.bool (padB fr kd)]:=by
      simp only [entV,entOf]
      rw [if_neg (show ¬ fin.size=0 by dsimp only at hf hm;omega)]
      rfl
    rw [e]
    exact this
  · have:=entry_4 fr mn kd i fin chr w h0 (Int.lt_of_lt_of_le h1 hf) (Int.lt_of_lt_of_le h1 hc)
    have e:entV (entOf (fr,mn,kd,fin,none,chr) i)=.agg #[.int .i64 kd,.int .u8 (bt fin i),.int .i64 0,.int .i64 (wrap64 (bt chr i)),.bool (padB fr kd)]:=by
      simp only [entV,entOf]
      rw [if_neg (show ¬ fin.size=0 by dsimp only at hf hm;omega),if_neg (show ¬ chr.size=0 by dsimp only at hc hm;omega)]
    rw [e]
    exact this
theorem grown_of_belowK {W W':World} (h:Below W.heap.size W W'):W.grownBy W' none:=⟨h.os,h.tape,h.output,h.size,fun k hk _=>h.block k hk⟩
theorem flat6 {α β:Type} (f:α→List β) (hf:∀ a,(f a).length=6):∀ (L:List α) (i j:Nat) (h:i < L.length),j < 6→(L.flatMap f)[i * 6+j]?=(f L[i])[j]?:=by
  intro L
  induction L with
  | nil=>intro i j h;simp at h
  | cons a L ih =>
    intro i j h hj
    rw [List.flatMap_cons]
    cases i with
    | zero=>rw [Nat.zero_mul,Nat.zero_add,List.getElem?_append_left (by rw [hf];exact hj)];rfl
    | succ i =>
      rw [List.getElem?_append_right (by rw [hf];omega),hf,show (i+1) * 6+j - 6=i * 6+j by omega]
      exact ih i j (by simpa using h) hj
theorem row_cell {s:Nat} {W:World} (h:TabAt s W) (i j:Nat) (hi:i < TAB.length) (hj:j < 6) (v:Value) (hv:(rowV s TAB[i])[j]?=some v):W.cell? ⟨s+6,i * 6+j,none⟩=some v:=by
  rw [World.cell?,h.1]
  show (rowsArr s)[i * 6+j]?=_
  unfold rowsArr
  rw [List.getElem?_toArray,flat6 _ (fun a=>rfl) _ _ _ hi hj]
  exact hv
theorem TabAt.kp {s n₀ D:Nat} {W W':World} (h:TabAt s W) (hk:KpD n₀ D W W') (hD:D≤s):TabAt s W' :=
  ⟨hk.2 _ _ (by omega) h.1 rfl,fun q l hq=>hk.2 _ _ (by omega) (h.2 q l hq) rfl⟩
theorem TabAt.below {s:Nat} {W W':World} (h:TabAt s W) (hb:Below W.heap.size W W'):TabAt s W' :=
  ⟨blk_below h.1 hb,fun q l hq=>blk_below (h.2 q l hq) hb⟩
def numOf:Value→Int
  | .int _ n=>n
  | _=>0
theorem entsR_pre (r:RowT) (a:Nat):∀ c,entsR r a <+: entsR r (a+c):=by
  intro c
  induction c with
  | zero=>exact List.prefix_refl _
  | succ c ih=>rw [← Nat.add_assoc,ents_next];exact ih.trans (List.prefix_append _ _)
theorem ENTS_pre (n:Nat):ENTS n <+: ENTS 21:=by
  have e:ENTS 21=TAB.flatMap (fun r=>entsR r r.2.1.toNat):=rfl
  rw [e]
  unfold ENTS
  conv=>rhs;rw [← List.take_append_drop n TAB,List.flatMap_append]
  exact List.prefix_append _ _
theorem pre_next {i j:Nat} {r:RowT} (hr:TAB[i]?=some r) (hj:(j:Int) < r.2.1):(ENTS i++entsR r j)++[entOf r j] <+: ENTS 21:=by
  obtain ⟨hi,rfl⟩:=List.getElem?_eq_some_iff.1 hr
  rw [List.append_assoc,← ents_next]
  refine List.IsPrefix.trans ?_ (ENTS_pre (i+1))
  rw [ENTS_next i hi]
  refine List.prefix_append_right_inj _ |>.2 ?_
  obtain ⟨c,hc⟩:∃ c,TAB[i].2.1.toNat=(j+1)+c:=⟨TAB[i].2.1.toNat - (j+1),by omega⟩
  rw [hc]
  exact entsR_pre _ _ _
theorem ents_len:(ENTS 21).length=111:=by decide +kernel
theorem pre_len {i j:Nat} {r:RowT} (hr:TAB[i]?=some r) (hj:(j:Int) < r.2.1):(ENTS i++entsR r j).length < 1000:=by
  have h:=(pre_next hr hj).length_le
  rw [ents_len,List.length_append] at h
  omega
theorem yield_one {e:Ending} {A X:Prop} (h:(e=.returned (.bool true)∧A)∨(e=.returned (.bool false)∧X)):∃ b,e=.returned (.bool b)∧Aside0 ((b=true∧A)∨(b=false∧X)):=by
  rcases h with ⟨rfl,h⟩ | ⟨rfl,h⟩
  · exact ⟨true,rfl,⟨.inl ⟨rfl,h⟩⟩⟩
  · exact ⟨false,rfl,⟨.inr ⟨rfl,h⟩⟩⟩
theorem wrap_next {j:Nat} {mn:Int} (h:(j:Int) < mn) (h2:mn≤100):wrap64 ((j:Int)+1)=((j+1:Nat):Int):=by unfold wrap64;omega
theorem less_next {j:Nat} {mn:Int} (h:(j:Int) < mn):max (mn - ((j+1:Nat):Int)) 0 < mn - (j:Int):=by omega
theorem le_next {j:Nat} {mn:Int} (h:(j:Int) < mn):((j+1:Nat):Int)≤mn:=by omega
theorem allk_c (w:World):Calls Tryz.prog 71 #[] w fun e w'=>e=.returned (.func (.func 119) #[] #[])∧w'=w:=by
  go_enter Tryz.func71,Tryz.ntmps71
  go_wp2
  go_ret
  exact ⟨rfl,rfl⟩
attribute [local go_sem] Oper.semAt_some
set_option maxRecDepth 100000 in
set_option maxHeartbeats 4000000 in
theorem keys_seq (w:World) (n₀ n:Nat) (hn:4≤n) (hn0:n₀≤w.heap.size):SeqStopsK Fence.wide n Tryz.prog 119 #[] encE (KpD n₀ w.heap.size) (fun xs=>xs=ENTS 21) (fun pre=>pre <+: ENTS 21) 1000 w:=by
  intro l J Jx W hW hJ hJx hY h0
  refine callsIn_of_wp Tryz.func119 rfl trivial ?_ rfl
  simp only [Tryz.ntmps119,List.size_toArray,List.length_cons,List.length_nil,Nat.reduceAdd,Nat.reduceSub,Array.replicate_succ,Array.replicate_zero,List.push_toArray,List.append_toArray,List.nil_append,List.cons_append]
  gi_wp2
  refine ⟨trivial,fun _=>by omega,?_⟩
  refine (callsIn_wide.2 (rows_c _)).mono ?_
  rintro e w1 ⟨rfl,hb1,ht1⟩
  have hDs:w.heap.size≤W.heap.size:=hW.size
  have HJ0:=Aside0.mk h0
  have HB1:=Aside0.mk hb1
  have HT1:=Aside0.mk ht1
  clear h0 hb1 ht1
  gi_wp2
  gi_loopw [7] (fun v7 wr=>∃ (i:Nat),v7=.int .i64 (i:Int)∧i≤21∧Aside0 (TabAt W.heap.size wr)∧Aside0 (∃ Wy,J (ENTS i) Wy∧Below Wy.heap.size Wy wr∧W.heap.size≤Wy.heap.size)) (fun v7 _=>(21 - numOf v7).toNat)
  case atStart=>exact ⟨0,rfl,by omega,HT1,⟨W,HJ0.out,HB1.out,Nat.le_refl _⟩⟩
  case round =>
    obtain ⟨i,rfl,hi,HT,HJ⟩:=hrel
    by_cases hlt:i < 21
    · have hc0:wr.cell? ⟨W.heap.size+6,i * 6,none⟩=_:=row_cell HT.out i 0 hlt (by decide) _ rfl
      have hc1:=row_cell HT.out i 1 hlt (by decide) _ rfl
      have hc2:=row_cell HT.out i 2 hlt (by decide) _ rfl
      have hc3:=row_cell HT.out i 3 hlt (by decide) _ rfl
      have hc4:=row_cell HT.out i 4 hlt (by decide) _ rfl
      have hc5:=row_cell HT.out i 5 hlt (by decide) _ rfl
      have hsh:=shapes TAB[i] (List.getElem_mem _)
      obtain ⟨r,hgr⟩:∃ r,r=TAB[i]:=⟨_,rfl⟩
      rw [← hgr] at hc0 hc1 hc2 hc3 hc4 hc5 hsh
      have hr:=Aside0.mk (show TAB[i]?=some r by rw [hgr];exact List.getElem?_eq_getElem hlt)
      obtain ⟨fr,mn,kd,fin,nums,chr⟩:=r
      obtain ⟨A,m,hnv⟩:∃ A m,numsV W.heap.size nums=.slice A m m:=by
        rcases nums with _ | ⟨q,l⟩
        · exact ⟨_,_,rfl⟩
        · exact ⟨_,_,rfl⟩
      have HNV:=Aside0.mk hnv
      have HSH:=Aside0.mk hsh
      dsimp only at hc0 hc1 hc2 hc3 hc4 hc5
      rw [hnv] at hc4
      clear hnv hsh hgr
      gi_wp2
      have hbx:=blk_new wr (Obj.cells #[.int .i64 fr,.int .i64 mn,.int .i64 kd,.string fin,.slice A m m,.string chr] 185)
      have hbw:=below_alloc (Below.refl wr.heap.size wr) (Obj.cells #[.int .i64 fr,.int .i64 mn,.int .i64 kd,.string fin,.slice A m m,.string chr] 185)
      generalize wr.alloc (Obj.cells #[.int .i64 fr,.int .i64 mn,.int .i64 kd,.string fin,.slice A m m,.string chr] 185)=wx at hbx hbw ⊢
      have HTX:=Aside0.mk (TabAt.below HT.out hbw)
      have HJX:Aside0 (∃ Wy,J (ENTS i) Wy∧Below Wy.heap.size Wy wx∧W.heap.size≤Wy.heap.size):=by
        obtain ⟨Wy,h1,h2,h3⟩:=HJ.out
        exact ⟨Wy,h1,below_step h2 hbw,h3⟩
      have hWb:W.heap.size≤wr.heap.size:=by
        obtain ⟨Wy,h1,h2,h3⟩:=HJ.out
        exact Nat.le_trans h3 h2.size
      have HBX:=Aside0.mk hbx
      clear hbx hbw HJ HT hc0 hc1 hc2 hc3 hc4 hc5
      generalize wr.heap.size=b at HBX hWb ⊢
      gi_loopw [13] (fun v13 wi=>∃ j:Nat,v13=.int .i64 (j:Int)∧(j:Int)≤mn∧Aside0 (TabAt W.heap.size wi)∧Aside0 (wi.heap[b]?=some (Obj.cells #[.int .i64 fr,.int .i64 mn,.int .i64 kd,.string fin,.slice A m m,.string chr] 185))∧Aside0 (∃ Wy,J (ENTS i++entsR (fr,mn,kd,fin,nums,chr) j) Wy∧Below Wy.heap.size Wy wi∧W.heap.size≤Wy.heap.size)) (fun v13 _=>(mn - numOf v13).toNat)
      case atStart=>exact ⟨0,rfl,by have:=HSH.out.1;dsimp only at this;omega,HTX,HBX,by have:=HJX.out;rw [show entsR (fr,mn,kd,fin,nums,chr) 0=[] from rfl,List.append_nil];exact ⟨this⟩⟩
      case round =>
        obtain ⟨j,rfl,hj,HTI,HBI,HJI⟩:=hrel
        have hz0:=(blk_cell HBI.out 0).trans rfl
        have hz1:=(blk_cell HBI.out 1).trans rfl
        have hz2:=(blk_cell HBI.out 2).trans rfl
        have hz3:=(blk_cell HBI.out 3).trans rfl
        have hz4:=(blk_cell HBI.out 4).trans rfl
        have hz5:=(blk_cell HBI.out 5).trans rfl
        by_cases hlj:(j:Int) < mn
        · gi_wp2
          have hw:IntKind.i64.wrap (fr+(j:Int))=fr+(j:Int):=by
            have h1:=HSH.out.2.1
            have h2:=HSH.out.2.2.1
            have h3:=HSH.out.2.2.2.1
            dsimp only at h1 h2 h3
            rw [i64_w];unfold wrap64;omega
          have HLJ:=Aside0.mk hlj
          gi_region_with (first|(refine ⟨trivial,fun _=>by omega,?_⟩;refine (callsIn_wide.2 (by have:=entry_c W.heap.size (fr,mn,kd,fin,nums,chr) HSH.out j (by omega) HLJ.out wr.drew HTI.out;rw [show (rowV W.heap.size (fr,mn,kd,fin,nums,chr)).toArray=#[.int .i64 fr,.int .i64 mn,.int .i64 kd,.string fin,.slice A m m,.string chr] by rw [← HNV.out]] at this;exact this)).mono ?_;rintro e w2 ⟨rfl,hb2⟩;have HT2:=Aside0.mk (TabAt.below (show TabAt W.heap.size wr.drew from HTI.out) hb2);have HB2:=Aside0.mk (blk_below (show wr.drew.heap[b]?=_ from HBI.out) hb2);have hv0:=(blk_cell HB2.out 0).trans rfl;have HJ2:Aside0 (J (ENTS i++entsR (fr,mn,kd,fin,nums,chr) j) w2∧W.heap.size≤w2.heap.size):=⟨by obtain ⟨Wy,h1,h2,h3⟩:=HJI.out;exact hJ _ Wy w2 none h1 (grown_of_belowK (below_step (below_drew h2) hb2)) (fun _ e=>by cases e),by obtain ⟨Wy,h1,h2,h3⟩:=HJI.out;exact Nat.le_trans h3 (Nat.le_trans h2.size hb2.size)⟩;obtain ⟨fn,tmps,assign,body,hy,hR⟩:=hY _ (entOf (fr,mn,kd,fin,nums,chr) j) w2 HJ2.out.1 (pre_len hr.out HLJ.out);change (Instr.yield l #[.int .i64 (fr+(j:Int)),entV (entOf (fr,mn,kd,fin,nums,chr) j)]).run Tryz.prog w2=_ at hy)|(refine ⟨fun _=>by omega,hR.mono ?_⟩;intro e W3 h3;obtain ⟨bq,rfl,h4⟩:=yield_one h3;clear h3 hR))
          all_goals
            obtain ⟨rfl,hJ3,hk3⟩ | ⟨rfl,hx3⟩:=h4.out
            · gi_wp2
              have hlj':=HLJ.out
              have hwj:wrap64 ((j:Int)+1)=((j+1:Nat):Int):=wrap_next hlj' HSH.out.2.2.2.1
              refine ⟨⟨j+1,hwj,le_next hlj',⟨TabAt.kp HT2.out hk3 hDs⟩,⟨hk3.2 b _ (Nat.le_trans hDs hWb) HB2.out rfl⟩,⟨W3,by rw [ents_next,← List.append_assoc];exact hJ3,Below.refl _ _,Nat.le_trans HJ2.out.2 hk3.1.size⟩⟩,?_⟩
              exact hwj ▸ less_next hlj'
            · gi_wp2
              refine bodyPost_ret (results_none rfl _ _ _) rfl ?_
              exact ⟨⟨_,rfl⟩,.inr ⟨_,pre_next hr.out HLJ.out,hx3⟩⟩
        · have hjm:j=mn.toNat:=by omega
          gi_wp2
          refine ⟨⟨i+1,by first | rfl | go_num,by omega,HTI,?_⟩,?_⟩
          · have:=HJI.out
            obtain ⟨hi',hr'⟩:=List.getElem?_eq_some_iff.1 hr.out
            rw [ENTS_next i hi',hr']
            dsimp only
            rw [← hjm]
            exact ⟨this⟩
          · simp [numOf];omega
    · obtain rfl:i=21:=by omega
      gi_wp2
      go_end0
      obtain ⟨Wy,h1,h2,h3⟩:=HJ.out
      exact ⟨⟨_,rfl⟩,.inl ⟨_,rfl,hJ _ Wy _ none h1 (grown_of_belowK h2) (fun _ e=>by cases e)⟩⟩
end Go.Proofs.YthjacokachgmfaaGreatDoor.H
end
