import Derived.Outline
import Derived.Maps.AppendAt
import Derived.Test.YthjacokachgmfaaGreatDoorT01
import Derived.Test.YthjacokachgmfaaGreatDoorT02
import Derived.Test.YthjacokachgmfaaGreatDoorT03
import Derived.Test.YthjacokachgmfaaGreatDoorT04
import Derived.Test.YthjacokachgmfaaGreatDoorT05
import Derived.Test.YthjacokachgmfaaGreatDoorT08
import Derived.Test.YthjacokachgmfaaGreatDoorT15
import Derived.Test.YthjacokachgmfaaGreatDoorT16
set_option linter.unusedVariables false
set_option linter.unusedSimpArgs false
section
namespace Go.Proofs.YthjacokachgmfaaGreatDoor.H
open Go Go.RowKit Go.Lib YthjacokachgmfaaGreatDoorW.PrintWords YthjacokachgmfaaGreatDoorW.PrintLast YthjacokachgmfaaGreatDoorW.PrintMore YthjacokachgmfaaGreatDoor.Pure
def textB (a:Int):Bool:=a == 0||(lookE a).1 == 1
theorem entry_0 (x0 x1 x2 x3:Int) (x4:Bool) (W:World):(Instr.field 93 (.agg #[.int .i64 x0,.int .u8 x1,.int .i64 x2,.int .i64 x3,.bool x4]) 0).run Tryz.prog W=.ok (.int .i64 x0) W:=by kernel_rfl
set_option maxHeartbeats 4000000 in
theorem text_c (a:Int) (w:World):Calls Tryz.prog 73 #[.int .i64 a] w fun e w'=>e=.returned (.bool (textB a))∧Below w.heap.size w w':=by
  have hf:=entry_0
  obtain ⟨r1,r2,r3,r4,r5,hL⟩:∃ r1 r2 r3 r4 r5,lookE a=(r1,r2,r3,r4,r5):=⟨_,_,_,_,_,rfl⟩
  have HL:=Aside0.mk (show keys_Look.f a=some (r1,r2,r3,r4,r5) from congrArg some hL)
  by_cases h0:a=0
  · have e0:(a == 0)=true:=beq_iff_eq.mpr h0
    have HT:=Aside0.mk (show textB a=true by unfold textB;rw [e0];rfl)
    have HB:=Aside0.mk (Below.refl w.heap.size w)
    clear h0 hL
    go_enter Tryz.func73,Tryz.ntmps73
    go_wp2
    go_ret
    rw [HT.out]
    exact ⟨rfl,HB.out⟩
  · have e0:(a == 0)=false:=beq_eq_false_iff_ne.mpr h0
    have HT:=Aside0.mk (show textB a=(r1 == 1) by unfold textB;rw [e0,hL];rfl)
    clear h0 hL
    go_enter Tryz.func73,Tryz.ntmps73
    go_wp2_with (go_at_call 35;(with_reducible refine (keys_Look.calls a r1 r2 r3 r4 r5 _ HL.out).mono ?_);rintro e w3 ⟨rfl,hb2⟩;have HB:=Aside0.mk hb2;clear hb2)
    go_ret
    rw [HT.out]
    exact ⟨rfl,HB.out⟩
def mayB (a0 a1 a2 a3 a4:Int) (s:ByteArray):Bool:=((allC (numsS s)).2&&(allC (numsS s)).1.all okR)&&(decide ((allC (numsS s)).1.length≤8)&&(textB a3&&(textB a4&&((decide (0≤a1)&&(decide (a1≤255)&&(decide (1≤a2)&&decide (a2≤3))))&&((lookE a0).1 != 0)))))
theorem all_cons_take {l:List Int} {j:Nat} (hj:j < l.length):(l.take (j+1)).all okR=((l.take j).all okR&&okR (rd l j)):=by
  have e:rd l j=l[j]:=by
    show l.getD _ 0=_
    rw [show (j:Int).toNat=j by omega,List.getD_eq_getElem?_getD,List.getElem?_eq_getElem hj];rfl
  rw [List.take_succ_eq_append_getElem hj,List.all_append,← e]
  simp
set_option maxRecDepth 100000 in
set_option maxHeartbeats 8000000 in
theorem may_t (a0 a1 a2 a3 a4:Int) (s:ByteArray) (hs:s.size≤1100000) (w:World):Calls Tryz.prog 36 #[.agg #[.int .i64 a0,.int .i64 a1,.int .i64 a2,.int .i64 a3,.int .i64 a4,.string s]] w fun e w'=>e=.returned (.bool (mayB a0 a1 a2 a3 a4 s))∧Below w.heap.size w w':=by
  have kc:=conv_run
  have hf:=entry_0
  have hu:=Tryz.underlying35
  obtain ⟨r1,r2,r3,r4,r5,hL⟩:∃ r1 r2 r3 r4 r5,lookE a0=(r1,r2,r3,r4,r5):=⟨_,_,_,_,_,rfl⟩
  have HL0:=Aside0.mk (show keys_Look.f a0=some (r1,r2,r3,r4,r5) from congrArg some hL)
  obtain ⟨l,is,hA⟩:∃ l is,allC (numsS s)=(l,is):=⟨_,_,rfl⟩
  have HR:=Aside0.mk (show utf_All.f (numsS s)=some (l,is) by unfold utf_All.f;rw [if_pos (by rw [numsS_len];omega),hA])
  have HM:=Aside0.mk (show mayB a0 a1 a2 a3 a4 s=((is&&l.all okR)&&(decide (l.length≤8)&&(textB a3&&(textB a4&&((decide (0≤a1)&&(decide (a1≤255)&&(decide (1≤a2)&&decide (a2≤3))))&&(r1 != 0)))))) by unfold mayB;rw [hA,hL])
  have HLL:=Aside0.mk (show l.length≤1100000 by have:=all_len (numsS s);rw [hA,numsS_len] at this;dsimp only at this;omega)
  clear hA hL
  obtain ⟨t3,ht3⟩:∃ t,textB a3=t:=⟨_,rfl⟩
  obtain ⟨t4,ht4⟩:∃ t,textB a4=t:=⟨_,rfl⟩
  have T3:=Aside0.mk ht3
  have T4:=Aside0.mk ht4
  clear ht3 ht4
  have hb0:=below_alloc (Below.refl w.heap.size w) (Obj.cells #[.int .i64 a0,.int .i64 a1,.int .i64 a2,.int .i64 a3,.int .i64 a4,.string s] 35)
  have hk0:=blk_new w (Obj.cells #[.int .i64 a0,.int .i64 a1,.int .i64 a2,.int .i64 a3,.int .i64 a4,.string s] 35)
  obtain ⟨w1,hw1⟩:∃ w1,w.alloc (Obj.cells #[.int .i64 a0,.int .i64 a1,.int .i64 a2,.int .i64 a3,.int .i64 a4,.string s] 35)=w1:=⟨_,rfl⟩
  rw [hw1] at hb0 hk0
  have hcv:=conv_below w1 s
  have BK:=Aside0.mk (blk_below hk0 hcv)
  have HB:=Aside0.mk (below_step hb0 hcv)
  have HCC:=Aside0.mk (conv_c w1 s (by omega))
  have HCP:=Aside0.mk (show (numsS s).length≤grownCap w1 s.size 0 5 by rw [numsS_len];exact cap_le _ _ _)
  have x0:=(blk_cell hk0 0).trans rfl
  have x5:=(blk_cell hk0 5).trans rfl
  clear hb0 hk0 hcv
  have HS:=Aside0.mk hs
  go_enter Tryz.func36,Tryz.ntmps36
  go_wp2_with (first|(go_at_call 74;(with_reducible refine (utf_All.calls _ _ (numsS s) l is _ HCC.out HCP.out HR.out).mono ?_);rintro e w2 ⟨v2,rfl,hv2,hb2⟩;obtain ⟨A3,c3,rfl⟩:=Kd.R_slice hv2;have HO:=Aside0.mk hv2;have BK2:=Aside0.mk (blk_below BK.out hb2);have HB2:=Aside0.mk (below_step HB.out hb2);clear hv2 hb2 HB BK;have HB:=HB2;have BK:=BK2;clear HB2 BK2))
  go_loopw [5,17] (fun v5 v17 wr=>∃ (j:Nat) (b:Bool),v5=.bool b∧v17=.int .i64 (j:Int)∧j≤l.length∧Aside0 (b=(is&&(l.take j).all okR))∧wr=w2) (fun _ v17 _=>(l.length - numC' v17).toNat)
  case atStart=>exact ⟨0,is,rfl,rfl,Nat.zero_le _,⟨by simp⟩,rfl⟩
  case round =>
    obtain ⟨j,b,rfl,rfl,hj,HT,rfl⟩:=hrel
    by_cases hlt:j < l.length
    · obtain ⟨ad,e1,hx⟩:=Kd.at_int (Kd.R_reads' HO.out).2.2 (j:Int) (by omega) (by omega)
      subst e1
      have hx':wr.cell? (ad.add j)=some (.int .i64 (rd l j)):=by simpa using hx
      have hlL:=HLL.out
      have qi:(j < l.length)=True:=eq_true hlt
      obtain ⟨r,hr⟩:∃ r,rd l j=r:=⟨_,rfl⟩
      rw [hr] at hx hx'
      have HRR:=Aside0.mk (show (is&&(l.take (j+1)).all okR)=(b&&okR r) by rw [all_cons_take hlt,← Bool.and_assoc,← HT.out,hr])
      clear hr
      cases b
      · go_wp2
        exact ⟨⟨j+1,false,rfl,by push_cast;rfl,hlt,⟨by rw [HRR.out];rfl⟩,trivial⟩,by show ((l.length:Int) - ((j:Int)+1)).toNat < ((l.length:Int) - (j:Int)).toNat;omega⟩
      by_cases k1:r < 32
      · skip
        have d0:decide (r≥32)=false:=decide_eq_false (by omega)
        have HV:=Aside0.mk (show okR r=false by unfold okR;simp;omega)
        (try clear k1);(try clear k2);(try clear k3)
        go_wp2
        exact ⟨⟨j+1,false,rfl,by push_cast;rfl,hlt,⟨by rw [HRR.out,HV.out];rfl⟩,trivial⟩,by show ((l.length:Int) - ((j:Int)+1)).toNat < ((l.length:Int) - (j:Int)).toNat;omega⟩
      by_cases k2:r < 127
      · skip
        have d0:decide (r≥32)=true:=decide_eq_true (by omega)
        have d1:decide (r < 127)=true:=decide_eq_true (by omega)
        have HV:=Aside0.mk (show okR r=true by unfold okR;simp;omega)
        (try clear k1);(try clear k2);(try clear k3)
        go_wp2
        exact ⟨⟨j+1,true,rfl,by push_cast;rfl,hlt,⟨by rw [HRR.out,HV.out];rfl⟩,trivial⟩,by show ((l.length:Int) - ((j:Int)+1)).toNat < ((l.length:Int) - (j:Int)).toNat;omega⟩
      by_cases k3:r > 159
      · skip
        have d0:decide (r≥32)=true:=decide_eq_true (by omega)
        have d1:decide (r < 127)=false:=decide_eq_false (by omega)
        have d2:decide (r > 159)=true:=decide_eq_true (by omega)
        have HV:=Aside0.mk (show okR r=true by unfold okR;simp;omega)
        (try clear k1);(try clear k2);(try clear k3)
        go_wp2
        exact ⟨⟨j+1,true,rfl,by push_cast;rfl,hlt,⟨by rw [HRR.out,HV.out];rfl⟩,trivial⟩,by show ((l.length:Int) - ((j:Int)+1)).toNat < ((l.length:Int) - (j:Int)).toNat;omega⟩
      · skip
        have d0:decide (r≥32)=true:=decide_eq_true (by omega)
        have d1:decide (r < 127)=false:=decide_eq_false (by omega)
        have d2:decide (r > 159)=false:=decide_eq_false (by omega)
        have HV:=Aside0.mk (show okR r=false by unfold okR;simp;omega)
        (try clear k1);(try clear k2);(try clear k3)
        go_wp2
        exact ⟨⟨j+1,false,rfl,by push_cast;rfl,hlt,⟨by rw [HRR.out,HV.out];rfl⟩,trivial⟩,by show ((l.length:Int) - ((j:Int)+1)).toNat < ((l.length:Int) - (j:Int)).toNat;omega⟩
    · obtain rfl:j=l.length:=by omega
      have hb:=HT.out
      rw [List.take_length] at hb
      have HM2:=Aside0.mk (show mayB a0 a1 a2 a3 a4 s=(b&&(decide (l.length≤8)&&(textB a3&&(textB a4&&((decide (0≤a1)&&(decide (a1≤255)&&(decide (1≤a2)&&decide (a2≤3))))&&(r1 != 0)))))) by rw [HM.out,← hb])
      clear hb HM
      have y0:=(blk_cell BK.out 0).trans rfl
      have y1:=(blk_cell BK.out 1).trans rfl
      have y2:=(blk_cell BK.out 2).trans rfl
      have y3:=(blk_cell BK.out 3).trans rfl
      have y4:=(blk_cell BK.out 4).trans rfl
      have y5:=(blk_cell BK.out 5).trans rfl
      cases b
      · go_wp2
        go_ret
        exact ⟨by rw [HM2.out];rfl,HB.out⟩
      by_cases h8:l.length > 8
      · have d0:decide ((l.length:Int) > 8)=true:=decide_eq_true (by omega)
        have H8:=Aside0.mk (show decide (l.length≤8)=false from decide_eq_false (by omega))
        clear h8
        go_wp2
        go_ret
        exact ⟨by rw [HM2.out,H8.out];rfl,HB.out⟩
      have d0:decide ((l.length:Int) > 8)=false:=decide_eq_false (by omega)
      have H8:=Aside0.mk (show decide (l.length≤8)=true from decide_eq_true (by omega))
      clear h8
      cases t3
      · go_wp2_with (first|(go_at_call 73;(with_reducible refine (text_c _ _).mono ?_);rintro e w3 ⟨rfl,hb2⟩;(try rw [T3.out]);(try rw [T4.out]);have BK2:=Aside0.mk (blk_below BK.out hb2);have HB2:=Aside0.mk (below_step HB.out hb2);clear hb2 HB BK;have HB:=HB2;have BK:=BK2;clear HB2 BK2;have y0:=(blk_cell BK.out 0).trans rfl;have y1:=(blk_cell BK.out 1).trans rfl;have y2:=(blk_cell BK.out 2).trans rfl;have y3:=(blk_cell BK.out 3).trans rfl;have y4:=(blk_cell BK.out 4).trans rfl;have y5:=(blk_cell BK.out 5).trans rfl;skip))
        go_ret
        exact ⟨by rw [HM2.out,H8.out,T3.out];rfl,HB.out⟩
      cases t4
      · go_wp2_with (first|(go_at_call 73;(with_reducible refine (text_c _ _).mono ?_);rintro e w3 ⟨rfl,hb2⟩;(try rw [T3.out]);(try rw [T4.out]);have BK2:=Aside0.mk (blk_below BK.out hb2);have HB2:=Aside0.mk (below_step HB.out hb2);clear hb2 HB BK;have HB:=HB2;have BK:=BK2;clear HB2 BK2;have y0:=(blk_cell BK.out 0).trans rfl;have y1:=(blk_cell BK.out 1).trans rfl;have y2:=(blk_cell BK.out 2).trans rfl;have y3:=(blk_cell BK.out 3).trans rfl;have y4:=(blk_cell BK.out 4).trans rfl;have y5:=(blk_cell BK.out 5).trans rfl;skip))
        go_ret
        exact ⟨by rw [HM2.out,H8.out,T3.out,T4.out];rfl,HB.out⟩
      have HM3:=Aside0.mk (show mayB a0 a1 a2 a3 a4 s=((decide (0≤a1)&&(decide (a1≤255)&&(decide (1≤a2)&&decide (a2≤3))))&&(r1 != 0)) by rw [HM2.out,H8.out,T3.out,T4.out];simp)
      clear HM2
      by_cases k1:a1 < 0
      · skip
        have e0:decide (a1 < 0)=true:=decide_eq_true (by omega)
        have HF:=Aside0.mk (show mayB a0 a1 a2 a3 a4 s=false by rw [HM3.out];simp;omega)
        (try clear k1);(try clear k2);(try clear k3);(try clear k4)
        go_wp2_with (first|(go_at_call 73;(with_reducible refine (text_c _ _).mono ?_);rintro e w3 ⟨rfl,hb2⟩;(try rw [T3.out]);(try rw [T4.out]);have BK2:=Aside0.mk (blk_below BK.out hb2);have HB2:=Aside0.mk (below_step HB.out hb2);clear hb2 HB BK;have HB:=HB2;have BK:=BK2;clear HB2 BK2;have y0:=(blk_cell BK.out 0).trans rfl;have y1:=(blk_cell BK.out 1).trans rfl;have y2:=(blk_cell BK.out 2).trans rfl;have y3:=(blk_cell BK.out 3).trans rfl;have y4:=(blk_cell BK.out 4).trans rfl;have y5:=(blk_cell BK.out 5).trans rfl;skip))
        go_ret
        exact ⟨by rw [HF.out];rfl,HB.out⟩
      by_cases k2:a1 > 255
      · skip
        have e0:decide (a1 < 0)=false:=decide_eq_false (by omega)
        have e1:decide (a1 > 255)=true:=decide_eq_true (by omega)
        have HF:=Aside0.mk (show mayB a0 a1 a2 a3 a4 s=false by rw [HM3.out];simp;omega)
        (try clear k1);(try clear k2);(try clear k3);(try clear k4)
        go_wp2_with (first|(go_at_call 73;(with_reducible refine (text_c _ _).mono ?_);rintro e w3 ⟨rfl,hb2⟩;(try rw [T3.out]);(try rw [T4.out]);have BK2:=Aside0.mk (blk_below BK.out hb2);have HB2:=Aside0.mk (below_step HB.out hb2);clear hb2 HB BK;have HB:=HB2;have BK:=BK2;clear HB2 BK2;have y0:=(blk_cell BK.out 0).trans rfl;have y1:=(blk_cell BK.out 1).trans rfl;have y2:=(blk_cell BK.out 2).trans rfl;have y3:=(blk_cell BK.out 3).trans rfl;have y4:=(blk_cell BK.out 4).trans rfl;have y5:=(blk_cell BK.out 5).trans rfl;skip))
        go_ret
        exact ⟨by rw [HF.out];rfl,HB.out⟩
      by_cases k3:a2 < 1
      · skip
        have e0:decide (a1 < 0)=false:=decide_eq_false (by omega)
        have e1:decide (a1 > 255)=false:=decide_eq_false (by omega)
        have e2:decide (a2 < 1)=true:=decide_eq_true (by omega)
        have HF:=Aside0.mk (show mayB a0 a1 a2 a3 a4 s=false by rw [HM3.out];simp;omega)
        (try clear k1);(try clear k2);(try clear k3);(try clear k4)
        go_wp2_with (first|(go_at_call 73;(with_reducible refine (text_c _ _).mono ?_);rintro e w3 ⟨rfl,hb2⟩;(try rw [T3.out]);(try rw [T4.out]);have BK2:=Aside0.mk (blk_below BK.out hb2);have HB2:=Aside0.mk (below_step HB.out hb2);clear hb2 HB BK;have HB:=HB2;have BK:=BK2;clear HB2 BK2;have y0:=(blk_cell BK.out 0).trans rfl;have y1:=(blk_cell BK.out 1).trans rfl;have y2:=(blk_cell BK.out 2).trans rfl;have y3:=(blk_cell BK.out 3).trans rfl;have y4:=(blk_cell BK.out 4).trans rfl;have y5:=(blk_cell BK.out 5).trans rfl;skip))
        go_ret
        exact ⟨by rw [HF.out];rfl,HB.out⟩
      by_cases k4:a2 > 3
      · skip
        have e0:decide (a1 < 0)=false:=decide_eq_false (by omega)
        have e1:decide (a1 > 255)=false:=decide_eq_false (by omega)
        have e2:decide (a2 < 1)=false:=decide_eq_false (by omega)
        have e3:decide (a2 > 3)=true:=decide_eq_true (by omega)
        have HF:=Aside0.mk (show mayB a0 a1 a2 a3 a4 s=false by rw [HM3.out];simp;omega)
        (try clear k1);(try clear k2);(try clear k3);(try clear k4)
        go_wp2_with (first|(go_at_call 73;(with_reducible refine (text_c _ _).mono ?_);rintro e w3 ⟨rfl,hb2⟩;(try rw [T3.out]);(try rw [T4.out]);have BK2:=Aside0.mk (blk_below BK.out hb2);have HB2:=Aside0.mk (below_step HB.out hb2);clear hb2 HB BK;have HB:=HB2;have BK:=BK2;clear HB2 BK2;have y0:=(blk_cell BK.out 0).trans rfl;have y1:=(blk_cell BK.out 1).trans rfl;have y2:=(blk_cell BK.out 2).trans rfl;have y3:=(blk_cell BK.out 3).trans rfl;have y4:=(blk_cell BK.out 4).trans rfl;have y5:=(blk_cell BK.out 5).trans rfl;skip))
        go_ret
        exact ⟨by rw [HF.out];rfl,HB.out⟩
      have e0:decide (a1 < 0)=false:=decide_eq_false (by omega)
      have e1:decide (a1 > 255)=false:=decide_eq_false (by omega)
      have e2:decide (a2 < 1)=false:=decide_eq_false (by omega)
      have e3:decide (a2 > 3)=false:=decide_eq_false (by omega)
      have HF:=Aside0.mk (show mayB a0 a1 a2 a3 a4 s=(r1 != 0) by rw [HM3.out,decide_eq_true (show 0≤a1 by omega),decide_eq_true (show a1≤255 by omega),decide_eq_true (show 1≤a2 by omega),decide_eq_true (show a2≤3 by omega)];simp)
      clear k1 k2 k3 k4
      go_wp2_with (first|(go_at_call 73;(with_reducible refine (text_c _ _).mono ?_);rintro e w3 ⟨rfl,hb2⟩;(try rw [T3.out]);(try rw [T4.out]);have BK2:=Aside0.mk (blk_below BK.out hb2);have HB2:=Aside0.mk (below_step HB.out hb2);clear hb2 HB BK;have HB:=HB2;have BK:=BK2;clear HB2 BK2;have y0:=(blk_cell BK.out 0).trans rfl;have y1:=(blk_cell BK.out 1).trans rfl;have y2:=(blk_cell BK.out 2).trans rfl;have y3:=(blk_cell BK.out 3).trans rfl;have y4:=(blk_cell BK.out 4).trans rfl;have y5:=(blk_cell BK.out 5).trans rfl;skip)|(go_at_call 35;(with_reducible refine (keys_Look.calls a0 r1 r2 r3 r4 r5 _ HL0.out).mono ?_);rintro e w3 ⟨rfl,hb2⟩;have BK2:=Aside0.mk (blk_below BK.out hb2);have HB2:=Aside0.mk (below_step HB.out hb2);clear hb2 HB BK;have HB:=HB2;have BK:=BK2;clear HB2 BK2;have y0:=(blk_cell BK.out 0).trans rfl;have y1:=(blk_cell BK.out 1).trans rfl;have y2:=(blk_cell BK.out 2).trans rfl;have y3:=(blk_cell BK.out 3).trans rfl;have y4:=(blk_cell BK.out 4).trans rfl;have y5:=(blk_cell BK.out 5).trans rfl;skip))
      go_ret
      exact ⟨by rw [HF.out];rfl,HB.out⟩
end Go.Proofs.YthjacokachgmfaaGreatDoor.H
end
section
namespace Go.Proofs.YthjacokachgmfaaGreatDoor.H
open Go Go.RowKit Go.Shelf YthjacokachgmfaaGreatDoorW.PrintWords YthjacokachgmfaaGreatDoorW.PrintLast YthjacokachgmfaaGreatDoorW.PrintMore
open Ev
attribute [local go_sem] Oper.semAt_some
def PartS (w:World) (g1 gl:Nat) (x:Int):Nat→World→Prop
  | 0,W=>W.heap[gl]?=some (.cells #[.slice none 0 0] 66 (0,0))∧(∃ u,W.heap[g1]?=some (.cells #[u] 9 (0,0)))∧Below w.heap.size w W
  | _+1,W=>∃ v,W.heap[gl]?=some (.cells #[v] 66 (0,0))∧Kd.R (Kd.int .i64) 3 W w.heap.size (fun k=>k≠g1) v [x]∧Below w.heap.size w W
theorem PartS_stb (w:World) (D g1 gl:Nat) (x:Int) (hD:w.heap.size≤D) (h1:w.heap.size≤g1) (hne:gl≠g1):∀ k,Stb D g1 (PartS w g1 gl x k)
  | 0=>(Stb.blk gl _ _ hne).and ((Stb.box _).and (Stb.below w hD h1))
  | _+1=>Stb.ex fun v=>(Stb.blk gl _ _ hne).and ((Stb.R _ _ _ _ _ _ (fun _ h=>h)).and (Stb.below w hD h1))
set_option maxRecDepth 100000 in
set_option maxHeartbeats 2000000 in
theorem parts_calls (s:ByteArray) (hs:Lib.indexByte s.data.toList 58 < 0) (hl:1≤s.size∧s.size≤1000) (hd:∀ c∈numsS s,48≤c∧c≤57) (w:World) :
    Calls Tryz.prog 242 #[.string s] w fun e w'=>∃ v,e=.returned v∧Kd.R (Kd.int .i64) 3 w' w.heap.size (fun _=>True) v [min (takeV (numsS s)) 65535]∧Below w.heap.size w w':=by
  have kc:=conv_run
  have HN:=Aside0.mk (And.intro hs (And.intro hl hd))
  clear hs hl hd
  refine (callsIn_wide (n:=6)).1 ?_
  refine callsIn_of_wp_marks Tryz.func242 rfl trivial ?_ rfl
  simp only [Tryz.ntmps242,List.size_toArray,List.length_cons,List.length_nil,Nat.reduceAdd,Nat.reduceSub,Array.replicate_succ,Array.replicate_zero,List.push_toArray,List.append_toArray,List.nil_append,List.cons_append]
  gi_wp2
  refine ⟨trivial,?_⟩
  have hbl:=blk_new w (.cells #[.slice none 0 0] 66 (0,0))
  have hB0:Below w.heap.size w (w.alloc (.cells #[.slice none 0 0] 66 (0,0))):=below_alloc (Below.refl _ _) _
  refine (callsIn_wide.2 (splitSeq_calls s 58 _)).mono ?_
  rintro e w1 ⟨g0,g1,g2,rfl,k0,k1,k2,n0,n1,n2,ne,hb⟩
  have hbl1:=blk_below hbl hb
  have hB1:=below_step hB0 hb
  have hs0:=hB0.size
  have hlt1:=blk_lt k1
  have nl:w.heap.size≠g1:=blk_ne hbl1 k1 (by decide)
  generalize w.alloc (.cells #[.slice none 0 0] 66 (0,0))=wa at *
  gi_wp2
  refine range_n (F:=Fence.wide) (n:=6) (w:=w1) (b:=g1) (n₀:=w.heap.size) hlt1 hB1.size rfl (by decide) (gf:=227) (lb:=#[.pointer (some ⟨g1,0,none⟩),.pointer (some ⟨g0,0,none⟩),.pointer (some ⟨g2,0,none⟩)]) rfl trivial (enters_of Tryz.func227 (by kernel_rfl) rfl) (encs:=fun x:ByteArray=>#[.string x]) (all:=[s])
    (fun W hW=>splitSeq_seq 5 (by decide) s 58 HN.out.1 g1 w.heap.size g0 g1 g2 W (blk_below k0 hW) (blk_below k1 hW) (blk_below k2 hW)) (fun _=>rfl)
    (PartS w g1 w.heap.size (min (takeV (numsS s)) 65535)) (PartS_stb w _ _ _ _ hB1.size (by omega) nl) ⟨hbl1,⟨_,k1⟩,hB1⟩
    (fun x=>{ tmps:=#[.string s,undef,.slice none 0 0,.pointer (some ⟨w.heap.size,0,none⟩),.string x,undef,undef,.string s,.func (.func 227) #[] #[.pointer (some ⟨g1,0,none⟩),.pointer (some ⟨g0,0,none⟩),.pointer (some ⟨g2,0,none⟩)],.string x,undef,undef,undef,undef,undef,undef,undef,undef,undef,undef,undef,undef,undef,undef],defers:=[] }) ?assign ?body ?done
  case assign =>
    intro l x W K hK
    gi_wp2
    exact hK
  case body =>
    intro l k x W hS hk
    cases k with
    | succ k=>simp at hk
    | zero =>
      obtain rfl:s=x:=by simpa using hk
      obtain ⟨hbW,⟨u1,hu1⟩,hBW⟩:=hS
      obtain ⟨hi58,⟨hl1,hl2⟩,hd⟩:=HN.out
      obtain ⟨i0,hi,hz0,hz1,hz2⟩:=info_parts info3
      have hnz:((numsS s).length:Int)≠0:=by rw [numsS_len];omega
      have hnz':(((numsS s).length:Int) == 0)=false:=beq_eq_false_iff_ne.2 hnz
      have hcv:=conv_below W s
      have hbC:=blk_below hbW hcv
      have hdep:1≤6 - 1 - 1:=by decide
      gi_wp2_with (first|(refine ⟨trivial,?_⟩;gi_at_call 169;refine (CallsIn.inRound l (callsIn_wide.2 (numTake_calls _ _ (numsS s) _ (conv_c W s (by omega)) (by rw [numsS_len];omega) hd))).mono ?_;rintro e w2 ⟨rfl,hb2⟩;have hb02:=hcv.trans (hb2.mono hcv.size);have hb3:=blk_below hbC hb2;have q0:=cells1 hb3;have f0:=blk_frozen hb3 0;have hlt0:=blk_lt hb3)|(gi_at_builtin;refine wpListIn_append_own _ rfl _ _ 66 rfl w.heap.size 3 i0 (.int .i64 0) 1 8 Tryz.underlying66 hi hz0 hz1 hz2 rfl (by decide) _ _ _ rfl (World.ownsRow_nil _ _ _ _) ⟨w2.heap.size,0,none⟩ 1 1 [.int .i64 (min (takeV (numsS s)) 65535)] rfl rfl (cell_one_new _ _ _) (by simp [Value.oneCell']) (by decide) (by decide) (by have:=hBW.size;have:=hb02.size;simp;omega) ?_;intro v' w3 hown' hgrow _;have hb4:=blk_grown (blk_alloc hb3 _) hgrow (fun e_=>nomatch (show some w.heap.size=(none:Option Nat) from e_));have HG:=Aside0.mk (show (w2.alloc (.cells #[.int .i64 (min (takeV (numsS s)) 65535)] 3)).grownBy w3 none from hgrow);have HO:=Aside0.mk (R_of_owns (l:=[min (takeV (numsS s)) 65535]) hown');have q1:=cells1 hb4;have f1:=blk_frozen hb4 0;have hlt1':=blk_lt hb4;obtain ⟨g',cap',rfl⟩:=ownsRow_succ hown'))
      have hsz:=hb02.size
      have hW3:Below W.heap.size W w3:=(hb02.alloc (by omega) _).grown HG.out (by simp;omega) (fun k hk=>by cases hk)
      have hg1:=(hW3.block g1 (blk_lt hu1)).trans hu1
      refine ⟨(keepsFrom_below hW3).trans ((KeepsOthers.setCell _ _ _).from _),keeps_set (keeps_below hW3 hBW.size (blk_lt hu1)) (Nat.le_refl _) (Ne.symm nl),?_⟩
      exact ⟨_,blk_put hb4 0 _ rfl,Kd.R_mono (Kd.R_set (Kd.R_types HO.out hg1 (by decide)) hb4 (by decide) 0 _) (fun _ h=>h.2),below_set (below_step hBW hW3) (Nat.le_refl _)⟩
  case done =>
    intro D W hD hS hDW
    obtain ⟨v,hv,hR,hB⟩:=hS
    obtain ⟨A,c,rfl⟩:=Kd.R_slice hR
    have q0:=cells1 hv
    have hS':=(PartS_stb w w1.heap.size g1 w.heap.size (min (takeV (numsS s)) 65535) hB1.size (by omega) nl 1).own W (W.putObj D (.deferred none)) (some D) ⟨_,hv,hR,hB⟩ (grownBy_putObj' W D _) (fun r e=>by cases e;exact ⟨hD,_,hDW,rfl⟩)
    have HS:=Aside0.mk hS'
    clear hR hB hS'
    gi_wp2
    refine ⟨by simp,.inl ⟨_,_,rfl,run_takeDeferred hDW,?_⟩⟩
    obtain ⟨v2,hv2,hR2,hB2⟩:=HS.out
    obtain rfl:v2=.slice A 1 c:=by
      have h1:=(World.putObj_heap_other (o:=.deferred none) (by have:=blk_lt hv;intro e;subst e;rw [hv] at hDW;cases hDW)).trans hv |>.symm.trans hv2
      injection h1 with h1
      injection h1 with h1
      exact (by simpa using h1.symm)
    exact ⟨_,results_tmp rfl _ _ _,_,rfl,Kd.R_mono hR2 (fun _ _=>trivial),hB2⟩
end Go.Proofs.YthjacokachgmfaaGreatDoor.H
end
section
namespace Go.Proofs.YthjacokachgmfaaGreatDoor.H
namespace SeqK
open Go Go.RowKit YthjacokachgmfaaGreatDoorW.PrintWords YthjacokachgmfaaGreatDoorW.PrintLast YthjacokachgmfaaGreatDoorW.PrintMore
structure S44 where
  f0:Int
  f1:Int
  f2:(List (List Int))
  f3:ByteArray
  f4:Int
  f5:ByteArray
def z44:S44:=⟨(0:Int),(0:Int),([]:List (List Int)),(⟨#[]⟩:ByteArray),(0:Int),(⟨#[]⟩:ByteArray)⟩
def k44:Kd S44:=Kd.iso (Kd.pair (Kd.int .i64) (Kd.pair (Kd.int .u8) (Kd.pair (Kd.slice 66 (Kd.slice 3 (Kd.int .i64))) (Kd.pair Kd.string (Kd.pair (Kd.int .u8) Kd.string))))) (fun x:S44=>(x.f0,x.f1,x.f2,x.f3,x.f4,x.f5))
theorem k44_open {w:World} {x:S44} {cs:List Value} (h:k44.K w x cs):∃ A2 c2,cs=[.int .i64 x.f0,.int .u8 x.f1,.slice A2 x.f2.length c2,.string x.f3,.int .u8 x.f4,.string x.f5]∧x.f2.length≤c2∧(Kd.slice 3 (Kd.int .i64)).C w A2 x.f2.length x.f2:=by
  obtain ⟨_,_,rfl,rfl,⟨_,_,rfl,rfl,⟨_,_,rfl,⟨A2,c2,rfl,l2,g2⟩,⟨_,_,rfl,rfl,⟨_,_,rfl,rfl,rfl⟩⟩⟩⟩⟩:=h
  exact ⟨A2,c2,rfl,l2,g2⟩
theorem k44_mkM (w:World) (base:Nat) (ok:Nat→Prop) (x:S44) {v2:Value} (g2:(Kd.slice 3 (Kd.int .i64)).R 66 w base ok v2 x.f2):k44.M w base ok x [.int .i64 x.f0,.int .u8 x.f1,v2,.string x.f3,.int .u8 x.f4,.string x.f5]:=⟨[.int .i64 x.f0],[.int .u8 x.f1,v2,.string x.f3,.int .u8 x.f4,.string x.f5],rfl,rfl,⟨[.int .u8 x.f1],[v2,.string x.f3,.int .u8 x.f4,.string x.f5],rfl,rfl,⟨[v2],[.string x.f3,.int .u8 x.f4,.string x.f5],rfl,⟨v2,rfl,g2⟩,⟨[.string x.f3],[.int .u8 x.f4,.string x.f5],rfl,rfl,⟨[.int .u8 x.f4],[.string x.f5],rfl,rfl,rfl⟩⟩⟩⟩⟩
def rd_T44 (xs:List S44) (i:Int):S44:=xs.getD i.toNat z44
theorem at_T44 {w:World} {A:Option Addr} {n:Nat} {xs:List S44} (h:Kd.C k44 w A n xs) (i:Int) (h0:0≤i) (h1:i < n):∃ ad A2 c2,A=some ad∧w.cell? (ad.add (i.toNat * 6))=some (.int .i64 (rd_T44 xs i).f0)∧w.cell? ⟨(ad.add (i.toNat * 6)).block,(ad.add (i.toNat * 6)).off+1,none⟩=some (.int .u8 (rd_T44 xs i).f1)∧w.cell? ⟨(ad.add (i.toNat * 6)).block,(ad.add (i.toNat * 6)).off+2,none⟩=some (.slice A2 (rd_T44 xs i).f2.length c2)∧w.cell? ⟨(ad.add (i.toNat * 6)).block,(ad.add (i.toNat * 6)).off+3,none⟩=some (.string (rd_T44 xs i).f3)∧w.cell? ⟨(ad.add (i.toNat * 6)).block,(ad.add (i.toNat * 6)).off+4,none⟩=some (.int .u8 (rd_T44 xs i).f4)∧w.cell? ⟨(ad.add (i.toNat * 6)).block,(ad.add (i.toNat * 6)).off+5,none⟩=some (.string (rd_T44 xs i).f5)∧(rd_T44 xs i).f2.length≤c2∧(Kd.slice 3 (Kd.int .i64)).C w A2 (rd_T44 xs i).f2.length (rd_T44 xs i).f2:=by
  obtain ⟨ad,c,e,_,hK,hc0⟩:=Kd.C_get h z44 i h0 h1
  have hc:∀ j u,c[j]?=some u→w.cell? (ad.add (i.toNat * 6+j))=some u:=hc0
  obtain ⟨A2,c2,rfl,l2,g2⟩:=k44_open hK
  exact ⟨ad,A2,c2,e,hc 0 _ rfl,by rw [← add_field _ _ 1 (by omega)];exact hc 1 _ rfl,by rw [← add_field _ _ 2 (by omega)];exact hc 2 _ rfl,by rw [← add_field _ _ 3 (by omega)];exact hc 3 _ rfl,by rw [← add_field _ _ 4 (by omega)];exact hc 4 _ rfl,by rw [← add_field _ _ 5 (by omega)];exact hc 5 _ rfl,l2,g2⟩
end SeqK
end Go.Proofs.YthjacokachgmfaaGreatDoor.H
end
section
namespace Go.Proofs.YthjacokachgmfaaGreatDoor.H
open Go Go.RowKit YthjacokachgmfaaGreatDoorW.PrintWords YthjacokachgmfaaGreatDoorW.PrintLast YthjacokachgmfaaGreatDoorW.PrintMore
set_option maxRecDepth 100000
def kli:Kd (List Int):=Kd.slice 3 (Kd.int .i64)
def rdL (xs:List (List Int)) (i:Nat):List Int:=xs.getD i []
theorem at_L {w:World} {A:Option Addr} {n:Nat} {xs:List (List Int)} (h:Kd.C kli w A n xs) (i:Nat) (h1:i < n):∃ ad A0 c0,A=some ad∧w.cell? (ad.add i)=some (.slice A0 (rdL xs i).length c0)∧(rdL xs i).length≤c0∧(Kd.int .i64).C w A0 (rdL xs i).length (rdL xs i):=by
  obtain ⟨ad,c,e,_,hK,hc0⟩:=Kd.C_get h ([]:List Int) (i:Int) (by omega) (by omega)
  have hc:∀ j u,c[j]?=some u→w.cell? (ad.add (i * 1+j))=some u:=hc0
  obtain ⟨A0,c0,rfl,l0,g0⟩:=hK
  exact ⟨ad,A0,c0,e,by have hq:=hc 0 _ rfl;rwa [Nat.mul_one,Nat.add_zero] at hq,l0,g0⟩
theorem app_str (a b:List UInt8):(⟨a.toArray⟩:ByteArray)++⟨b.toArray⟩=⟨(a++b).toArray⟩:=by
  apply ByteArray.ext
  simp [ByteArray.data_append]
def byte (n:Int):UInt8:=n.toNat.toUInt8
theorem conv_one (W:World) (g:Nat) (n:Int) (h:W.cell? ⟨g,0,none⟩=some (.int .u8 n)):(convert 22 9 (.slice (some ⟨g,0,none⟩) 1 1)).run Tryz.prog W=.ok (.string ⟨[byte n].toArray⟩) W:=by
  have hC:(Kd.int .u8).C W (some ⟨g,0,none⟩) 1 [n]:=Kd.C_of_reads (d:=(0:Int)) ⟨rfl,by omega,fun _=>⟨⟨g,0,none⟩,rfl,fun j hj=>by
    obtain rfl:j=0:=by omega
    exact h⟩⟩
  rw [Kd.C_string (c:=1) Tryz.underlying22 Tryz.underlying5 Tryz.underlying9 hC]
  simp [strOfNums,byte]
def bodyT (priv:Int) (ps:List (List Int)) (inter:List UInt8) (fin:Int):List UInt8:=(if priv=0 then [] else [byte priv])++(Lib.join (ps.map oneT) [59]++inter++[byte fin])
theorem join_row0 (w:World) (A:Option Addr) (n c:Nat) (lb:List ByteArray) (l:List (List UInt8)) (sep:List UInt8) (ok:Nat→Prop) (base:Nat) (hr:Kd.R kstr 9 w base ok (.slice A n c) lb) (hlb:lb.map (fun x=>x.data.toList)=l) (hl:lb.length≤140737488355328) (hj:(Lib.join l sep).length≤140737488355328) :
    Calls Tryz.prog 115 #[.slice A n c,.string ⟨sep.toArray⟩] w fun e w'=>e=.returned (.string ⟨(Lib.join l sep).toArray⟩)∧Below w.heap.size w w':=join_row w w A n c lb l sep ok base hr hlb (Below.refl _ _) hl hj
theorem oneT_all (ps:List (List Int)) (hp:∀ p∈ps,p.length≤1000∧∀ x∈p,-9223372036854775808≤x∧x≤9223372036854775807):(Lib.join (ps.map oneT) [59]).length≤ps.length * 22001:=by
  have h:=join_le (ps.map oneT) [59] 22000 (fun x hx=>by
    obtain ⟨p,hpm,rfl⟩:=List.mem_map.1 hx
    have h1:=oneT_len p (hp p hpm).2
    have h2:=(hp p hpm).1
    omega)
  simpa using h
theorem rdL_mem {xs:List (List Int)} {k:Nat} (h:k < xs.length):rdL xs k∈xs∧xs[k]?=some (rdL xs k):=by
  unfold rdL
  rw [List.getD_eq_getElem?_getD,List.getElem?_eq_getElem h]
  exact ⟨List.getElem_mem h,rfl⟩
set_option maxHeartbeats 8000000 in
theorem body_calls (kind priv fin:Int) (inter:List UInt8) (data:Value) (hdata:data.oneCell'=true) (Ap:Option Addr) (cp:Nat) (ps:List (List Int)) (w:World) (hr:Kd.C kli w Ap ps.length ps) (hp:∀ p∈ps,p.length≤1000∧∀ x∈p,-9223372036854775808≤x∧x≤9223372036854775807) (hl:ps.length≤1000) (hi:inter.length≤100000) (ht:Pow w) :
    Calls Tryz.prog 64 #[.agg #[.int .i64 kind,.int .u8 priv,.slice Ap ps.length cp,.string ⟨inter.toArray⟩,.int .u8 fin,data]] w fun e w'=>e=.returned (.string ⟨(bodyT priv ps inter fin).toArray⟩)∧Below w.heap.size w w':=by
  have HR:=Aside0.mk hr
  have HP:=Aside0.mk hp
  have HL:=Aside0.mk hl
  have HT:=Aside0.mk ht
  obtain ⟨I0,hI0⟩:∃ I0:ByteArray,I0=⟨inter.toArray⟩:=⟨_,rfl⟩
  obtain ⟨J0,hJ0⟩:∃ J0:ByteArray,J0=⟨(Lib.join (ps.map oneT) [59]).toArray⟩:=⟨_,rfl⟩
  obtain ⟨F0,hF0⟩:∃ F0:ByteArray,F0=⟨[byte fin].toArray⟩:=⟨_,rfl⟩
  obtain ⟨P0,hP0⟩:∃ P0:ByteArray,P0=⟨[byte priv].toArray⟩:=⟨_,rfl⟩
  have hconvF:∀ (W:World) (g:Nat),W.cell? ⟨g,0,none⟩=some (.int .u8 fin)→(convert 22 9 (.slice (some ⟨g,0,none⟩) 1 1)).run Tryz.prog W=.ok (.string F0) W:=fun W g h=>by rw [hF0];exact conv_one W g fin h
  have hconvP:∀ (W:World) (g:Nat),W.cell? ⟨g,0,none⟩=some (.int .u8 priv)→(convert 22 9 (.slice (some ⟨g,0,none⟩) 1 1)).run Tryz.prog W=.ok (.string P0) W:=fun W g h=>by rw [hP0];exact conv_one W g priv h
  have hs:J0.size≤22001000∧I0.size≤100000∧F0.size=1∧P0.size=1:=by
    have h1:=oneT_all ps hp
    refine ⟨?_,?_,by rw [hF0];rfl,by rw [hP0];rfl⟩
    · rw [hJ0]
      show (Lib.join (ps.map oneT) [59]).toArray.size≤_
      simp only [List.size_toArray]
      omega
    · rw [hI0]
      show inter.toArray.size≤_
      simpa using hi
  have z1:(9223372036854775807 < J0.size+I0.size)=False:=eq_false (by omega)
  have z2:(9223372036854775807 < J0.size+I0.size+F0.size)=False:=eq_false (by omega)
  have z3:(9223372036854775807 < P0.size+(J0.size+I0.size+F0.size))=False:=eq_false (by omega)
  have HBT:=Aside0.mk (show (⟨(bodyT priv ps inter fin).toArray⟩:ByteArray)=if priv=0 then J0++I0++F0 else P0++(J0++I0++F0) by
    unfold bodyT
    split
    · rw [hJ0,hI0,hF0,app_str,app_str,List.nil_append]
    · rw [hJ0,hI0,hF0,hP0,app_str,app_str,app_str])
  rw [← hI0]
  have HJ0:=Aside0.mk hJ0
  clear hr hp hl ht hs hI0 hJ0 hF0 hP0 hi
  go_enter Tryz.func64,Tryz.ntmps64
  go_wp2_with ((refine bx 1 #[.int .i64 kind,.int .u8 priv,.slice Ap ps.length cp,.string I0,.int .u8 fin,data] 44 (h:=?_);intro gb hg w5 hbox hb;have BK:=Aside0.mk hbox;have GE:=Aside0.mk (show w.heap.size≤gb by rw [hg];exact Nat.le_refl _);have HB5:=Aside0.mk hb;clear hb hbox hg;have hc2:w5.cell? ⟨gb,2,none⟩=some (.slice Ap ps.length cp):=(blk_cell BK.out 2).trans rfl))
  show Code.wp _ _ _ _ _
  go_loopg [3,10] (ps.length+1) (fun kq v3 v10 W=>∃ k:Nat,v10=.int .i64 (k:Int)∧Aside0 (k≤ps.length∧ps.length - k < kq)∧Aside0 (Kd.R kstr 9 W w.heap.size (fun k=>w.heap.size≤k∧k≠gb) v3 (((ps.take k).map oneT).map bstr))∧Aside0 (Below w.heap.size w W)∧Aside0 (W.heap[gb]?=some (.cells #[.int .i64 kind,.int .u8 priv,.slice Ap ps.length cp,.string I0,.int .u8 fin,data] 44 (0,0))))
  case atStart=>exact ⟨0,rfl,⟨by omega⟩,⟨Kd.R_nil _ _ _ _ _⟩,HB5,BK⟩
  case round =>
    clear hc2 BK HB5
    obtain ⟨k,rfl,HK,HO,HBr,BK⟩:=hrel
    cases gk with
    | zero=>exact absurd HK.out (by omega)
    | succ k1 =>
      by_cases hx:k < ps.length
      · have c1:decide ((k:Int) < (ps.length:Int))=true:=decide_eq_true (by omega)
        have c1n:=eq_true hx
        obtain ⟨ad,A0,c0,eA,hcell,hlc,hC⟩:=at_L HR.out k hx
        obtain ⟨hmem,hget⟩:=rdL_mem hx
        obtain ⟨p,hpp⟩:∃ p,rdL ps k=p:=⟨_,rfl⟩
        rw [hpp] at hcell hlc hC hmem hget
        have hbn:=HP.out p hmem
        subst eA
        have hlt:=lt_of_cellT hcell
        have hy0:=(HBr.out.cell hlt).trans hcell
        have HX:=Aside0.mk hx
        have HN:=Aside0.mk hbn
        have HNK:=Aside0.mk hget
        have HC0:=Aside0.mk hC
        have p1:(0:Int)≤(k:Int):=by omega
        have p2:(k:Int) < (ps.length:Int):=by omega
        clear hcell hx hbn hget hmem hlc hC hpp
        go_wp2_with (first|(go_at_call 116;refine (one_calls A0 c0 p wr (Kd.C_below HC0.out HBr.out) HN.out.2 (by have:=HN.out.1;omega) (HT.out.below HBr.out)).mono ?_;rintro e W1 ⟨rfl,hb⟩;have HBA:=Aside0.mk (below_step HBr.out hb);have HO_:=Aside0.mk (Kd.R_below HO.out hb);have BK_:=Aside0.mk (blk_below BK.out hb);clear hb HO BK;have HO:=HO_;have BK:=BK_;clear HO_ BK_)|((with_reducible refine gate_dst (N:=17) rfl ?_);refine Kd.R_lit kstr (w0:=w) w.heap.size 9 ?hg (N:=17) ?hd (xs:=([⟨(oneT p).toArray⟩]:List ByteArray)) (inner:=[.string ⟨(oneT p).toArray⟩]) (ok:=fun k=>w.heap.size≤k∧k≠gb) (okp:=fun _=>False) ?hr ?hp (fun _ hk=>hk.elim) ⟨below_size HBA.out,Nat.ne_of_gt (blk_lt BK.out)⟩ HBA.out (below_size HBA.out) (by simp) ?_;(case hd=>rfl);(case hg=>rfl);(case hr=>first|(go_simp;done)|(go_simp;rfl));(case hp=>exact Reps.one (show Kd.M kstr _ _ _ _ [.string ⟨(oneT p).toArray⟩] from rfl) (Reps.none _ _));intro v2 W2 ho hb hg hat;obtain ⟨A2,c2,rfl,hl2,hc2⟩:=Kd.R_reads ho;have HC2:=Aside0.mk hc2;have HO_:=Aside0.mk (Kd.R_grown HO.out hg (fun k _ e=>by cases e));have HBB:=Aside0.mk hb;have BK_:=Aside0.mk (blk_grown BK.out hg (by simp));clear HO HBA BK;have HO:=HO_;have BK:=BK_;clear HO_ BK_ ho hb hg hat hl2 hc2)|((with_reducible refine gate_builtin (b:=.append) (xs:=#[.tmp 14,.tmp 17]) rfl ?_);at_builtin;refine Kd.R_append_rows kstr (w0:=w) w.heap.size rfl (.tmp 14) (.tmp 17) 28 9 (.string ⟨#[]⟩) 16 rfl Tryz.underlying28 infoStr rfl (by decide) (by omega) _ (((ps.take k).map oneT).map bstr) [⟨(oneT p).toArray⟩] A2 _ c2 (fun k=>w.heap.size≤k∧k≠gb) (fun _=>False) rfl rfl HO.out HC2.out (fun _ _ h=>h) (fun _ h=>h.elim) (fun k hk=>⟨Nat.le_trans (below_size HBB.out) hk,by have:=blk_lt BK.out;omega⟩) HBB.out (below_size HBB.out) (by have:=HL.out;have:=HX.out;simp only [List.length_map,List.length_take,List.length_cons,List.length_nil];omega) ?_;intro v3 W3 ho hb hg hat;have HO3:=Aside0.mk ho;have HB3:=Aside0.mk hb;have BK_:=Aside0.mk (blk_grown BK.out hg (Kd.R_ne HO.out BK.out (by decide)));clear ho hb hg hat HO HBB HC2 BK;have BK:=BK_;clear BK_))
        go_roundg k1
        case measure=>omega
        case rel=>exact ⟨k+1,by first | rfl|(congr 1;omega)|(rw [IntWalk.wrap64_in _ (by have:=HL.out;omega)];rfl),⟨by have:=HX.out;have:=HK.out;omega⟩,⟨by have h_:=HO3.out;rw [List.take_add_one,HNK.out];simpa [bstr] using h_⟩,HB3,BK⟩
      · have c1:decide ((k:Int) < (ps.length:Int))=false:=decide_eq_false (by omega)
        have c1n:=eq_false hx
        have hk:k=ps.length:=by have:=HK.out;omega
        subst hk
        have hO:=HO.out
        rw [List.take_length] at hO
        obtain ⟨A3,c3,rfl⟩:=Kd.R_slice hO
        clear HO
        have hO2:Kd.R kstr 9 wr w.heap.size (fun k=>w.heap.size≤k∧k≠gb) (.slice A3 ps.length c3) ((ps.map oneT).map bstr):=by simpa only [List.length_map] using hO
        have HO:=Aside0.mk hO2
        clear hO2
        have HLL:=Aside0.mk (show ((ps.map oneT).map bstr).length≤140737488355328 by have:=HL.out;simp;omega)
        have HJ:=Aside0.mk (show (Lib.join (ps.map oneT) [59]).length≤140737488355328 by have h_:=oneT_all ps HP.out;have:=HL.out;omega)
        have hd3:wr.cell? ⟨gb,3,none⟩=some (.string I0):=(blk_cell BK.out 3).trans rfl
        have hd4:wr.cell? ⟨gb,4,none⟩=some (.int .u8 fin):=(blk_cell BK.out 4).trans rfl
        have hl4:=blk_lt BK.out
        have hln:((ps.map oneT).map bstr).length=ps.length:=by simp
        clear hO hx
        go_wp2
        go_region_with (go_at_call 115;first|((with_reducible refine (join_row0 _ A3 _ c3 _ (ps.map oneT) [59] _ _ (Kd.R_drew HO.out) (bstr_list _) HLL.out HJ.out).mono ?_);rintro e W4 ⟨rfl,hb⟩;rw [← HJ0.out];have HB4:=Aside0.mk (below_step (below_drew1 HBr.out) hb);have BK4:=Aside0.mk (blk_below (blk_drew BK.out) hb);have hd3:W4.cell? ⟨gb,3,none⟩=some (.string I0):=(blk_cell BK4.out 3).trans rfl;have hd4:W4.cell? ⟨gb,4,none⟩=some (.int .u8 fin):=(blk_cell BK4.out 4).trans rfl;have hd1:W4.cell? ⟨gb,1,none⟩=some (.int .u8 priv):=(blk_cell BK4.out 1).trans rfl;have hl4:=blk_lt BK4.out;clear hb)|((with_reducible refine (join_row0 _ A3 _ c3 _ (ps.map oneT) [59] _ _ (Kd.R_drew (Kd.R_alloc HO.out _)) (bstr_list _) HLL.out HJ.out).mono ?_);rintro e W4 ⟨rfl,hb⟩;rw [← HJ0.out];have HB4:=Aside0.mk (below_step (below_drew1 (below_alloc HBr.out _)) hb);have BK4:=Aside0.mk (blk_below (blk_drew (blk_alloc BK.out _)) hb);have hd3:W4.cell? ⟨gb,3,none⟩=some (.string I0):=(blk_cell BK4.out 3).trans rfl;have hd4:W4.cell? ⟨gb,4,none⟩=some (.int .u8 fin):=(blk_cell BK4.out 4).trans rfl;have hd1:W4.cell? ⟨gb,1,none⟩=some (.int .u8 priv):=(blk_cell BK4.out 1).trans rfl;have hd5:=(blk_cell (blk_below (blk_drew (blk_new wr (.cells #[.int .u8 fin] 5 (0,0)))) hb) 0).trans rfl;have hl4:=blk_lt BK4.out;clear hb))
        all_goals
          by_cases hpv:priv=0
          · have e5:(priv == 0)=true:=beq_iff_eq.2 hpv
            have HBT1:=Aside0.mk (HBT.out.trans (if_pos hpv))
            clear hpv
            go_wp2
            go_ret
            exact ⟨by rw [HBT1.out];rfl,(by repeat (first | exact HB4.out | apply below_alloc | apply below_drew1))⟩
          · have e5:(priv == 0)=false:=beq_eq_false_iff_ne.2 hpv
            have HBT1:=Aside0.mk (HBT.out.trans (if_neg hpv))
            clear hpv
            go_wp2
            go_ret
            exact ⟨by rw [HBT1.out];rfl,(by repeat (first | exact HB4.out | apply below_alloc | apply below_drew1))⟩
end Go.Proofs.YthjacokachgmfaaGreatDoor.H
end
