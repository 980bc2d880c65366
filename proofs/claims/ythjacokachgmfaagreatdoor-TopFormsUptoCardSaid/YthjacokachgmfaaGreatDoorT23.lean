import Derived.Deep.RegionLaw
import Derived.Test.YthjacokachgmfaaGreatDoorT03
import Derived.Test.YthjacokachgmfaaGreatDoorT04
import Derived.Test.YthjacokachgmfaaGreatDoorT06
import Derived.Test.YthjacokachgmfaaGreatDoorT07
import Derived.Test.YthjacokachgmfaaGreatDoorT20
import Derived.Test.YthjacokachgmfaaGreatDoorT22
set_option linter.unusedVariables false
set_option linter.unusedSimpArgs false
section
namespace Go.Proofs.YthjacokachgmfaaGreatDoor.H
open Go Go.RowKit YthjacokachgmfaaGreatDoorW.PrintWords YthjacokachgmfaaGreatDoorW.PrintLast YthjacokachgmfaaGreatDoorW.PrintMore
open Ev
set_option maxRecDepth 100000
set_option maxHeartbeats 4000000 in
theorem grow_calls (n:Nat) (hn:1≤n∧n≤1000000) (w:World):Calls Tryz.prog 145 #[.slice none 0 0,.int .i64 (n:Int)] w fun e w'=>∃ v,e=.returned v∧Kd.R (Kd.int .u8) 5 w' w.heap.size (fun _=>True) v []∧Below w.heap.size w w':=by
  have e0:decide ((n:Int) < 0)=false:=decide_eq_false (by omega)
  have e1:wrap64 (n:Int)=(n:Int):=IntWalk.wrap64_in _ (by omega)
  have e2:decide (0 < (n:Int))=true:=decide_eq_true (by omega)
  have e3:decide (0 < n)=true:=decide_eq_true (by omega)
  have HN:=Aside0.mk hn
  have E1:=Aside0.mk e1
  clear hn
  go_enter Tryz.func145,Tryz.ntmps145
  go_wp2_with (first|((with_reducible refine gate_dst (N:=22) rfl ?_);refine Kd.R_append_zeros (Kd.int .u8) (w0:=w) w.heap.size rfl (.tmp 20) (.tmp 21) 22 3 5 (.int .u8 0) 1 rfl Tryz.underlying22 Tryz.underlying3 info5 rfl (by decide) (by decide) (.slice none 0 0) [] 0 (wrap64 (n:Int)) (fun _=>True) rfl rfl rfl (fun _ _=>trivial) (Kd.R_nil _ _ _ _ _) (by rw [E1.out];omega) (Below.refl _ _) (Nat.le_refl _) (by have:=HN.out;rw [E1.out];simp;omega) ?_;intro v1 w1 ho hb hg hat;rw [E1.out] at ho;simp only [List.nil_append,Int.toNat_natCast] at ho;obtain ⟨A1,c1,rfl⟩:=Kd.R_slice ho;obtain ⟨i0,hi0,_,hsz,_⟩:=info_parts info5;have hcap:=(Kd.R_reads' ho).2.1;have hcut:=cut_to (P:=Tryz.prog) 22 5 .i64 Tryz.underlying22 hi0 A1 (List.replicate n (0:Int)).length c1 0 (by omega) (by omega) hcap;have HO:=Aside0.mk (Kd.R_take (m:=0) ho (by omega));have HB:=Aside0.mk hb;simp only [Int.toNat_zero] at hcut;clear ho hb hg hat hcap hi0 hsz))
  go_ret
  exact ⟨_,rfl,HO.out,HB.out⟩
set_option maxHeartbeats 8000000 in
theorem concat3_calls (gL:Nat) (A1 A2 A3:Option Addr) (c1 c2 c3:Nat) (L1 L2 L3:List Int) (w:World) (hb:w.heap[gL]?=some (.cells #[.slice A1 L1.length c1,.slice A2 L2.length c2,.slice A3 L3.length c3] 22 (0,0)))
    (h1:Kd.C (Kd.int .u8) w A1 L1.length L1) (h2:Kd.C (Kd.int .u8) w A2 L2.length L2) (h3:Kd.C (Kd.int .u8) w A3 L3.length L3) (l1:1≤L1.length∧L1.length≤100000) (l2:L2.length≤100000) (l3:L3.length≤100000) :
    Calls Tryz.prog 106 #[.slice (some ⟨gL,0,none⟩) 3 3] w fun e w'=>∃ v,e=.returned v∧Kd.R (Kd.int .u8) 5 w' w.heap.size (fun _=>True) v (L1++L2++L3)∧Below w.heap.size w w':=by
  obtain ⟨m1,hm1⟩:∃ m,L1.length=m:=⟨_,rfl⟩
  obtain ⟨m2,hm2⟩:∃ m,L2.length=m:=⟨_,rfl⟩
  obtain ⟨m3,hm3⟩:∃ m,L3.length=m:=⟨_,rfl⟩
  have HL:=Aside0.mk (And.intro hb (And.intro h1 (And.intro h2 h3)))
  rw [hm1,hm2,hm3] at hb HL
  rw [hm1] at l1
  rw [hm2] at l2
  rw [hm3] at l3
  have q0:w.cell? ⟨gL,0,none⟩=some (.slice A1 m1 c1):=(blk_cell hb 0).trans rfl
  have q1:w.cell? ⟨gL,1,none⟩=some (.slice A2 m2 c2):=(blk_cell hb 1).trans rfl
  have q2:w.cell? ⟨gL,2,none⟩=some (.slice A3 m3 c3):=(blk_cell hb 2).trans rfl
  have HM:=Aside0.mk (And.intro l1 (And.intro l2 l3))
  have HE:=Aside0.mk (And.intro hm1 (And.intro hm2 hm3))
  have d1:decide ((m1:Int) < 0)=false:=decide_eq_false (by omega)
  have d2:decide ((m1:Int)+(m2:Int) < 0)=false:=decide_eq_false (by omega)
  have d3:decide ((m1:Int)+(m2:Int)+(m3:Int) < 0)=false:=decide_eq_false (by omega)
  have e1:wrap64 (m1:Int)=(m1:Int):=IntWalk.wrap64_in _ (by omega)
  have e2:wrap64 ((m1:Int)+(m2:Int))=(m1:Int)+(m2:Int):=IntWalk.wrap64_in _ (by omega)
  have e3:wrap64 ((m1:Int)+(m2:Int)+(m3:Int))=(m1:Int)+(m2:Int)+(m3:Int):=IntWalk.wrap64_in _ (by omega)
  clear hb h1 h2 h3 l1 l2 l3 hm1 hm2 hm3
  go_enter Tryz.func106,Tryz.ntmps106
  go_wp2
  show Code.wp _ _ _ _ _
  go_loopg [3,11] 4 (fun kq v3 v11 W=>W=w∧((v3=.int .i64 0∧v11=.int .i64 0∧4≤kq)∨(v3=.int .i64 (m1:Int)∧v11=.int .i64 1∧3≤kq)∨(v3=.int .i64 ((m1:Int)+(m2:Int))∧v11=.int .i64 2∧2≤kq)∨(v3=.int .i64 ((m1:Int)+(m2:Int)+(m3:Int))∧v11=.int .i64 3∧1≤kq)))
  case atStart=>exact ⟨rfl,.inl ⟨rfl,rfl,by omega⟩⟩
  case round =>
    obtain ⟨he,hrel⟩:=hrel
    obtain rfl:w=wr:=he.symm
    rcases hrel with ⟨rfl,rfl,hk⟩ | ⟨rfl,rfl,hk⟩ | ⟨rfl,rfl,hk⟩ | ⟨rfl,rfl,hk⟩
    · obtain ⟨k1,rfl⟩:∃ k1,gk=k1+1:=⟨gk - 1,by omega⟩
      go_wp2
      go_roundg k1
      case measure=>omega
      case rel=>exact ⟨rfl,.inr (.inl ⟨by first | rfl | rw [e1],rfl,by omega⟩)⟩
    · obtain ⟨k1,rfl⟩:∃ k1,gk=k1+1:=⟨gk - 1,by omega⟩
      go_wp2
      go_roundg k1
      case measure=>omega
      case rel=>exact ⟨rfl,.inr (.inr (.inl ⟨by first | rfl | rw [e2],rfl,by omega⟩))⟩
    · obtain ⟨k1,rfl⟩:∃ k1,gk=k1+1:=⟨gk - 1,by omega⟩
      go_wp2
      go_roundg k1
      case measure=>omega
      case rel=>exact ⟨rfl,.inr (.inr (.inr ⟨by first | rfl | rw [e3],rfl,by omega⟩))⟩
    · clear q0 q1 q2 d1 d2 d3 e1 e2 e3
      have HG:=Aside0.mk (grow_calls (m1+m2+m3) (by have:=HM.out;omega) w)
      rw [show ((m1+m2+m3:Nat):Int)=(m1:Int)+(m2:Int)+(m3:Int) by omega] at HG
      go_wp2_with (first|(go_at_call 145;refine HG.out.mono ?_;rintro e w1 ⟨v6,rfl,hR,hB⟩;have HR:=Aside0.mk hR;have HB:=Aside0.mk hB;clear hR hB))
      show Code.wp _ _ _ _ _
      go_loopg [6,27] 4 (fun kq v6 v27 W=>Aside0 (Below w.heap.size w W)∧((v27=.int .i64 0∧4≤kq∧Aside0 (Kd.R (Kd.int .u8) 5 W w.heap.size (fun _=>True) v6 []))∨(v27=.int .i64 1∧3≤kq∧Aside0 (Kd.R (Kd.int .u8) 5 W w.heap.size (fun _=>True) v6 L1))∨(v27=.int .i64 2∧2≤kq∧Aside0 (Kd.R (Kd.int .u8) 5 W w.heap.size (fun _=>True) v6 (L1++L2)))∨(v27=.int .i64 3∧1≤kq∧Aside0 (Kd.R (Kd.int .u8) 5 W w.heap.size (fun _=>True) v6 (L1++L2++L3)))))
      case atStart=>exact ⟨HB,.inl ⟨rfl,by omega,HR⟩⟩
      case round =>
        obtain ⟨HB,hrel⟩:=hrel
        have q0:wr.cell? ⟨gL,0,none⟩=some (.slice A1 m1 c1):=(blk_cell (blk_below HL.out.1 HB.out) 0).trans rfl
        have q1:wr.cell? ⟨gL,1,none⟩=some (.slice A2 m2 c2):=(blk_cell (blk_below HL.out.1 HB.out) 1).trans rfl
        have q2:wr.cell? ⟨gL,2,none⟩=some (.slice A3 m3 c3):=(blk_cell (blk_below HL.out.1 HB.out) 2).trans rfl
        rcases hrel with ⟨rfl,hk,HR⟩ | ⟨rfl,hk,HR⟩ | ⟨rfl,hk,HR⟩ | ⟨rfl,hk,HR⟩
        · obtain ⟨k2,rfl⟩:∃ k2,gk=k2+1:=⟨gk - 1,by omega⟩
          have HCx:=Aside0.mk (Kd.C_below HL.out.2.1 HB.out)
          go_wp2_with (first|((with_reducible refine gate_dst (N:=33) rfl ?_);refine Kd.R_append_rows (Kd.int .u8) (w0:=w) w.heap.size rfl (.tmp 31) (.tmp 32) 22 5 (.int .u8 0) 1 rfl Tryz.underlying22 info5 rfl (by decide) (by decide) u6 [] L1 A1 m1 c1 (fun _=>True) (fun _=>False) rfl rfl HR.out (by have:=HCx.out;exact this) (fun _ _ h=>h) (fun _ h=>h.elim) (fun _ _=>trivial) HB.out (below_size HB.out) (by have h1:=HM.out;have h2:=HE.out;(try simp only [List.length_append,List.length_nil]);omega) ?_;intro v1 w3 ho hb hg hat;have HR3:=Aside0.mk ho;have HB3:=Aside0.mk hb;clear ho hb hg hat))
          go_roundg k2
          case measure=>omega
          case rel=>exact ⟨HB3,.inr (.inl ⟨rfl,by omega,HR3⟩)⟩
        · obtain ⟨k2,rfl⟩:∃ k2,gk=k2+1:=⟨gk - 1,by omega⟩
          have HCx:=Aside0.mk (Kd.C_below HL.out.2.2.1 HB.out)
          go_wp2_with (first|((with_reducible refine gate_dst (N:=33) rfl ?_);refine Kd.R_append_rows (Kd.int .u8) (w0:=w) w.heap.size rfl (.tmp 31) (.tmp 32) 22 5 (.int .u8 0) 1 rfl Tryz.underlying22 info5 rfl (by decide) (by decide) u6 L1 L2 A2 m2 c2 (fun _=>True) (fun _=>False) rfl rfl HR.out (by have:=HCx.out;exact this) (fun _ _ h=>h) (fun _ h=>h.elim) (fun _ _=>trivial) HB.out (below_size HB.out) (by have h1:=HM.out;have h2:=HE.out;(try simp only [List.length_append,List.length_nil]);omega) ?_;intro v1 w3 ho hb hg hat;have HR3:=Aside0.mk ho;have HB3:=Aside0.mk hb;clear ho hb hg hat))
          go_roundg k2
          case measure=>omega
          case rel=>exact ⟨HB3,.inr (.inr (.inl ⟨rfl,by omega,HR3⟩))⟩
        · obtain ⟨k2,rfl⟩:∃ k2,gk=k2+1:=⟨gk - 1,by omega⟩
          have HCx:=Aside0.mk (Kd.C_below HL.out.2.2.2 HB.out)
          go_wp2_with (first|((with_reducible refine gate_dst (N:=33) rfl ?_);refine Kd.R_append_rows (Kd.int .u8) (w0:=w) w.heap.size rfl (.tmp 31) (.tmp 32) 22 5 (.int .u8 0) 1 rfl Tryz.underlying22 info5 rfl (by decide) (by decide) u6 (L1++L2) L3 A3 m3 c3 (fun _=>True) (fun _=>False) rfl rfl HR.out (by have:=HCx.out;exact this) (fun _ _ h=>h) (fun _ h=>h.elim) (fun _ _=>trivial) HB.out (below_size HB.out) (by have h1:=HM.out;have h2:=HE.out;(try simp only [List.length_append,List.length_nil]);omega) ?_;intro v1 w3 ho hb hg hat;have HR3:=Aside0.mk ho;have HB3:=Aside0.mk hb;clear ho hb hg hat))
          go_roundg k2
          case measure=>omega
          case rel=>exact ⟨HB3,.inr (.inr (.inr ⟨rfl,by omega,HR3⟩))⟩
        · go_wp2
          go_ret
          exact ⟨u6,rfl,by first | exact HR.out|(rw [← List.append_assoc];exact HR.out),HB.out⟩
end Go.Proofs.YthjacokachgmfaaGreatDoor.H
end
section
namespace Go.Proofs.YthjacokachgmfaaGreatDoor.H
open Go Go.RowKit YthjacokachgmfaaGreatDoorW.PrintWords YthjacokachgmfaaGreatDoorW.PrintLast YthjacokachgmfaaGreatDoorW.PrintMore
theorem infoU8:(Tryz.prog.info? 5).map (fun i=>(i.zero,i.size,i.bytes))=some (some (.int .u8 0),1,1):=by kernel_rfl
theorem Push_ok (w0 w:World) (q:Nat) (P:Nat→Prop) (x:QS) (A:Option Addr) (l:List Int) (c:Nat) (hB:Below w0.heap.size w0 w) (h:Qu w w0.heap.size q P x)
    (hr:∀ W,Kept w W (fun k=>P k∨k=q)→Kd.C (Kd.int .u8) W A l.length l) (hc:l.length≤c) (hn:(x.bs.length:Int)+l.length≤x.room) (hb:x.bs.length+l.length < 4294967296) :
    Calls Tryz.prog 85 #[.pointer (some ⟨q,0,none⟩),.slice A l.length c] w fun e w'=>e=.returned (.bool true)∧Qu w' w0.heap.size q (fun k=>P k∨w.heap.size≤k) ⟨x.bs++l,x.room,x.dr⟩∧Below w0.heap.size w0 w'∧Kept w w' (fun k=>P k∨k=q):=by
  obtain ⟨h0,sl,h1,h2⟩:=h
  obtain ⟨bs,room,dr⟩:=x
  obtain ⟨A2,c2,rfl⟩:=Kd.R_slice h2
  dsimp only at *
  have hc0:w.cell? ⟨q,0,none⟩=some (.slice A2 bs.length c2):=(blk_cell h1 0).trans rfl
  have hc1:w.cell? ⟨q,1,none⟩=some (.int .i64 room):=(blk_cell h1 1).trans rfl
  have e1:decide (room < wrap64 ((bs.length:Int)+l.length))=false:=decide_eq_false (by rw [IntWalk.wrap64_in _ (by omega)];omega)
  have h1:=Aside0.mk h1
  have h2:=Aside0.mk h2
  have HB:=Aside0.mk hB
  have HR:=Aside0.mk hr
  have HL:=Aside0.mk hb
  clear hn hB hb hr
  go_enter Tryz.func85,Tryz.ntmps85
  go_wp2
  go_region
  go_wp2_with ((with_reducible refine gate_builtin (b:=.append) (xs:=#[.tmp 28,.tmp 29]) rfl ?_);at_builtin;refine Kd.R_append_rows (Kd.int .u8) (w0:=w0) w0.heap.size rfl (.tmp 28) (.tmp 29) 22 5 (.int .u8 0) 1 rfl Tryz.underlying22 infoU8 rfl (by decide) (by omega) (.slice A2 bs.length c2) bs l _ _ _ (fun k=>P k∨w.heap.size≤k) (fun _=>False) rfl rfl ?aO ?aR (fun _ _ h=>h) (fun _ h=>h.elim) ?aF ?aB ?aS ?aL ?_;(case aR=>exact HR.out _ (Kept.drew (Kept.refl _ _)));(case aB=>exact below_drew1 HB.out);(case aF=>exact fun k hk=>.inr hk);(case aO=>exact Kd.R_drew (Kd.R_mono h2.out (fun _ hk=>.inl hk)));(case aS=>exact below_size (below_drew1 HB.out));(case aL=>have:=HL.out;omega);intro v1 w1 ho hb hg hat;obtain ⟨A3,c3,rfl⟩:=Kd.R_slice ho;have hq1:=blk_grown (blk_drew h1.out) hg (Kd.R_ne h2.out h1.out (by decide));have hc3:w1.cell? ⟨q,0,none⟩=some (.slice A2 bs.length c2):=(blk_cell hq1 0).trans rfl;have hz3:=blk_frozen hq1 0;have HQ:=Aside0.mk hq1;have HO:=Aside0.mk ho;have HB1:=Aside0.mk hb;have HG:=Aside0.mk hg;have HAT:=Aside0.mk hat;clear hq1 ho hb hg hat)
  go_ret
  refine ⟨rfl,⟨h0,_,blk_put HQ.out 0 _ rfl,(by have h_:=Kd.R_set HO.out HQ.out (by decide) 0 (.slice A3 (bs.length+l.length) c3);rw [List.length_append] at h_;exact h_)⟩,below_set HB1.out h0,?_⟩
  exact Kept.setCell (Kept.of_grown HG.out (Kept.drew (Kept.refl _ _)) (fun k hk=>.inl (.inl (h2.out.1 k hk)))) (.inl (.inr rfl)) _
end Go.Proofs.YthjacokachgmfaaGreatDoor.H
end
section
namespace Go.Proofs.YthjacokachgmfaaGreatDoor.H
open Go Go.RowKit YthjacokachgmfaaGreatDoorW.PrintWords YthjacokachgmfaaGreatDoorW.PrintLast YthjacokachgmfaaGreatDoorW.PrintMore
theorem copy_run {P:Program} {α:Type} {enc:α→Value} {h1:∀ x,(enc x).oneCell'=true} (d:α) {W:World} (base:Nat) (t t' e u:TypeId)
    (ht:P.underlying t=some (.slice e)) (hinfo:(P.info? e).map (·.size)=some 1) (v:Value) (xs ys:List α) (A:Option Addr) (m c:Nat) (ok:Nat→Prop)
    (HO:(Kd.scalar enc h1).R e W base ok v xs) (HR:(Kd.scalar enc h1).C W A m ys) :
    ∃ w1,(Builtin.copy_ #[t,t'] u #[v,.slice A m c]).run P W=.ok (goInt ((min m xs.length:Nat):Int)) w1∧(Kd.scalar enc h1).R e w1 base ok v (ys.take (min m xs.length)++xs.drop (min m xs.length))∧W.grownBy w1 v.ownBlock:=by
  have hR:=Kd.reads_of_C (enc:=enc) (d:=d) (h1:=h1) HR
  have hm:ys.length=m:=hR.1
  have hown:=Kd.own_of_R HO
  rcases Nat.eq_zero_or_pos (min m xs.length) with h0 | hp
  · obtain ⟨A',c',hv⟩:=own_slice hown
    refine ⟨W,?_,by rw [h0,List.take_zero,List.drop_zero,List.nil_append];exact HO,World.grownBy.refl W _⟩
    rw [h0,hv]
    exact run_copy_none W t t' u e A' A xs.length c' m c ht hinfo h0
  · obtain ⟨ad,hA,hc⟩:=hR.2.2 (by omega)
    rcases hown.2 with ⟨_,hx0⟩ | ⟨g,cap,cur,hv,hb,hh,hnc,hcm,hcs,htake⟩
    · omega
    have hcs1:cur.size=cap:=by omega
    have hln:(ys.take (min m xs.length)++xs.drop (min m xs.length)).length=xs.length:=by
      rw [List.length_append,List.length_take,List.length_drop]
      omega
    have hkl:(encs enc (ys.take (min m xs.length))).length=min m xs.length:=by rw [encs_length,List.length_take];omega
    have hsrc:∀ j z,(encs enc (ys.take (min m xs.length)))[j]?=some z→W.cell? (ad.add j)=some z:=by
      intro j z hz
      have hj:j < (ys.take (min m xs.length)).length:=by
        have:=(List.getElem?_eq_some_iff.1 hz).1
        rwa [encs_length] at this
      have hjm:j < min m xs.length:=by rw [List.length_take] at hj;omega
      rw [encs_get (d:=d) _ j hj] at hz
      rw [hc j (by omega),← hz]
      simp [List.getD_eq_getElem?_getD,hjm]
    have hr:=run_copy_cells (P:=P) W t t' u e g 0 xs.length cap ad m c (encs enc (ys.take (min m xs.length))) ht hinfo (by rw [hkl]) hsrc
      (fun j hj=>by rw [cell_of_row W g _ cur e (0,0) hh];simp;omega) (fun j _=>blk_frozen hh _) (by intro z hz;simp only [encs,List.mem_map] at hz;obtain ⟨q,_,rfl⟩:=hz;exact h1 q)
    obtain ⟨cur',h3,h4,h5⟩:=setCells_row (encs enc (ys.take (min m xs.length))) 0 W cur hh (by rw [hkl];omega)
    obtain ⟨s1,s2,s3,s4⟩:=setCells_same g (encs enc (ys.take (min m xs.length))) 0 W
    refine ⟨_,by rw [hv,hA,hr,hkl],Kd.R_of_own ?_ HO.1,⟨s1,s2,s3,by rw [s4];exact Nat.le_refl _,fun k _ hk=>setCells_far _ _ k (fun he=>hk (by rw [hv,he];simp [Value.ownBlock]))⟩⟩
    rw [hln]
    refine ⟨by rw [encs_length,hln,Nat.mul_one],.inr ⟨g,cap,cur',hv,hb,h3,hnc,hcm,by rw [h4,hcs],?_⟩⟩
    have htk:cur.toList.take xs.length=encs enc xs:=by rw [← htake,Nat.mul_one]
    have hd:encs enc (xs.drop (min m xs.length))=(encs enc xs).drop (min m xs.length):=by simp [encs,List.map_drop]
    rw [h5,List.take_zero,List.nil_append,hkl,Nat.zero_add,encs_append,Nat.mul_one,List.take_append,hkl,List.take_of_length_le (by rw [hkl];omega),hd,← htk,List.drop_take]
theorem copy_step {P:Program} {ops:Array Oper} {o:Oper} {a:Act} {Q:Exit→Act→World→Prop} {Kc:Act→World→Prop} {E:Prop} {α:Type} {enc:α→Value} {h1:∀ x,(enc x).oneCell'=true} (d:α) {W:World} (base:Nat) (hgd:o.guard=none) (s x:Operand) (t t' e:TypeId)
    (ho:o.op=.call { callee:=.builtin .copy,args:=#[s,x],argTypes:=#[t,t'] }) (ht:P.underlying t=some (.slice e)) (hinfo:(P.info? e).map (·.size)=some 1)
    (v:Value) (xs ys:List α) (A:Option Addr) (m c:Nat) (ok:Nat→Prop) (hs:a.eval s=v) (hx:a.eval x=.slice A m c)
    (HO:(Kd.scalar enc h1).R e W base ok v xs) (HR:(Kd.scalar enc h1).C W A m ys)
    (h:∀ w1,(Kd.scalar enc h1).R e w1 base ok v (ys.take (min m xs.length)++xs.drop (min m xs.length))→W.grownBy w1 v.ownBlock→Kc (a.put o.dst (.int .i64 ((min m xs.length:Nat):Int))) w1) :
    if Region.wanted o (yielded ops a.tmps)=true then Oper.wp P o a W Kc Q else E:=by
  have hw:Region.wanted o (yielded ops a.tmps)=true:=by simp [Region.wanted,hgd]
  rw [if_pos hw]
  obtain ⟨w1,hr,h2,h3⟩:=copy_run (P:=P) d base t t' e o.type ht hinfo v xs ys A m c ok HO HR
  unfold Oper.wp execOp
  simp only [ho,resolve,invoke,builtin,Sem.run_bind,Sem.run_pure,Result.andThen_ok,List.map_toArray,List.map_cons,List.map_nil,hs,hx,hr]
  exact h w1 h2 h3
end Go.Proofs.YthjacokachgmfaaGreatDoor.H
end
section
namespace Go.Proofs.YthjacokachgmfaaGreatDoor.H
open Go Go.RowKit YthjacokachgmfaaGreatDoorW.PrintWords YthjacokachgmfaaGreatDoorW.PrintLast YthjacokachgmfaaGreatDoorW.PrintMore
attribute [local go_sem] max_two min_two
theorem infoU8i:∃ i,Tryz.prog.info? 5=some i∧i.size=1:=by
  obtain ⟨i,hi,hz⟩:=Option.map_eq_some_iff.1 infoU8
  exact ⟨i,hi,by simpa using congrArg (fun z=>z.2.1) hz⟩
theorem infoU8s:(Tryz.prog.info? 5).map (·.size)=some 1:=by
  obtain ⟨i,hi,hz⟩:=infoU8i
  rw [hi,Option.map_some,hz]
theorem cut_both (A:Option Addr) (n c:Nat) (K:Nat) (hm:K≤n) (hc:n≤c) :
    ∀ W:World,(Instr.slice 22 (.slice A n c) none (some (.int .i64 (K:Int))) (some (.int .i64 (K:Int)))).run Tryz.prog W=.ok (.slice A K K) W:=by
  intro W
  have hel:Tryz.prog.elem 22=5:=by simp [Program.elem,Tryz.underlying22]
  have hu:Tryz.prog.underlying 22=some (.slice (Tryz.prog.elem 22)):=by rw [hel];exact Tryz.underlying22
  have ha:(A.map fun x=>x.add 0)=A:=by cases A<;>simp [Addr.add]
  obtain ⟨i,hi,hz⟩:=infoU8i
  rw [run_slice_hm W 22 A n c hu .i64 .i64 K K (by omega) (by omega) (by omega),hel]
  simp [sizeOf,typeInfo,hi,sliced,Result.andThen,ha]
set_option maxHeartbeats 1600000 in
theorem Drain_calls (w0 w:World) (q:Nat) (P:Nat→Prop) (x:QS) (n:Int) (hB:Below w0.heap.size w0 w) (h:Qu w w0.heap.size q P x) (hb:x.bs.length < 4294967296) :
    Calls Tryz.prog 56 #[.pointer (some ⟨q,0,none⟩),.int .i64 n] w fun e w'=>∃ v,e=.returned v∧Kd.R (Kd.int .u8) 5 w' w0.heap.size (fun k=>w.heap.size≤k) v (x.bs.take (min (max n 0) (x.bs.length:Int)).toNat) ∧
      Qu w' w0.heap.size q P ⟨x.bs.drop (min (max n 0) (x.bs.length:Int)).toNat,x.room,x.dr⟩∧Below w0.heap.size w0 w'∧Kept w w' (fun k=>P k∨k=q):=by
  obtain ⟨h0,sl,h1,h2⟩:=h
  obtain ⟨bs,room,dr⟩:=x
  obtain ⟨A2,c2,he2,hl2,_⟩:=Kd.R_reads h2
  subst he2
  dsimp only at *
  obtain ⟨K,hK⟩:∃ K:Nat,min (max n 0) (bs.length:Int)=(K:Int):=⟨(min (max n 0) (bs.length:Int)).toNat,by omega⟩
  have hKl:K≤bs.length:=by omega
  obtain ⟨M,hM⟩:∃ M:Int,M=max n 0:=⟨_,rfl⟩
  have hmx:Builtin.max2 (.int .i64 n) (.int .i64 0)=pure (.int .i64 M):=by rw [max2_int,hM];congr 2;split<;>omega
  have hmn:Builtin.min2 (.int .i64 M) (.int .i64 bs.length)=pure (.int .i64 (K:Int)):=by rw [min2_int,← hK,hM];congr 2;split<;>omega
  have hT:(min (max n 0) (bs.length:Int)).toNat=K:=by omega
  rw [hT]
  clear hT hK hM
  obtain ⟨ix,hix,hiz⟩:=infoU8i
  have hs1:=cut_both A2 bs.length c2 K hKl hl2
  have hs2:=cut_from (P:=Tryz.prog) 22 5 .i64 Tryz.underlying22 hix 1 hiz A2 bs.length c2 (K:Int) (by omega) (by omega)
  have hs3:=cut_to (P:=Tryz.prog) 22 5 .i64 Tryz.underlying22 hix A2 bs.length c2 (((bs.length - K:Nat)):Int) (by omega) (by omega) hl2
  simp only [Int.toNat_natCast,Nat.mul_one] at hs2 hs3
  obtain ⟨A4,hA4⟩:∃ A4,A4=(if c2=K then A2 else Option.map (fun x=>x.add K) A2):=⟨_,rfl⟩
  rw [← hA4] at hs2
  have HA4:=Aside0.mk hA4
  clear hA4
  have hc0:w.cell? ⟨q,0,none⟩=some (.slice A2 bs.length c2):=(blk_cell h1 0).trans rfl
  have hz0:=blk_frozen h1 0
  have h1:=Aside0.mk h1
  have h2:=Aside0.mk (Kd.R_bound h2)
  have HB:=Aside0.mk hB
  have HKl:=Aside0.mk hKl
  have HL2:=Aside0.mk hl2
  have HBL:=Aside0.mk hb
  clear hB hb hKl hl2 hix hiz
  go_enter Tryz.func56,Tryz.ntmps56
  go_wp2_with (first|((with_reducible refine gate_ (.makeSlice 22 (.tmp 17) (.tmp 17)) rfl ?_);refine Kd.R_make (Kd.int .u8) (w0:=w0) w0.heap.size 5 rfl (N:=18) rfl 22 (.tmp 17) (.tmp 17) rfl (K:Int) rfl rfl Tryz.underlying22 (.int .u8 0) 1 infoU8 rfl (by decide) (by decide) 0 (ok:=fun k=>w.heap.size≤k) (okp:=fun _=>False) rfl (fun _ h=>h.elim) (Nat.le_refl _) (by omega) (by have:=HKl.out;have:=HBL.out;omega) HB.out (below_size HB.out) ?_;intro v1 w1 ho hb hg hat;simp only [Int.toNat_natCast] at ho;obtain ⟨A3,c3,e3⟩:=Kd.R_slice ho;rw [List.length_replicate] at e3;subst e3;have Q1:=Aside0.mk (blk_grown h1.out hg (by simp));have hc1:w1.cell? ⟨q,0,none⟩=some (.slice A2 bs.length c2):=(blk_cell Q1.out 0).trans rfl;have hz1:=blk_frozen Q1.out 0;have R1:=Aside0.mk (Kd.R_grown h2.out hg (fun k _=>by simp));have HB1:=Aside0.mk hb;have HO1:=Aside0.mk ho;have HK1:=Aside0.mk (Kept.of_grown hg (Kept.refl w (fun k=>P k∨k=q)) (fun k h=>by cases h));have HA1:=Aside0.mk hat;clear ho hb hg hat)|((with_reducible refine gate_builtin (b:=.copy) (xs:=#[.tmp 19,.tmp 26]) rfl ?_);refine Kd.R_copy (0:Int) (w0:=w0) w0.heap.size rfl (.tmp 19) (.tmp 26) 22 22 5 rfl Tryz.underlying22 infoU8s (.slice A3 K c3) (List.replicate K 0) (bs.take K) A2 K K (fun k=>w.heap.size≤k) rfl rfl HO1.out (by have h_:=Kd.C_take (Kd.R_reads' R1.out).2.2 HKl.out;rwa [List.length_take,Nat.min_eq_left HKl.out] at h_) HB1.out (below_size HB1.out) ?_;intro w2 ho hb hg;rw [show (bs.take K).take (min K (List.replicate K (0:Int)).length)++(List.replicate K (0:Int)).drop (min K (List.replicate K (0:Int)).length)=bs.take K by rw [List.length_replicate,Nat.min_self,List.drop_of_length_le (by simp),List.append_nil,List.take_take,Nat.min_self]] at ho;have Q2:=Aside0.mk (blk_grown Q1.out hg (Kd.R_ne HO1.out Q1.out (by decide)));have hc2:w2.cell? ⟨q,0,none⟩=some (.slice A2 bs.length c2):=(blk_cell Q2.out 0).trans rfl;have hz2:=blk_frozen Q2.out 0;have R2:=Aside0.mk (Kd.R_grown R1.out hg (fun k hk he=>by have h3:=HO1.out.1 k he.symm;have h4:=hk.2.2.1;omega));have HB2:=Aside0.mk hb;have HO2:=Aside0.mk ho;have HK2:=Aside0.mk (Kept.of_grown hg HK1.out (fun k h=>.inr (HO1.out.1 k h)));clear ho hb hg))
  (try simp only [Act.put,List.setIfInBounds_toArray,List.set_cons_zero,List.set_cons_succ])
  go_region_law (refine copy_step (0:Int) w0.heap.size rfl (.tmp 31) (.tmp 37) 22 22 5 rfl Tryz.underlying22 infoU8s (.slice A2 bs.length c2) bs (bs.drop K) A4 (bs.length - K) (c2 - K) _ rfl rfl (Kd.R_drew R2.out) (by have h_:=Kd.C_drop (c:=c2) (Kd.R_reads' (Kd.R_drew R2.out)).2.2 HKl.out HL2.out;rw [List.length_drop,show K * (Kd.int .u8).sz=K from Nat.mul_one K,← HA4.out] at h_;exact h_) ?_;intro w3 ho hg)
  all_goals
    rw [show (bs.drop K).take (min (bs.length - K) bs.length)++bs.drop (min (bs.length - K) bs.length)=bs.drop K++bs.drop (bs.length - K) by rw [Nat.min_eq_left (Nat.sub_le _ _),List.take_of_length_le (by rw [List.length_drop];exact Nat.le_refl _)]] at ho
    have Q3:=Aside0.mk (blk_grown (blk_drew Q2.out) hg (Kd.R_ne R2.out Q2.out (by decide)))
    have hc3:w3.cell? ⟨q,0,none⟩=some (.slice A2 bs.length c2):=(blk_cell Q3.out 0).trans rfl
    have hz3:=blk_frozen Q3.out 0
    have O3:=Aside0.mk (Kd.R_grown (Kd.R_drew HO2.out) hg (fun k hk he=>by have h3:=(R2.out.1 k he.symm).2.2.1;omega))
    have HB3:=Aside0.mk ((below_drew1 HB2.out).grown hg (below_size (below_drew1 HB2.out)) (fun k hk=>(R2.out.1 k hk).2.1))
    have HK3:=Aside0.mk (Kept.of_grown hg (Kept.drew HK2.out) (fun k h=>.inl (.inl (R2.out.1 k h).1)))
    have R3:=Aside0.mk ho
    clear ho hg
    have e3:(bs.drop K++bs.drop (bs.length - K)).take (bs.length - K)=bs.drop K:=by rw [List.take_append_of_le_length (by rw [List.length_drop];exact Nat.le_refl _),List.take_of_length_le (by rw [List.length_drop];exact Nat.le_refl _)]
    have R4:=Aside0.mk (show Kd.R (Kd.int .u8) 5 w3 w0.heap.size P (.slice A2 (bs.length - K) c2) (bs.drop K) by rw [← e3];exact Kd.R_mono (Kd.R_take R3.out (by rw [List.length_append,List.length_drop];omega)) (fun k hk=>hk.1))
    clear e3
    go_wp2
    all_goals
      go_ret
      exact ⟨_,rfl,Kd.R_set O3.out Q3.out (by decide) 0 _,⟨h0,_,blk_put Q3.out 0 _ rfl,Kd.R_set R4.out Q3.out (by decide) 0 _⟩,below_set HB3.out h0,Kept.setCell HK3.out (.inl (.inr rfl)) _⟩
end Go.Proofs.YthjacokachgmfaaGreatDoor.H
end
section
namespace Go.Proofs.YthjacokachgmfaaGreatDoor.H
open Go Go.RowKit YthjacokachgmfaaGreatDoorW.PrintWords YthjacokachgmfaaGreatDoorW.PrintLast YthjacokachgmfaaGreatDoorW.PrintMore
open Ev
set_option maxRecDepth 100000
set_option maxHeartbeats 8000000 in
theorem drop_raw (w0 w:World) (p:Nat) (u0 u1 u2 u3 u4 u5 u6 u7 u8 u9 u10 u11:Value) (oA:Option Addr) (on oc:Nat) (hB:Below w0.heap.size w0 w) (h0:w0.heap.size≤p) (hp:w.heap[p]?=some (.cells #[u0,u1,u2,u3,u4,u5,u6,u7,u8,u9,u10,u11,.slice oA on oc] 117 (0,0))) :
    Calls Tryz.prog 146 #[.pointer (some ⟨p,0,none⟩)] w fun e w'=>e=.returned (.tuple #[])∧w'.heap[p]?=some (.cells #[.nilFunc,.int .i64 0,.int .u8 0,.slice none 0 0,.string ⟨#[]⟩,.int .u8 0,.string ⟨#[]⟩,.slice none 0 0,.slice none 0 0,.bool false,.bool false,.bool false,.slice oA on oc] 117 (0,0))∧Below w0.heap.size w0 w'∧Kept w w' (fun k=>k=p):=by
  have HB:=Aside0.mk hB
  have Bp:=Aside0.mk hp
  have HK:Aside0 (Kept w w (fun k=>k=p)):=⟨Kept.refl _ _⟩
  clear hB hp
  have qp:=cells13 Bp.out
  go_enter Tryz.func146,Tryz.ntmps146
  go_wp2_with (first|((with_reducible refine gate_store (t:=117) rfl ?_);refine sx 117 0 Bp (h:=?_);intro w1 hS hg;replace HB:=Aside0.mk (HB.out.grown hg (below_size HB.out) (fun k hk=>by injection hk with hk;rw [← hk];exact h0));replace HK:=Aside0.mk (Kept.of_grown hg HK.out (fun k hk=>.inl (by injection hk with hk;exact hk.symm)));clear Bp qp hg;have Bp:=hS;clear hS;have qp:=cells13 Bp.out))
  go_end0
  exact ⟨rfl,Bp.out,HB.out,HK.out⟩
end Go.Proofs.YthjacokachgmfaaGreatDoor.H
end
