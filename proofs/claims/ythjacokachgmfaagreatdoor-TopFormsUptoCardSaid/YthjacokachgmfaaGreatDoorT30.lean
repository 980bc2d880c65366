import Derived.Test.YthjacokachgmfaaGreatDoorT04
import Derived.Test.YthjacokachgmfaaGreatDoorT19
import Derived.Test.YthjacokachgmfaaGreatDoorT29
set_option linter.unusedVariables false
set_option linter.unusedSimpArgs false
section
namespace Go.Proofs.YthjacokachgmfaaGreatDoor.H
open Go Go.RowKit YthjacokachgmfaaGreatDoorW.PrintWords YthjacokachgmfaaGreatDoorW.PrintLast YthjacokachgmfaaGreatDoorW.PrintMore
open Ev
set_option maxRecDepth 100000
theorem cell_lt {w:World} {a:Addr} {v:Value} (h:w.cell? a=some v):a.block < w.heap.size:=by
  cases hh:w.heap[a.block]? with
  | none=>simp [World.cell?,hh] at h
  | some o=>exact blk_lt hh
theorem one_L {w:World} {A:Option Addr} {n:Int} (h:Kd.C kli w A 1 [[n]]):∃ ad A0 c0,A=some ad∧w.cell? ad=some (.slice (some A0) 1 c0)∧w.cell? A0=some (.int .i64 n):=by
  obtain ⟨ad,A0,c0,e,h1,_,h2⟩:=at_L h 0 (by decide)
  have hn:rdL [[n]] 0=[n]:=rfl
  rw [hn] at h1 h2
  obtain ⟨a0,m,e2,e3,h3⟩:=at_I (p:=[n]) h2 (k:=0) (by simp)
  subst e2
  obtain rfl:n=m:=by simpa using e3
  have z:∀ a:Addr,a.add 0=a:=fun a=>by simp [Addr.add]
  rw [z] at h1 h3
  exact ⟨ad,a0,c0,e,h1,h3⟩
set_option maxHeartbeats 4000000 in
theorem arg_calls (kind priv fin n d:Int) (inter data:ByteArray) (A:Option Addr) (c:Nat) (w:World) (hr:Kd.C kli w A 1 [[n]]) (hn:0≤n) :
    Calls Tryz.prog 206 #[.agg #[.int .i64 kind,.int .u8 priv,.slice A 1 c,.string inter,.int .u8 fin,.string data],.int .i64 0,.int .i64 d] w fun e w'=>e=.returned (.int .i64 n)∧Below w.heap.size w w':=by
  obtain ⟨ad,A0,c0,rfl,h1,h2⟩:=one_L hr
  have l1:=cell_lt h1
  have l2:=cell_lt h2
  have hd:decide (n < 0)=false:=decide_eq_false (by omega)
  have HB:=Aside0.mk (Below.refl w.heap.size w)
  clear hr
  go_enter Tryz.func206,Tryz.ntmps206
  go_wp2_with (first|(refine bx 3 #[.int .i64 kind,.int .u8 priv,.slice (some ad) 1 c,.string inter,.int .u8 fin,.string data] 44 (h:=?_);intro g3 hg w1 hbox hb;obtain ⟨y0,y1,y2,y3,y4,y5⟩:=cells6 hbox;have HB1:=Aside0.mk hb;have x1:=(hb.cell l1).trans h1;have x2:=(hb.cell l2).trans h2;clear hbox hb hg))
  go_ret
  exact ⟨rfl,HB1.out⟩
set_option maxHeartbeats 4000000 in
theorem arg_none (kind priv fin i d:Int) (inter data:ByteArray) (A:Option Addr) (m c:Nat) (w:World) (h0:0≤i) (hi:(m:Int)≤i) :
    Calls Tryz.prog 206 #[.agg #[.int .i64 kind,.int .u8 priv,.slice A m c,.string inter,.int .u8 fin,.string data],.int .i64 i,.int .i64 d] w fun e w'=>e=.returned (.int .i64 d)∧Below w.heap.size w w':=by
  go_enter Tryz.func206,Tryz.ntmps206
  go_wp2_with (first|(refine bx 3 #[.int .i64 kind,.int .u8 priv,.slice A m c,.string inter,.int .u8 fin,.string data] 44 (h:=?_);intro g3 hg w1 hbox hb;obtain ⟨y0,y1,y2,y3,y4,y5⟩:=cells6 hbox;have HB1:=Aside0.mk hb;clear hbox hb hg))
  go_ret
  exact ⟨rfl,HB1.out⟩
end Go.Proofs.YthjacokachgmfaaGreatDoor.H
end
section
namespace Go.Proofs.YthjacokachgmfaaGreatDoor.H
open Go Go.RowKit YthjacokachgmfaaGreatDoorW.PrintWords YthjacokachgmfaaGreatDoorW.PrintLast YthjacokachgmfaaGreatDoorW.PrintMore
open Ev
set_option maxRecDepth 100000
theorem button_calls (k:Int) (h:0≤k∧k < 12) (w:World):Calls Tryz.prog 140 #[.int .i64 k] w fun e w'=>∃ b:Int,e=.returned (.int .i64 b)∧(b=65↔k=5)∧Below w.heap.size w w':=by
  have:k=0∨k=1∨k=2∨k=3∨k=4∨k=5∨k=6∨k=7∨k=8∨k=9∨k=10∨k=11:=by omega
  clear h
  rcases this with rfl | rfl | rfl | rfl | rfl | rfl | rfl | rfl | rfl | rfl | rfl | rfl
  all_goals
    go_enter Tryz.func140,Tryz.ntmps140
    go_wp2
    go_ret
    exact ⟨_,rfl,by decide,Below.refl _ _⟩
def bt (k:Int):Int:=if k≤5 then 0 else 5
set_option maxHeartbeats 8000000 in
theorem like_calls (w:World):Calls Tryz.prog 240 #[.int .i64 97,.int .u8 117] w fun e w'=>e=.returned (.agg #[.int .i64 5,.int .i64 4,.int .i64 0,.int .i64 0,.int .i64 0])∧Below w.heap.size w w':=by
  have HB:=Aside0.mk (Below.refl w.heap.size w)
  have EB:Go.bits .andNot .i64 97 60=65:=by kernel_rfl
  have EA:Go.bits .and .i64 97 32=32:=by kernel_rfl
  go_enter Tryz.func240,Tryz.ntmps240
  go_wp2_with (first|(refine bx 4 #[.int .i64 0,.int .i64 0,.int .i64 0,.int .i64 0,.int .i64 0] 37 (h:=?_);intro g4 hg w1 hbox hb;have HBo:=HB;replace HB:=bh HB hb;have B4:=Aside0.mk hbox;have q4:=cells5 B4.out;have G4:=Aside0.mk (show w.heap.size≤g4 by rw [hg];exact below_size HBo.out);clear hbox hb hg HBo)|(refine bx 5 #[.int .i64 0,.int .i64 0,.int .i64 0,.int .i64 0,.int .i64 0] 37 (h:=?_);intro g5 hg w2 hbox hb;have HBo:=HB;have L4_:=blk_lt B4.out;replace B4:=kb B4 hb;clear q4;have q4:=cells5 B4.out;replace HB:=bh HB hb;have B5:=Aside0.mk hbox;have q5:=cells5 B5.out;have G5:=Aside0.mk (show w.heap.size≤g5 by rw [hg];exact below_size HBo.out);have NE5_4:=Aside0.mk (show g5≠g4 by omega);have NE4_5:=Aside0.mk (Ne.symm NE5_4.out);clear L4_;clear hbox hb hg HBo)|((with_reducible refine gate_store (t:=37) rfl ?_);refine store_ev rfl rfl 37 _ _ rfl g5 0 37 _ B5.out rfl _ rfl [.int .i64 0,.int .i64 1,.int .i64 0,.int .i64 0,.int .i64 0] rfl (by kernel_rfl) (by show 0+5≤5;decide) (by simp [Value.oneCell']) #[.int .i64 0,.int .i64 1,.int .i64 0,.int .i64 0,.int .i64 0] rfl ?_;intro w3 hS hg;replace B4:=Aside0.mk (blk_grown B4.out hg (fun e=>NE4_5.out (by injection e)));clear q4;have q4:=cells5 B4.out;replace HB:=Aside0.mk (HB.out.grown hg (below_size HB.out) (fun k hk=>by injection hk with hk;rw [← hk];exact G5.out));clear B5 q5 hg;have B5:=Aside0.mk hS;clear hS;have q5:=cells5 B5.out)|((with_reducible refine gate_store (t:=3) rfl ?_);refine store_ev rfl rfl 3 _ _ rfl g5 1 37 _ B5.out rfl _ rfl [.int .i64 4] rfl (by kernel_rfl) (by show 1+1≤5;decide) (by simp [Value.oneCell']) #[.int .i64 0,.int .i64 4,.int .i64 0,.int .i64 0,.int .i64 0] rfl ?_;intro w4 hS hg;replace B4:=Aside0.mk (blk_grown B4.out hg (fun e=>NE4_5.out (by injection e)));clear q4;have q4:=cells5 B4.out;replace HB:=Aside0.mk (HB.out.grown hg (below_size HB.out) (fun k hk=>by injection hk with hk;rw [← hk];exact G5.out));clear B5 q5 hg;have B5:=Aside0.mk hS;clear hS;have q5:=cells5 B5.out))
  have NE54:=Aside0.mk (show g5≠g4 from NE5_4.out)
  clear NE5_4 NE4_5
  have G4_:=G4
  show Code.wp _ _ _ _ _
  go_loopg [18] 13 (fun kq v18 W=>∃ k:Int,v18=.int .i64 k∧Aside0 (0≤k∧k≤12∧(12 - k).toNat < kq)∧Aside0 (W.heap[g4]?=some (.cells #[.int .i64 0,.int .i64 0,.int .i64 0,.int .i64 0,.int .i64 0] 37 (0,0)))∧Aside0 (W.heap[g5]?=some (.cells #[.int .i64 (bt k),.int .i64 4,.int .i64 0,.int .i64 0,.int .i64 0] 37 (0,0)))∧Aside0 (Below w.heap.size w W))
  case atStart=>exact ⟨0,rfl,⟨by decide⟩,B4,B5,HB⟩
  case round =>
    clear B4 B5 HB q4 q5
    obtain ⟨k,rfl,HK0,B4,B5,HB⟩:=hrel
    have NE5_4:=NE54
    have NE4_5:=Aside0.mk (Ne.symm NE54.out)
    have q4:=cells5 B4.out
    have q5:=cells5 B5.out
    by_cases hk:k < 12
    · obtain ⟨k1,rfl⟩:∃ k1,gk=k1+1:=⟨gk - 1,by have:=HK0.out;omega⟩
      have c1:decide (k < 12)=true:=decide_eq_true hk
      have HKB:=Aside0.mk (show 0≤k∧k < 12 from ⟨HK0.out.1,hk⟩)
      have E4:=Aside0.mk (show wrap64 (k+1)=k+1 from IntWalk.wrap64_in _ (by have:=HK0.out;omega))
      by_cases h5:k=5
      · have HB5:=Aside0.mk (show bt (k+1)=k by rw [h5];decide)
        have HN5:=Aside0.mk h5
        clear h5 hk
        go_wp2_with (first|(go_at_call 140;refine (button_calls k HKB.out _).mono ?_;rintro e w5 ⟨b,rfl,hbt,hb⟩;replace B4:=kb B4 hb;clear q4;have q4:=cells5 B4.out;replace B5:=kb B5 hb;clear q5;have q5:=cells5 B5.out;replace HB:=bh HB hb;clear hb;have HBT:=Aside0.mk hbt;have eb:(b == 65)=true:=(by have:=HBT.out;exact beq_iff_eq.2 (this.2 HN5.out));clear hbt)|((with_reducible refine gate_store (t:=3) rfl ?_);refine store_ev rfl rfl 3 _ _ rfl g5 0 37 _ B5.out rfl _ rfl [.int .i64 k] rfl (by kernel_rfl) (by show 0+1≤5;decide) (by simp [Value.oneCell']) #[.int .i64 k,.int .i64 4,.int .i64 0,.int .i64 0,.int .i64 0] rfl ?_;intro w6 hS hg;replace B4:=Aside0.mk (blk_grown B4.out hg (fun e=>NE4_5.out (by injection e)));clear q4;have q4:=cells5 B4.out;replace HB:=Aside0.mk (HB.out.grown hg (below_size HB.out) (fun k hk=>by injection hk with hk;rw [← hk];exact G5.out));clear B5 q5 hg;have B5:=Aside0.mk hS;clear hS;have q5:=cells5 B5.out))
        go_roundg k1
        case measure=>omega
        case rel=>exact ⟨k+1,by first | rfl | rw [E4.out],⟨by have:=HK0.out;have:=HKB.out;omega⟩,B4,⟨by rw [HB5.out];exact B5.out⟩,HB⟩
      · have HB5:=Aside0.mk (show bt (k+1)=bt k by unfold bt;split<;>split<;>omega)
        have HN5:=Aside0.mk h5
        clear h5 hk
        go_wp2_with (first|(go_at_call 140;refine (button_calls k HKB.out _).mono ?_;rintro e w5 ⟨b,rfl,hbt,hb⟩;replace B4:=kb B4 hb;clear q4;have q4:=cells5 B4.out;replace B5:=kb B5 hb;clear q5;have q5:=cells5 B5.out;replace HB:=bh HB hb;clear hb;have HBT:=Aside0.mk hbt;have eb:(b == 65)=false:=(by have:=HBT.out;exact beq_eq_false_iff_ne.2 (fun e=>HN5.out (this.1 e)));clear hbt))
        go_roundg k1
        case measure=>omega
        case rel=>exact ⟨k+1,by first | rfl | rw [E4.out],⟨by have:=HK0.out;have:=HKB.out;omega⟩,B4,⟨by rw [HB5.out];exact B5.out⟩,HB⟩
    · have c1:decide (k < 12)=false:=decide_eq_false hk
      have hk12:k=12:=by have:=HK0.out;omega
      have B5_:=Aside0.mk (show wr.heap[g5]?=some (.cells #[.int .i64 5,.int .i64 4,.int .i64 0,.int .i64 0,.int .i64 0] 37 (0,0)) by have:=B5.out;rw [hk12] at this;exact this)
      clear B5 q5 hk hk12
      have B5:=B5_
      have q5:=cells5 B5.out
      go_wp2_with (first|((with_reducible refine gate_dst (N:=29) rfl ?_);refine load_ev rfl 37 _ rfl g5 0 rfl B5.out [.int .i64 5,.int .i64 4,.int .i64 0,.int .i64 0,.int .i64 0] rfl _ Tryz.underlying37 rfl (by kernel_rfl) ?_)|((with_reducible refine gate_store (t:=37) rfl ?_);refine store_ev rfl rfl 37 _ _ rfl g4 0 37 _ B4.out rfl _ rfl [.int .i64 5,.int .i64 4,.int .i64 0,.int .i64 0,.int .i64 0] rfl (by kernel_rfl) (by show 0+5≤5;decide) (by simp [Value.oneCell']) #[.int .i64 5,.int .i64 4,.int .i64 0,.int .i64 0,.int .i64 0] rfl ?_;intro w7 hS hg;replace B5:=Aside0.mk (blk_grown B5.out hg (fun e=>NE5_4.out (by injection e)));clear q5;have q5:=cells5 B5.out;replace HB:=Aside0.mk (HB.out.grown hg (below_size HB.out) (fun k hk=>by injection hk with hk;rw [← hk];exact G4.out));clear B4 q4 hg;have B4:=Aside0.mk hS;clear hS;have q4:=cells5 B4.out))
      refine bodyPost_ret (results_cell_row rfl _ _ g4 37 #[.int .i64 5,.int .i64 4,.int .i64 0,.int .i64 0,.int .i64 0] (0,0) _ rfl B4.out Tryz.underlying37 rfl (by kernel_rfl)) rfl ?_
      exact ⟨rfl,HB.out⟩
end Go.Proofs.YthjacokachgmfaaGreatDoor.H
end
section
namespace Go.Proofs.YthjacokachgmfaaGreatDoor.H
open Go Go.RowKit YthjacokachgmfaaGreatDoorW.PrintWords YthjacokachgmfaaGreatDoorW.PrintLast YthjacokachgmfaaGreatDoorW.PrintMore
open Ev
set_option maxRecDepth 100000
theorem tmay_calls (w:World):Calls Tryz.prog 95 #[.agg #[.int .i64 5,.int .i64 4,.int .i64 0,.int .i64 0,.int .i64 0]] w fun e w'=>e=.returned (.bool false)∧Below w.heap.size w w':=by
  have HB:=Aside0.mk (Below.refl w.heap.size w)
  go_enter Tryz.func95,Tryz.ntmps95
  go_wp2_with (first|(refine bx 1 #[.int .i64 5,.int .i64 4,.int .i64 0,.int .i64 0,.int .i64 0] 37 (h:=?_);intro g1 hg w1 hbox hb;have HBo:=HB;replace HB:=bh HB hb;have B1:=Aside0.mk hbox;have q1:=cells5 B1.out;have G1:=gG HBo hg;clear hbox hb hg HBo))
  go_ret
  exact ⟨rfl,HB.out⟩
theorem kh97 (l:List Int):KeyHead ([27,91,57,55,117]++l) 2 57 117 [57,55] :=
  ⟨rfl,rfl,rfl,by decide,rfl,by decide,by decide,fun j x hj hx=>by
    match j,hj with
    | 0,_=>simp at hx;omega
    | 1,_=>simp at hx;omega,rfl,by decide⟩
theorem take97 (A:Option Addr) (c:Nat) (l:List Int) (w:World) (hpw:Pow w) (hC:Kd.C (Kd.int .u8) w A ([27,91,57,55,117]++l).length ([27,91,57,55,117]++l)) (hl:l.length≤1000) (hc:([27,91,57,55,117]++l).length≤c) :
    Calls Tryz.prog 10 #[.slice A ([27,91,57,55,117]++l).length c] w fun e w'=>∃ Av cv,e=.returned (.tuple #[.agg #[.int .i64 1,.int .u8 0,.slice Av 1 cv,.string ⟨#[]⟩,.int .u8 117,.string ⟨#[]⟩],.int .i64 5,.int .i64 0])∧Kd.C kli w' Av 1 [[97]]∧Below w.heap.size w w' :=
  take_calls A c ([27,91,57,55,117]++l) 2 57 117 [57,55] [27,91,57,55,117] w hpw hC (by simp;omega) hc (kh97 l) plain117 (by kernel_rfl) (by kernel_rfl) (by unfold pfxB;simp [nat8]) (by rfl)
set_option maxHeartbeats 8000000 in
theorem mdecode_calls (A:Option Addr) (n c:Nat) (w:World) (htk:∀ W,Below w.heap.size w W→Calls Tryz.prog 10 #[.slice A n c] W fun e w'=>∃ Av cv,e=.returned (.tuple #[.agg #[.int .i64 1,.int .u8 0,.slice Av 1 cv,.string ⟨#[]⟩,.int .u8 117,.string ⟨#[]⟩],.int .i64 5,.int .i64 0])∧Kd.C kli w' Av 1 [[97]]∧Below W.heap.size W w') :
    Calls Tryz.prog 186 #[.slice A n c] w fun e w'=>e=.returned (.tuple #[.agg #[.int .i64 0,.int .i64 0,.int .i64 0,.int .i64 0,.int .i64 0],.bool false])∧Below w.heap.size w w':=by
  have HTK:=Aside0.mk htk
  clear htk
  have HB:=Aside0.mk (Below.refl w.heap.size w)
  go_enter Tryz.func186,Tryz.ntmps186
  go_wp2_with (first|(refine bx 2 #[.int .i64 0,.int .i64 0,.int .i64 0,.int .i64 0,.int .i64 0] 37 (h:=?_);intro g2 hg w0_ hbox hb;have HBo:=HB;replace HB:=bh HB hb;have B2:=Aside0.mk hbox;have q2:=cells5 B2.out;have G2:=gG HBo hg;clear hbox hb hg HBo)|(go_at_call 10;refine (HTK.out _ HB.out).mono ?_;rintro e w1 ⟨Av,cv,rfl,hC,hb⟩;replace B2:=kb B2 hb;clear q2;have q2:=cells5 B2.out;replace HB:=bh HB hb;clear hb;have HC1:=Aside0.mk hC;have HB1:=Aside0.mk (Below.refl w1.heap.size w1);clear hC)|(refine bx 4 #[.int .i64 0,.int .u8 0,.slice none 0 0,.string ⟨#[]⟩,.int .u8 0,.string ⟨#[]⟩] 44 (h:=?_);intro g4 hg w2 hbox hb;have HBo:=HB;have HB1p:=HB1;replace B2:=kb B2 hb;clear q2;have q2:=cells5 B2.out;replace HB:=bh HB hb;replace HB1:=bh HB1 hb;have B4:=Aside0.mk hbox;have q4:=cells6 B4.out;have G4:=gG HBo hg;have GX4:=Aside0.mk (show w1.heap.size≤g4 by rw [hg];exact HB1p.out.size);clear HB1p;clear hbox hb hg HBo)|((with_reducible refine gate_store (t:=44) rfl ?_);refine sx 44 0 B4 (h:=?_);intro w3 hS hg;replace B2:=gnx B2 hg B4;clear q2;have q2:=cells5 B2.out;replace HB:=gb HB hg G4;replace HB1:=gb HB1 hg GX4;clear B4 q4 hg;have B4:=hS;clear hS;have q4:=cells6 B4.out)|(go_at_call 206;refine (arg_calls 1 0 117 97 256 ⟨#[]⟩ ⟨#[]⟩ Av cv _ (Kd.C_below HC1.out HB1.out) (by decide)).mono ?_;rintro e w4 ⟨rfl,hb⟩;replace B2:=kb B2 hb;clear q2;have q2:=cells5 B2.out;replace B4:=kb B4 hb;clear q4;have q4:=cells6 B4.out;replace HB:=bh HB hb;replace HB1:=bh HB1 hb;clear hb)|(go_at_call 240;refine (like_calls _).mono ?_;rintro e w5 ⟨rfl,hb⟩;replace B2:=kb B2 hb;clear q2;have q2:=cells5 B2.out;replace B4:=kb B4 hb;clear q4;have q4:=cells6 B4.out;replace HB:=bh HB hb;replace HB1:=bh HB1 hb;clear hb)|(refine bx 8 #[.int .i64 0,.int .i64 0,.int .i64 0,.int .i64 0,.int .i64 0] 37 (h:=?_);intro g8 hg w6 hbox hb;have HBo:=HB;have HB1p:=HB1;have L2_:=blk_lt B2.out;replace B2:=kb B2 hb;clear q2;have q2:=cells5 B2.out;replace B4:=kb B4 hb;clear q4;have q4:=cells6 B4.out;replace HB:=bh HB hb;replace HB1:=bh HB1 hb;have B8:=Aside0.mk hbox;have q8:=cells5 B8.out;have G8:=gG HBo hg;have GX8:=Aside0.mk (show w1.heap.size≤g8 by rw [hg];exact HB1p.out.size);clear HB1p;have NE8_2:=Aside0.mk (show g8≠g2 by omega);have NE2_8:=Aside0.mk (Ne.symm NE8_2.out);clear L2_;clear hbox hb hg HBo)|((with_reducible refine gate_store (t:=37) rfl ?_);refine sx 37 0 B8 (h:=?_);intro w7 hS hg;replace B2:=gk B2 hg NE2_8.out;clear q2;have q2:=cells5 B2.out;replace B4:=gnx B4 hg B8;clear q4;have q4:=cells6 B4.out;replace HB:=gb HB hg G8;replace HB1:=gb HB1 hg GX8;clear B8 q8 hg;have B8:=hS;clear hS;have q8:=cells5 B8.out))
  refine st 8 (fun w'=>w'.cell? ⟨g4,0,none⟩=some (.int .i64 1)∧w'.cell? ⟨g4,1,none⟩=some (.int .u8 0)∧w'.cell? ⟨g4,2,none⟩=some (.slice Av 1 cv)∧w'.cell? ⟨g4,3,none⟩=some (.string ⟨#[]⟩)∧w'.cell? ⟨g4,4,none⟩=some (.int .u8 117)∧w'.cell? ⟨g4,5,none⟩=some (.string ⟨#[]⟩)) [] (hS:=q4) (h:=fun hHeld=>?_)
  refine tk 0 hHeld (h:=?_)
  refine tk 2 hHeld (h:=?_)
  refine oS 1 (h:=fun K hK=>?_)
  refine gc Tryz.func206 (arg_none 1 0 117 1 0 ⟨#[]⟩ ⟨#[]⟩ Av 1 cv _ (by decide) (by decide)) (h:=?_)
  rintro e w8 ⟨rfl,hb⟩
  refine ⟨_,rfl,?_⟩
  replace B2:=kb B2 hb
  clear q2
  have q2:=cells5 B2.out
  replace B4:=kb B4 hb
  clear q4
  have q4:=cells6 B4.out
  replace B8:=kb B8 hb
  clear q8
  have q8:=cells5 B8.out
  replace HB:=bh HB hb
  replace HB1:=bh HB1 hb
  clear hb
  refine hK.out _ _ q4 (fun hHeld=>?_)
  clear hK K
  refine nm 29 (h:=?_)
  refine pu 4 (h:=?_)
  refine oS 3 (h:=fun K hK=>?_)
  refine gc Tryz.func206 (arg_none 1 0 117 2 0 ⟨#[]⟩ ⟨#[]⟩ Av 1 cv _ (by decide) (by decide)) (h:=?_)
  rintro e w8 ⟨rfl,hb⟩
  refine ⟨_,rfl,?_⟩
  replace B2:=kb B2 hb
  clear q2
  have q2:=cells5 B2.out
  replace B4:=kb B4 hb
  clear q4
  have q4:=cells6 B4.out
  replace B8:=kb B8 hb
  clear q8
  have q8:=cells5 B8.out
  replace HB:=bh HB hb
  replace HB1:=bh HB1 hb
  clear hb
  refine hK.out _ _ q4 (fun hHeld=>?_)
  clear hK K
  refine nm 31 (h:=?_)
  refine oN 5 (h:=fun K hK=>?_)
  refine store_step (by rfl) (by rfl) 3 (.tmp 32) (.tmp 29) (by rfl) g8 2 37 _ B8.out (by rfl) _ (by rfl) [.int .i64 0] rfl (by kernel_rfl) (by show 2+1≤5;decide) (by simp [Value.oneCell']) #[.int .i64 5,.int .i64 4,.int .i64 0,.int .i64 0,.int .i64 0] rfl ?_
  intro w9 hS hg
  replace B2:=gk B2 hg NE2_8.out
  clear q2
  have q2:=cells5 B2.out
  replace B4:=gnx B4 hg B8
  clear q4
  have q4:=cells6 B4.out
  replace HB:=gb HB hg G8
  replace HB1:=gb HB1 hg GX8
  clear B8 q8 hg
  have B8:=Aside0.mk hS
  clear hS
  have q8:=cells5 B8.out
  refine hK.out _ _ q4 (fun hHeld=>?_)
  clear hK K
  refine pu 6 (h:=?_)
  refine oN 7 (h:=fun K hK=>?_)
  refine store_step (by rfl) (by rfl) 3 (.tmp 33) (.tmp 31) (by rfl) g8 3 37 _ B8.out (by rfl) _ (by rfl) [.int .i64 0] rfl (by kernel_rfl) (by show 3+1≤5;decide) (by simp [Value.oneCell']) #[.int .i64 5,.int .i64 4,.int .i64 0,.int .i64 0,.int .i64 0] rfl ?_
  intro w9 hS hg
  replace B2:=gk B2 hg NE2_8.out
  clear q2
  have q2:=cells5 B2.out
  replace B4:=gnx B4 hg B8
  clear q4
  have q4:=cells6 B4.out
  replace HB:=gb HB hg G8
  replace HB1:=gb HB1 hg GX8
  clear B8 q8 hg
  have B8:=Aside0.mk hS
  clear hS
  have q8:=cells5 B8.out
  refine hK.out _ _ q4 (fun hHeld=>?_)
  clear hK K
  refine done_ (by kernel_rfl) ?_
  clear hHeld
  go_wp2_with (first|(go_at_call 95;refine (tmay_calls _).mono ?_;rintro e w10 ⟨rfl,hb⟩;replace B2:=kb B2 hb;clear q2;have q2:=cells5 B2.out;replace B4:=kb B4 hb;clear q4;have q4:=cells6 B4.out;replace B8:=kb B8 hb;clear q8;have q8:=cells5 B8.out;replace HB:=bh HB hb;replace HB1:=bh HB1 hb;clear hb)|((with_reducible refine gate_store (t:=37) rfl ?_);refine sx 37 0 B2 (h:=?_);intro w11 hS hg;replace B4:=gnx B4 hg B2;clear q4;have q4:=cells6 B4.out;replace B8:=gk B8 hg NE8_2.out;clear q8;have q8:=cells5 B8.out;replace HB:=gb HB hg G2;clear B2 q2 hg;have B2:=hS;clear hS;have q2:=cells5 B2.out))
  refine bodyPost_ret (results_ct rfl _ _ g2 37 #[.int .i64 0,.int .i64 0,.int .i64 0,.int .i64 0,.int .i64 0] (0,0) _ rfl B2.out Tryz.underlying37 rfl (by kernel_rfl)) rfl ?_
  exact ⟨rfl,HB.out⟩
end Go.Proofs.YthjacokachgmfaaGreatDoor.H
end
section
namespace Go.Proofs.YthjacokachgmfaaGreatDoor.H
open Go Go.RowKit YthjacokachgmfaaGreatDoorW.PrintWords YthjacokachgmfaaGreatDoorW.PrintLast YthjacokachgmfaaGreatDoorW.PrintMore
open Ev
set_option maxRecDepth 100000
set_option maxHeartbeats 4000000 in
theorem part_in (Av:Option Addr) (cv:Nat) (n d:Int) (w:World) (hr:Kd.C kli w Av 1 [[n]]) (hn:0≤n) :
    Calls Tryz.prog 188 #[.agg #[.int .i64 1,.int .u8 0,.slice Av 1 cv,.string ⟨#[]⟩,.int .u8 117,.string ⟨#[]⟩],.int .i64 0,.int .i64 0,.int .i64 d] w fun e w'=>e=.returned (.int .i64 n)∧Below w.heap.size w w':=by
  obtain ⟨ad,A0,c0,rfl,h1,h2⟩:=one_L hr
  have l1:=cell_lt h1
  have l2:=cell_lt h2
  have hd:decide (n < 0)=false:=decide_eq_false (by omega)
  clear hr
  go_enter Tryz.func188,Tryz.ntmps188
  go_wp2_with (first|((with_reducible refine gate_dst (N:=4) rfl ?_);refine box_event ?hg (N:=4) ?hd (cs:=#[.int .i64 1,.int .u8 0,.slice (some ad) 1 cv,.string ⟨#[]⟩,.int .u8 117,.string ⟨#[]⟩]) (t:=44) ?hr ?_;(case hd=>rfl);(case hg=>rfl);(case hr=>first|(go_simp;done)|(go_simp;rfl));intro g3 hg w1 hbox hb;obtain ⟨y0,y1,y2,y3,y4,y5⟩:=cells6 hbox;have HB1:=Aside0.mk hb;have x1:=(hb.cell l1).trans h1;have x2:=(hb.cell l2).trans h2;clear hbox hb hg))
  go_ret
  exact ⟨rfl,HB1.out⟩
set_option maxHeartbeats 4000000 in
theorem part_j1 (Av:Option Addr) (cv:Nat) (n d:Int) (w:World) (hr:Kd.C kli w Av 1 [[n]]) (hn:0≤n) :
    Calls Tryz.prog 188 #[.agg #[.int .i64 1,.int .u8 0,.slice Av 1 cv,.string ⟨#[]⟩,.int .u8 117,.string ⟨#[]⟩],.int .i64 0,.int .i64 1,.int .i64 d] w fun e w'=>e=.returned (.int .i64 d)∧Below w.heap.size w w':=by
  obtain ⟨ad,A0,c0,rfl,h1,h2⟩:=one_L hr
  have l1:=cell_lt h1
  have l2:=cell_lt h2
  have hd:decide (n < 0)=false:=decide_eq_false (by omega)
  clear hr
  go_enter Tryz.func188,Tryz.ntmps188
  go_wp2_with (first|((with_reducible refine gate_dst (N:=4) rfl ?_);refine box_event ?hg (N:=4) ?hd (cs:=#[.int .i64 1,.int .u8 0,.slice (some ad) 1 cv,.string ⟨#[]⟩,.int .u8 117,.string ⟨#[]⟩]) (t:=44) ?hr ?_;(case hd=>rfl);(case hg=>rfl);(case hr=>first|(go_simp;done)|(go_simp;rfl));intro g3 hg w1 hbox hb;obtain ⟨y0,y1,y2,y3,y4,y5⟩:=cells6 hbox;have HB1:=Aside0.mk hb;have x1:=(hb.cell l1).trans h1;have x2:=(hb.cell l2).trans h2;clear hbox hb hg))
  go_ret
  exact ⟨rfl,HB1.out⟩
set_option maxHeartbeats 4000000 in
theorem part_j2 (Av:Option Addr) (cv:Nat) (n d:Int) (w:World) (hr:Kd.C kli w Av 1 [[n]]) (hn:0≤n) :
    Calls Tryz.prog 188 #[.agg #[.int .i64 1,.int .u8 0,.slice Av 1 cv,.string ⟨#[]⟩,.int .u8 117,.string ⟨#[]⟩],.int .i64 0,.int .i64 2,.int .i64 d] w fun e w'=>e=.returned (.int .i64 d)∧Below w.heap.size w w':=by
  obtain ⟨ad,A0,c0,rfl,h1,h2⟩:=one_L hr
  have l1:=cell_lt h1
  have l2:=cell_lt h2
  have hd:decide (n < 0)=false:=decide_eq_false (by omega)
  clear hr
  go_enter Tryz.func188,Tryz.ntmps188
  go_wp2_with (first|((with_reducible refine gate_dst (N:=4) rfl ?_);refine box_event ?hg (N:=4) ?hd (cs:=#[.int .i64 1,.int .u8 0,.slice (some ad) 1 cv,.string ⟨#[]⟩,.int .u8 117,.string ⟨#[]⟩]) (t:=44) ?hr ?_;(case hd=>rfl);(case hg=>rfl);(case hr=>first|(go_simp;done)|(go_simp;rfl));intro g3 hg w1 hbox hb;obtain ⟨y0,y1,y2,y3,y4,y5⟩:=cells6 hbox;have HB1:=Aside0.mk hb;have x1:=(hb.cell l1).trans h1;have x2:=(hb.cell l2).trans h2;clear hbox hb hg))
  go_ret
  exact ⟨rfl,HB1.out⟩
set_option maxHeartbeats 4000000 in
theorem part_i (Av:Option Addr) (cv:Nat) (j d:Int) (w:World) :
    Calls Tryz.prog 188 #[.agg #[.int .i64 1,.int .u8 0,.slice Av 1 cv,.string ⟨#[]⟩,.int .u8 117,.string ⟨#[]⟩],.int .i64 1,.int .i64 j,.int .i64 d] w fun e w'=>e=.returned (.int .i64 d)∧Below w.heap.size w w':=by
  go_enter Tryz.func188,Tryz.ntmps188
  go_wp2_with (first|((with_reducible refine gate_dst (N:=4) rfl ?_);refine box_event ?hg (N:=4) ?hd (cs:=#[.int .i64 1,.int .u8 0,.slice Av 1 cv,.string ⟨#[]⟩,.int .u8 117,.string ⟨#[]⟩]) (t:=44) ?hr ?_;(case hd=>rfl);(case hg=>rfl);(case hr=>first|(go_simp;done)|(go_simp;rfl));intro g3 hg w1 hbox hb;obtain ⟨y0,y1,y2,y3,y4,y5⟩:=cells6 hbox;have HB1:=Aside0.mk hb;clear hbox hb hg))
  go_ret
  exact ⟨rfl,HB1.out⟩
theorem code_calls (Av:Option Addr) (cv:Nat) (n:Int) (w:World) (hr:Kd.C kli w Av 1 [[n]]) (hn:0≤n) :
    Calls Tryz.prog 189 #[.agg #[.int .i64 1,.int .u8 0,.slice Av 1 cv,.string ⟨#[]⟩,.int .u8 117,.string ⟨#[]⟩]] w fun e w'=>e=.returned (.int .i64 n)∧Below w.heap.size w w':=by
  have HC:=Aside0.mk hr
  have HN:=Aside0.mk hn
  clear hr hn
  have HB:=Aside0.mk (Below.refl w.heap.size w)
  go_enter Tryz.func189,Tryz.ntmps189
  go_wp2_with (first|((with_reducible refine gate_dst (N:=1) rfl ?_);refine box_event ?hg (N:=1) ?hd (cs:=#[.int .i64 1,.int .u8 0,.slice Av 1 cv,.string ⟨#[]⟩,.int .u8 117,.string ⟨#[]⟩]) (t:=44) ?hr ?_;(case hd=>rfl);(case hg=>rfl);(case hr=>first|(go_simp;done)|(go_simp;rfl));intro g1 hg w1 hbox hb;have HBo:=HB;replace HB:=Aside0.mk (below_step (HB.out) hb);have B1:=Aside0.mk hbox;have q1:=cells6 B1.out;have G1:=gG HBo hg;clear hbox hb hg HBo)|(go_at_call 188;refine (part_in Av cv n 1 _ (Kd.C_below HC.out HB.out) HN.out).mono ?_;rintro e w2 ⟨rfl,hb⟩;replace B1:=Aside0.mk (blk_below (B1.out) hb);clear q1;have q1:=cells6 B1.out;replace HB:=Aside0.mk (below_step (HB.out) hb);clear hb))
  go_ret
  exact ⟨rfl,HB.out⟩
theorem of_calls (w:World):Calls Tryz.prog 187 #[.int .i64 1] w fun e w'=>e=.returned (.tuple #[.int .i64 0,.bool true])∧Below w.heap.size w w':=by
  go_enter Tryz.func187,Tryz.ntmps187
  go_wp2
  go_ret2
  exact ⟨rfl,Below.refl _ _⟩
end Go.Proofs.YthjacokachgmfaaGreatDoor.H
end
section
namespace Go.Proofs.YthjacokachgmfaaGreatDoor.H
open Go Go.RowKit YthjacokachgmfaaGreatDoorW.PrintWords YthjacokachgmfaaGreatDoorW.PrintLast YthjacokachgmfaaGreatDoorW.PrintMore
open YthjacokachgmfaaGreatDoor.R
open Ev
set_option maxRecDepth 100000
set_option maxHeartbeats 4000000 in
theorem told1_calls (n:Int) (g:Nat) (fl:Int) (w:World) (hg:w.cell? ⟨g,0,none⟩=some (.int .i64 fl)) :
    Calls Tryz.prog 44 #[.int .i64 n,.pointer (some ⟨g,0,none⟩)] w fun e w'=>e=.returned (.bool (hasT fl n))∧Below w.heap.size w w':=by
  go_enter Tryz.func44,Tryz.ntmps44
  go_wp2
  go_ret
  exact ⟨by show _=Ending.returned (.bool (Go.bits .and .i64 (mx fl 0) n != 0))
            rw [show mx fl 0=max fl 0 by unfold mx;omega];rfl,Below.refl _ _⟩
def othT (fl fin:Int):Bool:=hasT fl 4&&(fin == 117)
def told3 (fl fin a1 a3:Int):Int:=if (!(othT fl fin)||(Go.bits .and .i64 (max a1 0) 1 == 0))=true then 0 else a3
def told4 (fl fin a0 a4:Int):Int:=if (!(othT fl fin)||(a4 == a0))=true then 0 else a4
def toldS (fl a2:Int) (s:ByteArray):ByteArray:=if (!(hasT fl 16)||(a2 == 3))=true then ⟨#[]⟩ else s
set_option maxHeartbeats 40000000 in
theorem told_calls (kF:Nat) (fl a0 a1 a2 a3 a4 n fin:Int) (s:ByteArray) (w:World) (hF:kitty_Form.f kF a0=some (n,fin)) :
    Calls Tryz.prog 14 #[.int .i64 fl,.agg #[.int .i64 a0,.int .i64 a1,.int .i64 a2,.int .i64 a3,.int .i64 a4,.string s]] w fun e w'=>e=.returned (.agg #[.int .i64 a0,.int .i64 a1,.int .i64 a2,.int .i64 (told3 fl fin a1 a3),.int .i64 (told4 fl fin a0 a4),.string (toldS fl a2 s)])∧Below w.heap.size w w':=by
  have HB:=Aside0.mk (Below.refl w.heap.size w)
  have HF:=Aside0.mk hF
  clear hF
  have eO:othT fl fin=(hasT fl 4&&(fin == 117)):=rfl
  clear eO
  rcases h4:hasT fl 4 with _ | _
  rotate_left
  rcases hf:(fin == 117) with _ | _
  rotate_left
  rcases hm:(Go.bits .and .i64 (max a1 0) 1 == 0) with _ | _
  rcases hb:(a4 == a0) with _ | _
  rotate_left 2
  rcases hb:(a4 == a0) with _ | _
  all_goals rcases h16:hasT fl 16 with _ | _
  all_goals rcases hr:(a2 == 3) with _ | _
  all_goals
    simp only [told3,told4,toldS,othT, *,Bool.false_and,Bool.and_false,Bool.true_and,Bool.and_true,Bool.not_true,Bool.not_false,Bool.true_or,Bool.or_true,Bool.false_or,Bool.or_false,if_true,if_false,reduceIte,Bool.false_eq_true]
    go_enter Tryz.func14,Tryz.ntmps14
    go_wp2_with (first|(refine bx 2 #[.int .i64 fl] 3 (h:=?_);intro g2 hg w1 hbox hb;have HBo:=HB;replace HB:=bh HB hb;have B2:=Aside0.mk hbox;have q2:=cells1 B2.out;have G2:=Aside0.mk (show w.heap.size≤g2 by rw [hg];exact below_size HBo.out);clear hbox hb hg HBo)|(refine bx 3 #[.int .i64 a0,.int .i64 a1,.int .i64 a2,.int .i64 a3,.int .i64 a4,.string s] 35 (h:=?_);intro g3 hg w2 hbox hb;have HBo:=HB;replace B2:=kb B2 hb;clear q2;have q2:=cells1 B2.out;replace HB:=bh HB hb;have B3:=Aside0.mk hbox;have q3:=cells6 B3.out;have G3:=Aside0.mk (show w.heap.size≤g3 by rw [hg];exact below_size HBo.out);clear hbox hb hg HBo)|(refine bx 4 #[.int .i64 0,.int .i64 0,.int .i64 0,.int .i64 0,.int .i64 0,.string ⟨#[]⟩] 35 (h:=?_);intro g4 hg w3 hbox hb;have HBo:=HB;have B3o:=blk_lt B3.out;replace B2:=kb B2 hb;clear q2;have q2:=cells1 B2.out;replace B3:=kb B3 hb;clear q3;have q3:=cells6 B3.out;replace HB:=bh HB hb;have B4:=Aside0.mk hbox;have q4:=cells6 B4.out;have NE4:=Aside0.mk (show g4≠g3 by omega);clear B3o;have G4:=Aside0.mk (show w.heap.size≤g4 by rw [hg];exact below_size HBo.out);clear hbox hb hg HBo)|(go_at_call 39;refine (kitty_Form.calls kF a0 n fin _ HF.out).mono ?_;rintro e w4 ⟨rfl,hb⟩;replace B2:=kb B2 hb;clear q2;have q2:=cells1 B2.out;replace B3:=kb B3 hb;clear q3;have q3:=cells6 B3.out;replace B4:=kb B4 hb;clear q4;have q4:=cells6 B4.out;replace HB:=bh HB hb;clear hb)|(go_at_call 44;refine (told1_calls _ g2 fl _ q2).mono ?_;rintro e w5 ⟨rfl,hb⟩;replace B2:=kb B2 hb;clear q2;have q2:=cells1 B2.out;replace B3:=kb B3 hb;clear q3;have q3:=cells6 B3.out;replace B4:=kb B4 hb;clear q4;have q4:=cells6 B4.out;replace HB:=bh HB hb;clear hb)|((with_reducible refine gate_store (t:=3) rfl ?_);refine sx 3 3 B3 (h:=?_);intro w6 BN hg;replace B2:=gk B2 hg (blk_ne B2.out B3.out (by decide));replace B4:=gk B4 hg NE4.out;replace HB:=gb HB hg G3;clear B3 q2 q3 q4 hg;have B3:=BN;clear BN;have q2:=cells1 B2.out;have q3:=cells6 B3.out;have q4:=cells6 B4.out)|((with_reducible refine gate_store (t:=3) rfl ?_);refine sx 3 4 B3 (h:=?_);intro w6 BN hg;replace B2:=gk B2 hg (blk_ne B2.out B3.out (by decide));replace B4:=gk B4 hg NE4.out;replace HB:=gb HB hg G3;clear B3 q2 q3 q4 hg;have B3:=BN;clear BN;have q2:=cells1 B2.out;have q3:=cells6 B3.out;have q4:=cells6 B4.out)|((with_reducible refine gate_store (t:=9) rfl ?_);refine sx 9 5 B3 (h:=?_);intro w6 BN hg;replace B2:=gk B2 hg (blk_ne B2.out B3.out (by decide));replace B4:=gk B4 hg NE4.out;replace HB:=gb HB hg G3;clear B3 q2 q3 q4 hg;have B3:=BN;clear BN;have q2:=cells1 B2.out;have q3:=cells6 B3.out;have q4:=cells6 B4.out)|((with_reducible refine gate_store (t:=35) rfl ?_);refine sx 35 0 B4 (h:=?_);intro w6 BN hg;replace B2:=gk B2 hg (blk_ne B2.out B4.out (by decide));replace B3:=gk B3 hg NE4.out.symm;replace HB:=gb HB hg G4;clear B4 q2 q3 q4 hg;have B4:=BN;clear BN;have q2:=cells1 B2.out;have q3:=cells6 B3.out;have q4:=cells6 B4.out))
    refine bodyPost_ret (results_cell_row rfl _ _ g4 35 _ (0,0) _ rfl B4.out Tryz.underlying35 rfl (by kernel_rfl)) rfl ?_
    exact ⟨rfl,HB.out⟩
end Go.Proofs.YthjacokachgmfaaGreatDoor.H
end
