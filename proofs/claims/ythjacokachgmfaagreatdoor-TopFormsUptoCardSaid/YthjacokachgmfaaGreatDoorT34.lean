import Derived.LoopN
import Derived.Test.YthjacokachgmfaaGreatDoorT04
import Derived.Test.YthjacokachgmfaaGreatDoorT05
import Derived.Test.YthjacokachgmfaaGreatDoorT30
import Derived.Test.YthjacokachgmfaaGreatDoorT32
import Derived.Test.YthjacokachgmfaaGreatDoorT33
set_option linter.unusedVariables false
set_option linter.unusedSimpArgs false
section
namespace Go.Proofs.YthjacokachgmfaaGreatDoor.H
open Go Go.RowKit YthjacokachgmfaaGreatDoorW.PrintWords YthjacokachgmfaaGreatDoorW.PrintLast YthjacokachgmfaaGreatDoorW.PrintMore
open Ev
set_option maxRecDepth 100000
set_option maxHeartbeats 8000000 in
theorem one_p (A:Option Addr) (n c:Nat) (s:ByteArray) (k:Int) (w:World) (h0:∀ W,Below w.heap.size w W→Calls Tryz.prog 125 #[.slice A n c] W fun e w'=>e=.returned (.tuple #[.agg #[.int .i64 4,.int .i64 0,.int .i64 0,.int .i64 0,.int .i64 0,.int .i64 0,.string ⟨#[]⟩,.int .i64 0,.int .i64 0,.int .i64 0,.int .i64 0,.int .i64 0,.bool false,.string s,.int .i64 0,.int .u8 0,.slice none 0 0,.string ⟨#[]⟩,.int .u8 0,.string ⟨#[]⟩],.int .i64 k,.bool true])∧Below W.heap.size W w') :
    Calls Tryz.prog 83 #[.slice A n c] w fun e w'=>e=.returned (.tuple #[.agg #[.int .i64 4,.int .i64 0,.int .i64 0,.int .i64 0,.int .i64 0,.int .i64 0,.string ⟨#[]⟩,.int .i64 0,.int .i64 0,.int .i64 0,.int .i64 0,.int .i64 0,.bool false,.string s,.int .i64 0,.int .u8 0,.slice none 0 0,.string ⟨#[]⟩,.int .u8 0,.string ⟨#[]⟩],.int .i64 k,.bool true])∧Below w.heap.size w w':=by
  have H0:=Aside0.mk h0;clear h0
  have HB:=Aside0.mk (Below.refl w.heap.size w)
  go_enter Tryz.func83,Tryz.ntmps83
  have ix0:∀ W:World,(Instr.index 195 (.agg #[.func (.func 125) #[] #[],.func (.func 126) #[] #[],.func (.func 127) #[] #[],.func (.func 128) #[] #[],.func (.func 129) #[] #[]]) (.int .i64 0)).run Tryz.prog W=.ok (.func (.func 125) #[] #[]) W:=fun _=>by kernel_rfl
  have ew0:wrap64 (0+1)=1:=by kernel_rfl
  go_wp2_with (first|(refine bx 2 #[.int .i64 0,.int .i64 0,.int .i64 0,.int .i64 0,.int .i64 0,.int .i64 0,.string ⟨#[]⟩,.int .i64 0,.int .i64 0,.int .i64 0,.int .i64 0,.int .i64 0,.bool false,.string ⟨#[]⟩,.int .i64 0,.int .u8 0,.slice none 0 0,.string ⟨#[]⟩,.int .u8 0,.string ⟨#[]⟩] 58 (h:=?_);intro g2 hg w1 hbox hb;have HBo:=HB;replace HB:=bh HB hb;have B2:=Aside0.mk hbox;have q2:=cells20 B2.out;have G2:=gG HBo hg;clear hbox hb hg HBo))
  refine wp_loop_rounds 1 ?_
  rw [rounds_succ]
  go_wp2_with (first|(go_at_call 125;refine (H0.out _ HB.out).mono ?_;rintro e wa0 ⟨rfl,hb⟩;replace B2:=kb B2 hb;clear q2;have q2:=cells20 B2.out;replace HB:=bh HB hb;clear hb)|(refine bx 7 #[.int .i64 0,.int .i64 0,.int .i64 0,.int .i64 0,.int .i64 0,.int .i64 0,.string ⟨#[]⟩,.int .i64 0,.int .i64 0,.int .i64 0,.int .i64 0,.int .i64 0,.bool false,.string ⟨#[]⟩,.int .i64 0,.int .u8 0,.slice none 0 0,.string ⟨#[]⟩,.int .u8 0,.string ⟨#[]⟩] 58 (h:=?_);intro gr0 hg wb0 hbox hb;have HBo:=HB;have L2_:=blk_lt B2.out;replace B2:=kb B2 hb;clear q2;have q2:=cells20 B2.out;replace HB:=bh HB hb;have Br0:=Aside0.mk hbox;have qr0:=cells20 Br0.out;have Gr0:=gG HBo hg;have NEr0_2:=Aside0.mk (show gr0≠g2 by omega);have NE2_r0:=Aside0.mk (Ne.symm NEr0_2.out);clear L2_;clear hbox hb hg HBo)|((with_reducible refine gate_store (t:=58) rfl ?_);refine sx 58 0 Br0 (h:=?_);intro wc0 hS hg;replace B2:=gk B2 hg NE2_r0.out;clear q2;have q2:=cells20 B2.out;replace HB:=gb HB hg Gr0;clear Br0 qr0 hg;have Br0:=hS;clear hS;have qr0:=cells20 Br0.out)|((with_reducible refine gate_dst (N:=22) rfl ?_);refine load_ev rfl 58 _ rfl gr0 0 rfl Br0.out [.int .i64 4,.int .i64 0,.int .i64 0,.int .i64 0,.int .i64 0,.int .i64 0,.string ⟨#[]⟩,.int .i64 0,.int .i64 0,.int .i64 0,.int .i64 0,.int .i64 0,.bool false,.string s,.int .i64 0,.int .u8 0,.slice none 0 0,.string ⟨#[]⟩,.int .u8 0,.string ⟨#[]⟩] rfl _ Tryz.underlying58 rfl (by kernel_rfl) ?_)|((with_reducible refine gate_store (t:=58) rfl ?_);refine sx 58 0 B2 (h:=?_);intro wd hS hg;replace Br0:=gk Br0 hg NEr0_2.out;clear qr0;have qr0:=cells20 Br0.out;replace HB:=gb HB hg G2;clear B2 q2 hg;have B2:=hS;clear hS;have q2:=cells20 B2.out))
  refine bodyPost_ret (results_ctt rfl _ _ g2 58 _ (0,0) _ rfl B2.out Tryz.underlying58 rfl (by kernel_rfl)) rfl ?_
  exact ⟨rfl,HB.out⟩
set_option maxHeartbeats 8000000 in
theorem one_k (A:Option Addr) (n c:Nat) (k0 k1 k2 k3:Int) (w:World) (h0:∀ W,Below w.heap.size w W→Calls Tryz.prog 125 #[.slice A n c] W fun e w'=>e=.returned (.tuple #[.agg #[.int .i64 4,.int .i64 0,.int .i64 0,.int .i64 0,.int .i64 0,.int .i64 0,.string ⟨#[]⟩,.int .i64 0,.int .i64 0,.int .i64 0,.int .i64 0,.int .i64 0,.bool false,.string ⟨#[]⟩,.int .i64 0,.int .u8 0,.slice none 0 0,.string ⟨#[]⟩,.int .u8 0,.string ⟨#[]⟩],.int .i64 k0,.bool false])∧Below W.heap.size W w') (h1:∀ W,Below w.heap.size w W→Calls Tryz.prog 126 #[.slice A n c] W fun e w'=>e=.returned (.tuple #[.agg #[.int .i64 3,.int .i64 0,.int .i64 0,.int .i64 0,.int .i64 0,.int .i64 0,.string ⟨#[]⟩,.int .i64 0,.int .i64 0,.int .i64 0,.int .i64 0,.int .i64 0,.bool false,.string ⟨#[]⟩,.int .i64 0,.int .u8 0,.slice none 0 0,.string ⟨#[]⟩,.int .u8 0,.string ⟨#[]⟩],.int .i64 k1,.bool false])∧Below W.heap.size W w') (h2:∀ W,Below w.heap.size w W→Calls Tryz.prog 127 #[.slice A n c] W fun e w'=>e=.returned (.tuple #[.agg #[.int .i64 2,.int .i64 0,.int .i64 0,.int .i64 0,.int .i64 0,.int .i64 0,.string ⟨#[]⟩,.int .i64 0,.int .i64 0,.int .i64 0,.int .i64 0,.int .i64 0,.bool false,.string ⟨#[]⟩,.int .i64 0,.int .u8 0,.slice none 0 0,.string ⟨#[]⟩,.int .u8 0,.string ⟨#[]⟩],.int .i64 k2,.bool false])∧Below W.heap.size W w') (h3:∀ W,Below w.heap.size w W→Calls Tryz.prog 128 #[.slice A n c] W fun e w'=>e=.returned (.tuple #[.agg #[.int .i64 1,.int .i64 97,.int .i64 0,.int .i64 1,.int .i64 0,.int .i64 0,.string ⟨#[]⟩,.int .i64 0,.int .i64 0,.int .i64 0,.int .i64 0,.int .i64 0,.bool false,.string ⟨#[]⟩,.int .i64 0,.int .u8 0,.slice none 0 0,.string ⟨#[]⟩,.int .u8 0,.string ⟨#[]⟩],.int .i64 k3,.bool true])∧Below W.heap.size W w') :
    Calls Tryz.prog 83 #[.slice A n c] w fun e w'=>e=.returned (.tuple #[.agg #[.int .i64 1,.int .i64 97,.int .i64 0,.int .i64 1,.int .i64 0,.int .i64 0,.string ⟨#[]⟩,.int .i64 0,.int .i64 0,.int .i64 0,.int .i64 0,.int .i64 0,.bool false,.string ⟨#[]⟩,.int .i64 0,.int .u8 0,.slice none 0 0,.string ⟨#[]⟩,.int .u8 0,.string ⟨#[]⟩],.int .i64 k3,.bool true])∧Below w.heap.size w w':=by
  have H0:=Aside0.mk h0;clear h0
  have H1:=Aside0.mk h1;clear h1
  have H2:=Aside0.mk h2;clear h2
  have H3:=Aside0.mk h3;clear h3
  have HB:=Aside0.mk (Below.refl w.heap.size w)
  go_enter Tryz.func83,Tryz.ntmps83
  have ix0:∀ W:World,(Instr.index 195 (.agg #[.func (.func 125) #[] #[],.func (.func 126) #[] #[],.func (.func 127) #[] #[],.func (.func 128) #[] #[],.func (.func 129) #[] #[]]) (.int .i64 0)).run Tryz.prog W=.ok (.func (.func 125) #[] #[]) W:=fun _=>by kernel_rfl
  have ew0:wrap64 (0+1)=1:=by kernel_rfl
  have ix1:∀ W:World,(Instr.index 195 (.agg #[.func (.func 125) #[] #[],.func (.func 126) #[] #[],.func (.func 127) #[] #[],.func (.func 128) #[] #[],.func (.func 129) #[] #[]]) (.int .i64 1)).run Tryz.prog W=.ok (.func (.func 126) #[] #[]) W:=fun _=>by kernel_rfl
  have ew1:wrap64 (1+1)=2:=by kernel_rfl
  have ix2:∀ W:World,(Instr.index 195 (.agg #[.func (.func 125) #[] #[],.func (.func 126) #[] #[],.func (.func 127) #[] #[],.func (.func 128) #[] #[],.func (.func 129) #[] #[]]) (.int .i64 2)).run Tryz.prog W=.ok (.func (.func 127) #[] #[]) W:=fun _=>by kernel_rfl
  have ew2:wrap64 (2+1)=3:=by kernel_rfl
  have ix3:∀ W:World,(Instr.index 195 (.agg #[.func (.func 125) #[] #[],.func (.func 126) #[] #[],.func (.func 127) #[] #[],.func (.func 128) #[] #[],.func (.func 129) #[] #[]]) (.int .i64 3)).run Tryz.prog W=.ok (.func (.func 128) #[] #[]) W:=fun _=>by kernel_rfl
  have ew3:wrap64 (3+1)=4:=by kernel_rfl
  go_wp2_with (first|(refine bx 2 #[.int .i64 0,.int .i64 0,.int .i64 0,.int .i64 0,.int .i64 0,.int .i64 0,.string ⟨#[]⟩,.int .i64 0,.int .i64 0,.int .i64 0,.int .i64 0,.int .i64 0,.bool false,.string ⟨#[]⟩,.int .i64 0,.int .u8 0,.slice none 0 0,.string ⟨#[]⟩,.int .u8 0,.string ⟨#[]⟩] 58 (h:=?_);intro g2 hg w1 hbox hb;have HBo:=HB;replace HB:=bh HB hb;have B2:=Aside0.mk hbox;have q2:=cells20 B2.out;have G2:=gG HBo hg;clear hbox hb hg HBo))
  refine wp_loop_rounds 4 ?_
  rw [rounds_succ]
  go_wp2_with (first|(go_at_call 125;refine (H0.out _ HB.out).mono ?_;rintro e wa0 ⟨rfl,hb⟩;replace B2:=kb B2 hb;clear q2;have q2:=cells20 B2.out;replace HB:=bh HB hb;clear hb)|(refine bx 7 #[.int .i64 0,.int .i64 0,.int .i64 0,.int .i64 0,.int .i64 0,.int .i64 0,.string ⟨#[]⟩,.int .i64 0,.int .i64 0,.int .i64 0,.int .i64 0,.int .i64 0,.bool false,.string ⟨#[]⟩,.int .i64 0,.int .u8 0,.slice none 0 0,.string ⟨#[]⟩,.int .u8 0,.string ⟨#[]⟩] 58 (h:=?_);intro gr0 hg wb0 hbox hb;have HBo:=HB;have L2_:=blk_lt B2.out;replace B2:=kb B2 hb;clear q2;have q2:=cells20 B2.out;replace HB:=bh HB hb;have Br0:=Aside0.mk hbox;have qr0:=cells20 Br0.out;have Gr0:=gG HBo hg;have NEr0_2:=Aside0.mk (show gr0≠g2 by omega);have NE2_r0:=Aside0.mk (Ne.symm NEr0_2.out);clear L2_;clear hbox hb hg HBo)|((with_reducible refine gate_store (t:=58) rfl ?_);refine sx 58 0 Br0 (h:=?_);intro wc0 hS hg;replace B2:=gk B2 hg NE2_r0.out;clear q2;have q2:=cells20 B2.out;replace HB:=gb HB hg Gr0;clear Br0 qr0 hg;have Br0:=hS;clear hS;have qr0:=cells20 Br0.out))
  clear Br0 qr0 NEr0_2 NE2_r0
  rw [rounds_succ]
  go_wp2_with (first|(go_at_call 126;refine (H1.out _ HB.out).mono ?_;rintro e wa1 ⟨rfl,hb⟩;replace B2:=kb B2 hb;clear q2;have q2:=cells20 B2.out;replace HB:=bh HB hb;clear hb)|(refine bx 7 #[.int .i64 0,.int .i64 0,.int .i64 0,.int .i64 0,.int .i64 0,.int .i64 0,.string ⟨#[]⟩,.int .i64 0,.int .i64 0,.int .i64 0,.int .i64 0,.int .i64 0,.bool false,.string ⟨#[]⟩,.int .i64 0,.int .u8 0,.slice none 0 0,.string ⟨#[]⟩,.int .u8 0,.string ⟨#[]⟩] 58 (h:=?_);intro gr1 hg wb1 hbox hb;have HBo:=HB;have L2_:=blk_lt B2.out;replace B2:=kb B2 hb;clear q2;have q2:=cells20 B2.out;replace HB:=bh HB hb;have Br1:=Aside0.mk hbox;have qr1:=cells20 Br1.out;have Gr1:=gG HBo hg;have NEr1_2:=Aside0.mk (show gr1≠g2 by omega);have NE2_r1:=Aside0.mk (Ne.symm NEr1_2.out);clear L2_;clear hbox hb hg HBo)|((with_reducible refine gate_store (t:=58) rfl ?_);refine sx 58 0 Br1 (h:=?_);intro wc1 hS hg;replace B2:=gk B2 hg NE2_r1.out;clear q2;have q2:=cells20 B2.out;replace HB:=gb HB hg Gr1;clear Br1 qr1 hg;have Br1:=hS;clear hS;have qr1:=cells20 Br1.out))
  clear Br1 qr1 NEr1_2 NE2_r1
  rw [rounds_succ]
  go_wp2_with (first|(go_at_call 127;refine (H2.out _ HB.out).mono ?_;rintro e wa2 ⟨rfl,hb⟩;replace B2:=kb B2 hb;clear q2;have q2:=cells20 B2.out;replace HB:=bh HB hb;clear hb)|(refine bx 7 #[.int .i64 0,.int .i64 0,.int .i64 0,.int .i64 0,.int .i64 0,.int .i64 0,.string ⟨#[]⟩,.int .i64 0,.int .i64 0,.int .i64 0,.int .i64 0,.int .i64 0,.bool false,.string ⟨#[]⟩,.int .i64 0,.int .u8 0,.slice none 0 0,.string ⟨#[]⟩,.int .u8 0,.string ⟨#[]⟩] 58 (h:=?_);intro gr2 hg wb2 hbox hb;have HBo:=HB;have L2_:=blk_lt B2.out;replace B2:=kb B2 hb;clear q2;have q2:=cells20 B2.out;replace HB:=bh HB hb;have Br2:=Aside0.mk hbox;have qr2:=cells20 Br2.out;have Gr2:=gG HBo hg;have NEr2_2:=Aside0.mk (show gr2≠g2 by omega);have NE2_r2:=Aside0.mk (Ne.symm NEr2_2.out);clear L2_;clear hbox hb hg HBo)|((with_reducible refine gate_store (t:=58) rfl ?_);refine sx 58 0 Br2 (h:=?_);intro wc2 hS hg;replace B2:=gk B2 hg NE2_r2.out;clear q2;have q2:=cells20 B2.out;replace HB:=gb HB hg Gr2;clear Br2 qr2 hg;have Br2:=hS;clear hS;have qr2:=cells20 Br2.out))
  clear Br2 qr2 NEr2_2 NE2_r2
  rw [rounds_succ]
  go_wp2_with (first|(go_at_call 128;refine (H3.out _ HB.out).mono ?_;rintro e wa3 ⟨rfl,hb⟩;replace B2:=kb B2 hb;clear q2;have q2:=cells20 B2.out;replace HB:=bh HB hb;clear hb)|(refine bx 7 #[.int .i64 0,.int .i64 0,.int .i64 0,.int .i64 0,.int .i64 0,.int .i64 0,.string ⟨#[]⟩,.int .i64 0,.int .i64 0,.int .i64 0,.int .i64 0,.int .i64 0,.bool false,.string ⟨#[]⟩,.int .i64 0,.int .u8 0,.slice none 0 0,.string ⟨#[]⟩,.int .u8 0,.string ⟨#[]⟩] 58 (h:=?_);intro gr3 hg wb3 hbox hb;have HBo:=HB;have L2_:=blk_lt B2.out;replace B2:=kb B2 hb;clear q2;have q2:=cells20 B2.out;replace HB:=bh HB hb;have Br3:=Aside0.mk hbox;have qr3:=cells20 Br3.out;have Gr3:=gG HBo hg;have NEr3_2:=Aside0.mk (show gr3≠g2 by omega);have NE2_r3:=Aside0.mk (Ne.symm NEr3_2.out);clear L2_;clear hbox hb hg HBo)|((with_reducible refine gate_store (t:=58) rfl ?_);refine sx 58 0 Br3 (h:=?_);intro wc3 hS hg;replace B2:=gk B2 hg NE2_r3.out;clear q2;have q2:=cells20 B2.out;replace HB:=gb HB hg Gr3;clear Br3 qr3 hg;have Br3:=hS;clear hS;have qr3:=cells20 Br3.out)|((with_reducible refine gate_dst (N:=22) rfl ?_);refine load_ev rfl 58 _ rfl gr3 0 rfl Br3.out [.int .i64 1,.int .i64 97,.int .i64 0,.int .i64 1,.int .i64 0,.int .i64 0,.string ⟨#[]⟩,.int .i64 0,.int .i64 0,.int .i64 0,.int .i64 0,.int .i64 0,.bool false,.string ⟨#[]⟩,.int .i64 0,.int .u8 0,.slice none 0 0,.string ⟨#[]⟩,.int .u8 0,.string ⟨#[]⟩] rfl _ Tryz.underlying58 rfl (by kernel_rfl) ?_)|((with_reducible refine gate_store (t:=58) rfl ?_);refine sx 58 0 B2 (h:=?_);intro wd hS hg;replace Br3:=gk Br3 hg NEr3_2.out;clear qr3;have qr3:=cells20 Br3.out;replace HB:=gb HB hg G2;clear B2 q2 hg;have B2:=hS;clear hS;have q2:=cells20 B2.out))
  refine bodyPost_ret (results_ctt rfl _ _ g2 58 _ (0,0) _ rfl B2.out Tryz.underlying58 rfl (by kernel_rfl)) rfl ?_
  exact ⟨rfl,HB.out⟩
end Go.Proofs.YthjacokachgmfaaGreatDoor.H
end
section
namespace Go.Proofs.YthjacokachgmfaaGreatDoor.H
open Go Go.RowKit Go.Shelf YthjacokachgmfaaGreatDoorW.PrintWords YthjacokachgmfaaGreatDoorW.PrintLast YthjacokachgmfaaGreatDoorW.PrintMore
open Ev
set_option maxRecDepth 100000
attribute [local go_sem] Oper.semAt_some
abbrev PL:List Int:=[27,91,50,48,48,126,91,50,48,49,126,98,27,91,50,48,49,126]
abbrev PR:List Int:=[91,50,48,49,126,98,27,91,50,48,49,126]
theorem seenPR:∀ z∈PR,seen z:=by
  intro z hz
  unfold seen
  simp only [List.mem_cons,List.not_mem_nil,or_false] at hz
  omega
abbrev TLp:List Int:=[27,91,50,48,49,126]
theorem lt_def {W:World} {k:Nat} {d:Option (List Deferred)} (h:W.heap[k]?=some (.deferred d)):k < W.heap.size:=(Array.getElem?_eq_some_iff.1 h).1
def PtI (w:World) (N g7:Nat) (k:Nat) (W:World):Prop:=k≤6∧W.heap[g7]?=some (.cells #[.int .i64 (k:Int)] 3 (0,0))∧Below w.heap.size w W∧N≤W.heap.size
theorem PtI_stb (w:World) (D N b g7 k:Nat) (hD:w.heap.size≤D) (hb:w.heap.size≤b) (hne:g7≠b):Stb D b (PtI w N g7 k) :=
  (Stb.pure _).and ((Stb.blk g7 _ _ hne).and ((Stb.below w hD hb).and (Stb.size1 N)))
set_option maxHeartbeats 8000000 in
theorem ptake_t (A:Option Addr) (c:Nat) (w:World) (hpw:Pow w) (hC:Kd.C (Kd.int .u8) w A 18 PL) (hlc:18≤c) :
    Calls Tryz.prog 184 #[.slice A 18 c] w fun e w'=>∃ v,e=.returned (.tuple #[v,.int .i64 18,.bool true])∧Kd.R (Kd.int .u8) 5 w' w.heap.size (fun _=>True) v [91,50,48,49,126,98]∧Below w.heap.size w w':=by
  have HPW:=Aside0.mk hpw
  have HC:=Aside0.mk (show Kd.C (Kd.int .u8) w A PL.length PL from hC)
  have HLC:=Aside0.mk (show PL.length≤c from hlc)
  obtain ⟨A',c',hcut,hCr,_,hcr⟩:=cutFrom_row HC.out HLC.out 6 (by decide)
  have hcutP:∀ W:World,(Instr.slice 22 (.slice A PL.length c) (some (.int .i64 ((nat8 mk200).length:Int))) none none).run Tryz.prog W=.ok (.slice A' 12 c') W:=hcut
  have HCR:=Aside0.mk (show Kd.C (Kd.int .u8) w A' PR.length PR from hCr)
  have HLR:=Aside0.mk (show PR.length≤c' from hcr)
  have HM0:=Aside0.mk (fun W hW=>by have h:=mark_R 200 W (by kernel_rfl) hW;rw [csi200] at h;exact h)
  have HM1:=Aside0.mk (fun W hW=>by have h:=mark_R 201 W (by kernel_rfl) hW;rw [csi201] at h;exact h)
  have HB:=Aside0.mk (Below.refl w.heap.size w)
  clear hpw hC hlc hcut hCr hcr
  refine (callsIn_wide (n:=6)).1 ?_
  refine callsIn_of_wp_marks Tryz.func184 rfl trivial ?_ rfl
  simp only [Tryz.ntmps184,List.size_toArray,List.length_cons,List.length_nil,Nat.reduceAdd,Nat.reduceSub,Array.replicate_succ,Array.replicate_zero,List.push_toArray,List.append_toArray,List.nil_append,List.cons_append]
  refine wpIn_wide.2 ?_
  go_wp2_with (first|(go_at_call 107;refine (HM0.out _ (HPW.out.below HB.out)).mono ?_;rintro e w1 ⟨v,rfl,hv,hb⟩;obtain ⟨A1,c1,rfl,_,hC1⟩:=Kd.R_reads hv;have HC1:=Aside0.mk hC1;replace HB:=bh HB hb;clear hv hb hC1)|(go_at_call 238;refine (cutPrefix_t A A1 A' c c1 12 c' PL (nat8 mk200) _ (Kd.C_below HC.out HB.out) HC1.out HLC.out (by kernel_rfl) hcutP).mono ?_;rintro e w2 ⟨rfl,hb⟩;replace HB:=bh HB hb;clear hb)|(refine bx 7 #[.int .i64 0] 3 (h:=?_);intro g7 hg w3 hbox hb;have HBo:=HB;replace HB:=bh HB hb;have B7:=Aside0.mk hbox;have q7_0:=cells1 B7.out;have G7:=gG HBo hg;clear hbox hb hg HBo)|((with_reducible refine gate_store (t:=3) rfl ?_);refine sx 3 0 B7 (h:=?_);intro w3_ hS hg;replace HB:=gb HB hg G7;clear B7 q7_0 hg;have B7:=hS;clear hS;have q7_0:=cells1 B7.out)|(go_at_call 144;refine (ppoints_calls A' 12 c' _).mono ?_;rintro e w4 ⟨gq,rfl,kq,nq,hb⟩;have B7o:=B7;have HBp:=HB;replace B7:=kb B7 hb;clear q7_0;have q7_0:=cells1 B7.out;replace HB:=bh HB hb;clear hb;have KQ:=Aside0.mk kq;have NQ:=Aside0.mk (show g7 < gq from Nat.lt_of_lt_of_le (blk_lt B7o.out) nq);have NQ0:=Aside0.mk (Nat.le_trans HBp.out.size nq);clear kq nq))
  have hltq:=blk_lt KQ.out
  have HBw4:=Aside0.mk HB.out.size
  have NE7:g7≠gq:=fun e=>by have:=NQ.out;omega
  refine (wpIn_wide (n:=6)).1 ?_
  refine range_cellX 0 (F:=Fence.wide) (n:=6) (w:=w4) (b:=gq) (n₀:=w.heap.size) hltq HB.out.size rfl (by decide) (gf:=196) (lb:=#[.pointer (some ⟨gq,0,none⟩)]) rfl trivial (enters_of Tryz.func196 (by kernel_rfl) rfl) (encs:=encV) (all:=ppts A' c' PR)
    (fun W hW=>ppoints_seq w 5 (by decide) gq A' c' PR HCR.out HLR.out seenPR NQ0.out W (below_step HB.out hW) (blk_below KQ.out hW)) (fun _=>rfl)
    (fun pre W=>PtI w w4.heap.size g7 pre.length W) (fun pre W=>PtI w w4.heap.size g7 6 W) (fun s A B row x hw hr=>(PtI_stb w _ _ _ _ _ HB.out.size NQ0.out NE7).own A B row x hw hr) (fun s A B row x hw hr=>(PtI_stb w _ _ _ _ _ HB.out.size NQ0.out NE7).own A B row x hw hr)
    (fun s W v x=>(PtI_stb w w4.heap.size _ _ _ _ HB.out.size NQ0.out NE7).bears W v x) (fun s W v x=>(PtI_stb w w4.heap.size _ _ _ _ HB.out.size NQ0.out NE7).bears W v x) ⟨by decide,B7.out,HB.out,Nat.le_refl _⟩
    (fun x=>{ tmps:=#[.slice A 18 c,undef,.slice none 0 0,.int .i64 0,.bool false,.slice A' 12 c',.bool true,.pointer (some ⟨g7,0,none⟩),x.1,.bool x.2,.tuple #[.slice A' 12 c',.bool true],.slice A 18 c,.slice A1 (nat8 mk200).length c1,.tuple #[.slice A' 12 c',.bool true],.slice A' 12 c',.bool true,.bool true,.bool false,.slice A' 12 c',.func (.func 196) #[] #[.pointer (some ⟨gq,0,none⟩)],x.1,.bool x.2,undef,undef,undef,undef,undef,undef,undef,undef,undef,undef,undef,undef,undef,undef,undef,undef,undef,undef,undef,undef,undef,undef,undef,undef,undef,undef],defers:=[] }) ?assign ?body ?done ?stop
  case assign =>
    intro l x W K hK
    gi_wp2
    exact hK
  case body =>
    intro l pre x W hI hp
    obtain ⟨h6,hv,hB,hsz⟩:=hI
    have hx:(ppts A' c' PR)[pre.length]?=some x:=by
      obtain ⟨t,ht⟩:=hp
      rw [← ht]
      simp
    obtain ⟨A2,c2,y,hx1,hy,hx2,hCy,hc2⟩:=ppts_at HCR.out HLR.out hx
    obtain ⟨xv,xb⟩:=x
    dsimp only at hx1 hx2
    subst hx1
    have hgW:gq < W.heap.size:=Nat.lt_of_lt_of_le hltq hsz
    have hlen:(pre++[(Value.slice A2 1 c2,xb)]).length=pre.length+1:=by simp
    have hyk:(decide (32≤y)=true∧pre.length < 6)∨(decide (32≤y)=false∧pre.length=6):=by
      generalize pre.length=k at h6 hy
      have:k=0∨k=1∨k=2∨k=3∨k=4∨k=5∨k=6:=by omega
      rcases this with rfl | rfl | rfl | rfl | rfl | rfl | rfl<;>(simp at hy;subst hy;simp)
    rcases hyk with ⟨hyb,hk⟩ | ⟨hyb,hk⟩
    · rw [hyb] at hx2
      subst hx2
      have q0:=cells1 hv
      have f0:=blk_frozen hv 0
      have hlt0:=blk_lt hv
      have e1:wrap64 ((pre.length:Int)+1)=((pre.length+1:Nat):Int):=by rw [IntWalk.wrap64_in _ (by omega)];omega
      have E1:=Aside0.mk e1
      have HV:=Aside0.mk hv
      clear e1 hx hCy hy hp
      gi_wp2
      have hne:g7≠gq:=NE7
      refine ⟨(KeepsOthers.setCell _ _ _).from _,keeps_set (keeps_below (Below.refl _ _) hB.size hgW) G7.out (Ne.symm hne),?_⟩
      show PtI w w4.heap.size g7 (pre++[(Value.slice A2 1 c2,true)]).length _
      rw [hlen]
      refine ⟨by omega,?_,below_set hB G7.out,by simpa [World.setCell] using hsz⟩
      first | exact blk_put HV.out 0 _ rfl|(rw [← E1.out];exact blk_put HV.out 0 _ rfl)
    · rw [hyb] at hx2
      subst hx2
      clear hx hCy hy hp
      gi_wp2
      exact ⟨rfl,keepsFrom_below (Below.refl _ _),by rw [← hk];exact ⟨h6,hv,hB,hsz⟩⟩
  case done =>
    intro D W hD hI hDW
    have h6:=hI.1
    rw [ppts_len] at h6
    exact absurd h6 (by decide)
  case stop =>
    intro D pre W hD hp hI hDW
    obtain ⟨ad,hA',_⟩:=HCR.out.2.2 (by decide)
    obtain ⟨At,ct,hcF,hCF,_,hctl⟩:=cutFrom_row HCR.out HLR.out 6 (by decide)
    obtain ⟨hcT,hCT,_⟩:=cutTo_row HCR.out HLR.out 6 (by decide)
    subst hA'
    have hcF:∀ W:World,(Instr.slice 22 (.slice (some ad) 12 c') (some (.int .i64 6)) none none).run Tryz.prog W=.ok (.slice At 6 ct) W:=hcF
    have hcT:∀ W:World,(Instr.slice 22 (.slice (some ad) 12 c') none (some (.int .i64 6)) none).run Tryz.prog W=.ok (.slice (some ad) 6 c') W:=hcT
    have HPX:=Aside0.mk (fun (W0:World) (A3:Option Addr) (c3:Nat) (hw0:Below w.heap.size w W0) (h3:Kd.C (Kd.int .u8) W0 A3 6 TLp)=>show Calls Tryz.prog 28 #[.slice At 6 ct,.slice A3 6 c3] W0 fun e w'=>e=.returned (.bool true)∧Below W0.heap.size W0 w' from (by
      have h:=hasPrefix_calls At A3 ct c3 TLp TLp W0 (Kd.C_below hCF hw0) h3 hctl
      rw [show pfxB TLp TLp=true from by kernel_rfl] at h
      exact h))
    have HCT:=Aside0.mk (show Kd.C (Kd.int .u8) w (some ad) 6 [91,50,48,49,126,98] from hCT)
    have Gs:=G7
    have HDW:=Aside0.mk hDW
    have HW:=Aside0.mk (Below.refl W.heap.size W)
    have HBs:=Aside0.mk hI.2.2.1
    have B7s:=Aside0.mk (show W.heap[g7]?=some (.cells #[.int .i64 6] 3 (0,0)) from hI.2.1)
    clear B7 HB q7_0 hCF hCT hctl hI hDW
    have B7:=B7s
    have HB:=HBs
    clear B7s HBs
    have q7_0:=cells1 B7.out
    refine wpIn_exit ?_
    go_wp2
    refine wp_region_noPanic ?_
    refine st 6 (fun w'=>w'.cell? ⟨g7,0,none⟩=some (.int .i64 6)) [] (hS:=(q7_0)) (h:=fun hHeld=>?_)
    refine pu 0 (h:=?_)
    refine tk 1 hHeld (h:=?_)
    refine pu 2 (h:=?_)
    refine oS 3 (h:=fun K hK=>?_)
    refine goes_ Tryz.func107 (by kernel_rfl) rfl #[.int .i64 201] (by rfl) rfl rfl (by simp only [List.map_toArray,List.map_cons,List.map_nil];rfl) ?_
    with_reducible refine (HM1.out _ (HPW.out.below (by first | exact HB.out | exact below_drew1 HB.out))).mono ?_
    rintro e w5 ⟨vA3,rfl,hv,hb⟩
    obtain ⟨A3,c3,hv4,_,hC4⟩:=Kd.R_reads hv
    rw [show nat8 mk201=TLp from by decide] at hv4 hC4
    have hv5:vA3=.slice A3 6 c3:=hv4
    subst hv5
    refine ⟨_,rfl,?_⟩
    replace B7:=kb B7 hb
    clear q7_0
    have q7_0:=cells1 B7.out
    replace HB:=bh HB hb
    replace HW:=bh HW hb
    have HC3:=Aside0.mk (show Kd.C (Kd.int .u8) _ A3 6 TLp from hC4)
    clear hb hv hv4 hC4
    refine hK.out _ _ (q7_0) (fun hHeld=>?_)
    clear hK K
    refine nm 31 (h:=?_)
    refine oS 4 (h:=fun K hK=>?_)
    refine gc Tryz.func28 (HPX.out _ A3 c3 HB.out HC3.out) (h:=?_)
    rintro e w6 ⟨rfl,hb⟩
    refine ⟨_,rfl,?_⟩
    replace B7:=kb B7 hb
    clear q7_0
    have q7_0:=cells1 B7.out
    replace HB:=bh HB hb
    replace HW:=bh HW hb
    clear HC3
    clear hb
    refine hK.out _ _ (q7_0) (fun hHeld=>?_)
    clear hK K
    refine nm 32 (h:=?_)
    refine pu 5 (h:=?_)
    refine done_ (by kernel_rfl) ?_
    clear hHeld
    refine NoPanic.normal ?_
    go_wp2
    refine wp_region_noPanic ?_
    refine st 17 (fun w'=>w'.cell? ⟨g7,0,none⟩=some (.int .i64 6)) [] (hS:=(q7_0)) (h:=fun hHeld=>?_)
    refine pu 0 (h:=?_)
    refine pu 4 (h:=?_)
    refine pu 5 (h:=?_)
    refine pu 6 (h:=?_)
    refine pu 7 (h:=?_)
    refine pu 8 (h:=?_)
    refine tk 1 hHeld (h:=?_)
    refine pu 2 (h:=?_)
    refine tk 9 hHeld (h:=?_)
    refine pu 10 (h:=?_)
    refine oS 3 (h:=fun K hK=>?_)
    have HBc:=Aside0.mk (show w.heap.size≤_ from by first | exact HB.out.size | exact (below_drew1 HB.out).size)
    refine gc Tryz.func239 (bclone_calls ad 6 c' [91,50,48,49,126,98] _ (Kd.C_below HCT.out (by first | exact HB.out | exact below_drew1 HB.out)) (by decide)) (h:=?_)
    rintro e w7 ⟨vc,rfl,hvc,hb⟩
    refine ⟨_,rfl,?_⟩
    replace B7:=kb B7 hb
    clear q7_0
    have q7_0:=cells1 B7.out
    replace HB:=bh HB hb
    replace HW:=bh HW hb
    have HVC:=Aside0.mk (Kd.R_lower hvc HBc.out)
    clear hvc HBc
    clear hb
    refine hK.out _ _ (q7_0) (fun hHeld=>?_)
    clear hK K
    refine nm 37 (h:=?_)
    refine oS 11 (h:=fun K hK=>?_)
    refine goes_ Tryz.func107 (by kernel_rfl) rfl #[.int .i64 201] (by rfl) rfl rfl (by simp only [List.map_toArray,List.map_cons,List.map_nil];rfl) ?_
    with_reducible refine (HM1.out _ (HPW.out.below (by first | exact HB.out | exact below_drew1 HB.out))).mono ?_
    rintro e w8 ⟨vA4,rfl,hv,hb⟩
    obtain ⟨A4,c4,hv4,_,hC4⟩:=Kd.R_reads hv
    rw [show nat8 mk201=TLp from by decide] at hv4 hC4
    have hv5:vA4=.slice A4 6 c4:=hv4
    subst hv5
    refine ⟨_,rfl,?_⟩
    replace B7:=kb B7 hb
    clear q7_0
    have q7_0:=cells1 B7.out
    replace HB:=bh HB hb
    replace HW:=bh HW hb
    replace HVC:=Aside0.mk (Kd.R_below HVC.out hb)
    have HC4:=Aside0.mk (show Kd.C (Kd.int .u8) _ A4 6 TLp from hC4)
    clear hb hv hv4 hC4
    refine hK.out _ _ (q7_0) (fun hHeld=>?_)
    clear hK K
    refine nm 45 (h:=?_)
    refine pu 12 (h:=?_)
    refine pu 13 (h:=?_)
    refine pu 14 (h:=?_)
    refine pu 15 (h:=?_)
    refine pu 16 (h:=?_)
    refine done_ (by kernel_rfl) ?_
    clear hHeld
    refine NoPanic.normal ?_
    go_wp2
    refine ⟨by simp,.inl ⟨_,_,rfl,run_takeDeferred ((HW.out.block D (lt_def HDW.out)).trans HDW.out),?_⟩⟩
    refine ⟨_,results_tmp3 rfl _ _ _,vc,?_,R_putD HVC.out ((HW.out.block D (lt_def HDW.out)).trans HDW.out),below_putD HB.out (Nat.le_trans HBw4.out hD)⟩
    show Ending.returned (.tuple #[vc,.int .i64 (wrap64 (wrap64 (wrap64 6+6)+6)),.bool true])=_
    rw [show wrap64 (wrap64 (wrap64 6+6)+6)=18 from by kernel_rfl]
end Go.Proofs.YthjacokachgmfaaGreatDoor.H
end
section
namespace Go.Proofs.YthjacokachgmfaaGreatDoor.H
open Go Go.RowKit YthjacokachgmfaaGreatDoorW.PrintWords YthjacokachgmfaaGreatDoorW.PrintLast YthjacokachgmfaaGreatDoorW.PrintMore
open Ev
set_option maxRecDepth 100000
abbrev DL:List Int:=[27,91,57,55,117]++PL
abbrev SP:ByteArray:=⟨#[91,50,48,49,126,98]⟩
theorem one0_calls (A:Option Addr) (c:Nat) (w:World) (hpw:Pow w) (hC:Kd.C (Kd.int .u8) w A 23 DL) (hlc:23≤c) :
    Calls Tryz.prog 83 #[.slice A 23 c] w fun e w'=>e=.returned (.tuple #[it0,.int .i64 5,.bool true])∧Below w.heap.size w w':=by
  have hC':Kd.C (Kd.int .u8) w A DL.length DL:=hC
  obtain ⟨hcut,hCt,_⟩:=cutTo_row hC' hlc 5 (by decide)
  have htk:TakeAt w A 23 c:=fun W hW=>take97 A c PL W (hpw.below hW) (Kd.C_below hC' hW) (by decide) hlc
  refine one_k A 23 c 0 3 5 5 w ?_ ?_ ?_ ?_
  · intro W hW
    refine pasted_calls A 23 c [] ⟨#[]⟩ 0 false W (by kernel_rfl) ?_
    intro W2 hW2
    refine (ptake_f A c DL W2 (hpw.below (below_step hW hW2)) (Kd.C_below hC' (below_step hW hW2)) hlc (by kernel_rfl)).mono ?_
    rintro e w' ⟨rfl,hb⟩
    exact ⟨_,rfl,Kd.R_nil _ _ _ _ _,hb⟩
  · intro W hW
    refine looked_calls A 23 c W ?_
    intro W2 hW2
    exact lookedP_calls A c DL W2 (hpw.below (below_step hW hW2)) (Kd.C_below hC' (below_step hW hW2)) hlc (by kernel_rfl) (by kernel_rfl)
  · intro W hW
    refine pointed_calls A 23 c W (fun W2 hW2=>htk W2 (below_step hW hW2)) ?_ hcut
    intro W2 hW2
    refine mdecode_calls A 5 c W2 ?_
    intro W3 hW3
    have hB:=below_step (below_step hW hW2) hW3
    exact take97 A c [] W3 (hpw.below hB) (Kd.C_below hCt hB) (by decide) (Nat.le_trans (by decide) hlc)
  · intro W hW
    exact keyed_calls A 23 c W (hpw.below hW) (fun W2 hW2=>htk W2 (below_step hW hW2)) (Kd.C_below hCt hW) hcut
theorem one1_calls (A:Option Addr) (c:Nat) (w:World) (hpw:Pow w) (hC:Kd.C (Kd.int .u8) w A 18 PL) (hlc:18≤c) :
    Calls Tryz.prog 83 #[.slice A 18 c] w fun e w'=>e=.returned (.tuple #[it1 SP,.int .i64 18,.bool true])∧Below w.heap.size w w':=by
  refine one_p A 18 c SP 18 w ?_
  intro W hW
  refine pasted_calls A 18 c [91,50,48,49,126,98] SP 18 true W (by kernel_rfl) ?_
  intro W2 hW2
  exact ptake_t A c W2 (hpw.below (below_step hW hW2)) (Kd.C_below hC (below_step hW hW2)) hlc
theorem decAll_calls (A:Option Addr) (c:Nat) (w:World) (hpw:Pow w) (hC:Kd.C (Kd.int .u8) w A 23 DL) (hlc:23≤c) :
    Calls Tryz.prog 15 #[.slice A 23 c] w fun e w'=>∃ v,e=.returned (.tuple #[v,.bool true])∧w'.ownsRow w.heap.size 58 20 v 2 (cellsTo SP 2)∧Below w.heap.size w w':=by
  have hC':Kd.C (Kd.int .u8) w A DL.length DL:=hC
  obtain ⟨A1,c1,hcut1,hC1,_,hl1⟩:=cutFrom_row hC' hlc 5 (by decide)
  have hC1':Kd.C (Kd.int .u8) w A1 PL.length PL:=hC1
  obtain ⟨A2,c2,hcut2,_,_,_⟩:=cutFrom_row hC1' hl1 18 (by decide)
  exact all_calls w A A1 A2 c c1 c2 SP (fun W hW=>one0_calls A c W (hpw.below hW) (Kd.C_below hC hW) hlc) (fun W hW=>one1_calls A1 c1 W (hpw.below hW) (Kd.C_below hC1' hW) hl1) hcut1 hcut2
end Go.Proofs.YthjacokachgmfaaGreatDoor.H
end
section
namespace Go.Proofs.YthjacokachgmfaaGreatDoor.H
open Go Go.RowKit Go.Shelf YthjacokachgmfaaGreatDoorW.PrintWords YthjacokachgmfaaGreatDoorW.PrintLast YthjacokachgmfaaGreatDoorW.PrintMore
open Ev
attribute [local go_sem] Oper.semAt_some
theorem each_calls (kind priv fin:Int) (inter data:ByteArray) (pA:Option Addr) (pn pc:Nat) (w:World) :
    Calls Tryz.prog 201 #[.agg #[.int .i64 kind,.int .u8 priv,.slice pA pn pc,.string inter,.int .u8 fin,.string data]] w fun e w'=>∃ g:Nat,e=.returned (.func (.func 246) #[] #[.pointer (some ⟨g,0,none⟩)])∧w'.heap[g]?=some (.cells #[.int .i64 kind,.int .u8 priv,.slice pA pn pc,.string inter,.int .u8 fin,.string data] 44 (0,0))∧w.heap.size≤g∧Below w.heap.size w w':=by
  go_enter Tryz.func201,Tryz.ntmps201
  go_wp2
  go_ret
  exact ⟨w.heap.size,rfl,blk_new w _,Nat.le_refl _,below_alloc (Below.refl _ _) _⟩
set_option maxRecDepth 100000 in
set_option maxHeartbeats 2000000 in
theorem each_seq (w:World) (n:Nat) (hn:3≤n) (kind priv fin x:Int) (inter data:ByteArray) (pA:Option Addr) (pc:Nat) (b:Nat) (hC:Kd.C kli w pA 1 [[x]]) (hx:0≤x) (W:World) (hW:Below w.heap.size w W) (h0:W.heap[b]?=some (.cells #[.int .i64 kind,.int .u8 priv,.slice pA 1 pc,.string inter,.int .u8 fin,.string data] 44 (0,0))) :
    SeqCell b w.heap.size Fence.wide n Tryz.prog 246 #[.pointer (some ⟨b,0,none⟩)] (fun x:Int=>#[.int .i64 x]) [x] W:=by
  intro l J Jx hJ hJx hJb hJxb hY hJ0
  have HC:=Aside0.mk hC
  have HX:=Aside0.mk hx
  have HW:=Aside0.mk hW
  have B:=Aside0.mk h0
  clear hC hx hW h0
  obtain ⟨q0,q1,q2,q3,q4,q5⟩:=cells6 B.out
  refine callsIn_of_wp Tryz.func246 rfl trivial ?_ rfl
  simp only [Tryz.ntmps246,List.size_toArray,List.length_cons,List.length_nil,Nat.reduceAdd,Nat.reduceSub,Array.replicate_succ,Array.replicate_zero,List.push_toArray,List.append_toArray,List.nil_append,List.cons_append]
  gi_wp2
  clear q0 q1 q2 q3 q4 q5
  gi_loopw [7] (fun v7 wr=>((v7=.int .i64 0∧Aside0 (J [] wr))∨(v7=.int .i64 1∧Aside0 (J [x] wr)))∧Aside0 (wr.heap[b]?=some (.cells #[.int .i64 kind,.int .u8 priv,.slice pA 1 pc,.string inter,.int .u8 fin,.string data] 44 (0,0)))∧Aside0 (Below w.heap.size w wr)) (fun v7 wr=>match v7 with | .int _ k=>(1 - k).toNat | _=>0)
  case atStart=>exact ⟨.inl ⟨rfl,⟨hJ0⟩⟩,B,HW⟩
  case round =>
    obtain ⟨hrel,BR,HB⟩:=hrel
    obtain ⟨q0,q1,q2,q3,q4,q5⟩:=cells6 BR.out
    rcases hrel with ⟨rfl,HJ⟩ | ⟨rfl,HJ⟩
    · gi_wp2
      refine ⟨trivial,fun _=>by omega,?_⟩
      refine (callsIn_wide.2 (arg_calls kind priv fin x (-1) inter data pA pc _ (Kd.C_below HC.out HB.out) HX.out)).mono ?_
      rintro e w1 ⟨rfl,hb1⟩
      have HJ1:=hJ [] wr w1 none HJ.out (grown_of_below1 hb1) (fun _ e=>by cases e)
      have HB1:=Aside0.mk (below_step HB.out hb1)
      have B1:=Aside0.mk (blk_below BR.out hb1)
      obtain ⟨fn,tmps,assign,body,hy,hR⟩:=hY [] x w1 HJ1 (List.prefix_refl _)
      gi_wp2
      refine ⟨fun _=>by omega,hR.mono ?_⟩
      rintro e W3 (⟨rfl,hJ3,hk3⟩ | ⟨rfl,hJx3⟩)
      · have B3:=Aside0.mk (hk3.cell.trans B1.out)
        have HB3:=Aside0.mk (HB1.out.trans hk3.low)
        gi_wp2
        exact ⟨⟨.inr ⟨rfl,⟨hJ3⟩⟩,B3,HB3⟩,by decide⟩
      · gi_wp2
        refine bodyPost_ret (results_none rfl _ _ _) rfl ?_
        exact ⟨⟨_,rfl⟩,.inr ⟨[x],List.prefix_refl _,hJx3⟩⟩
    · gi_wp2
      go_end0
      exact ⟨⟨_,rfl⟩,.inl HJ.out⟩
end Go.Proofs.YthjacokachgmfaaGreatDoor.H
end
