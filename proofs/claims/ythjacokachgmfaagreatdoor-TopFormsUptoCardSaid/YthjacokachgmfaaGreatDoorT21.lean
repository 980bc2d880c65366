import Derived.Test.YthjacokachgmfaaGreatDoorT04
import Derived.Test.YthjacokachgmfaaGreatDoorT19
set_option linter.unusedVariables false
set_option linter.unusedSimpArgs false
section
namespace Go.Proofs.YthjacokachgmfaaGreatDoor.H
open Go Go.RowKit YthjacokachgmfaaGreatDoorW.PrintWords YthjacokachgmfaaGreatDoorW.PrintLast YthjacokachgmfaaGreatDoorW.PrintMore
open Ev
set_option maxRecDepth 100000
theorem fact_calls (n:Int) (w:World) (h:0≤n∧n≤65535):Calls Tryz.prog 217 #[.int .i64 n] w fun e w'=>e=.returned (.int .i64 n)∧Below w.heap.size w w':=by
  have e1:min (max n 0) 65535=n:=by omega
  clear h
  go_enter Tryz.func217,Tryz.ntmps217
  go_wp2
  go_ret
  exact ⟨rfl,Below.refl _ _⟩
theorem infoLI:(Tryz.prog.info? 66).map (fun i=>(i.zero,i.size,i.bytes))=some (some (.slice none 0 0),1,24):=by kernel_rfl
theorem one_own {w W:World} (hB:Below w.heap.size w W) (n:Int):(Kd.int .i64).R 3 (W.alloc (.cells #[.int .i64 n] 3 (0,0))) w.heap.size (fun k2=>W.heap.size≤k2) (.slice (some ⟨W.heap.size,0,none⟩) 1 1) [n] :=
  Kd.R_of_own (enc:=Value.int .i64) (h1:=fun _=>rfl) (own_lit W w.heap.size 3 .i64 [n] (below_size hB) (by simp)) (fun k hk=>by injection hk with hk;rw [← hk];exact Nat.le_refl _)
set_option maxHeartbeats 8000000 in
theorem num_calls (priv fin:Int) (A:Option Addr) (c:Nat) (l:List Int) (w:World) (hr:Kd.C (Kd.int .i64) w A l.length l) (hl:l.length≤100) :
    Calls Tryz.prog 99 #[.int .u8 priv,.int .u8 fin,.slice A l.length c] w fun e w'=>∃ Av cv,e=.returned (.agg #[.int .i64 1,.int .u8 priv,.slice Av l.length cv,.string ⟨#[]⟩,.int .u8 fin,.string ⟨#[]⟩])∧kli.R 66 w' w.heap.size (fun _=>True) (.slice Av l.length cv) (l.map ([·]))∧Below w.heap.size w w':=by
  have HC:=Aside0.mk hr
  have HL:=Aside0.mk hl
  have HB:=Aside0.mk (Below.refl w.heap.size w)
  clear hr hl
  go_enter Tryz.func99,Tryz.ntmps99
  go_wp2_with (first|(refine bx 6 #[.int .i64 0,.int .u8 0,.slice none 0 0,.string ⟨#[]⟩,.int .u8 0,.string ⟨#[]⟩] 44 (h:=?_);intro g6 hg w1 hbox hb;have HBo:=HB;replace HB:=bh HB hb;have B6:=Aside0.mk hbox;have q6:=cells6 B6.out;have G6:=gG HBo hg;clear hbox hb hg HBo)|(refine bx 7 #[.int .i64 0,.int .u8 0,.slice none 0 0,.string ⟨#[]⟩,.int .u8 0,.string ⟨#[]⟩] 44 (h:=?_);intro g7 hg w2 hbox hb;have HBo:=HB;have L6_:=blk_lt B6.out;replace B6:=kb B6 hb;clear q6;have q6:=cells6 B6.out;replace HB:=bh HB hb;have B7:=Aside0.mk hbox;have q7:=cells6 B7.out;have G7:=gG HBo hg;have NE7_6:=Aside0.mk (show g7≠g6 by omega);have NE6_7:=Aside0.mk (Ne.symm NE7_6.out);clear L6_;clear hbox hb hg HBo)|((with_reducible refine gate_store (t:=44) rfl ?_);refine sx 44 0 B7 (h:=?_);intro w3 hS hg;replace B6:=gk B6 hg NE6_7.out;clear q6;have q6:=cells6 B6.out;replace HB:=gb HB hg G7;clear B7 q7 hg;have B7:=hS;clear hS;have q7:=cells6 B7.out))
  show Code.wp _ _ _ _ _
  go_loopg [15] (l.length+1) (fun kq v15 W=>∃ (k:Nat) (Av:Option Addr) (cv:Nat),v15=.int .i64 (k:Int)∧Aside0 (k≤l.length∧l.length - k < kq)∧Aside0 (W.heap[g6]?=some (.cells #[.int .i64 0,.int .u8 0,.slice none 0 0,.string ⟨#[]⟩,.int .u8 0,.string ⟨#[]⟩] 44 (0,0)))∧Aside0 (W.heap[g7]?=some (.cells #[.int .i64 1,.int .u8 priv,.slice Av k cv,.string ⟨#[]⟩,.int .u8 fin,.string ⟨#[]⟩] 44 (0,0)))∧Aside0 (kli.R 66 W w.heap.size (fun _=>True) (.slice Av k cv) ((l.take k).map ([·])))∧Aside0 (Below w.heap.size w W))
  case atStart=>exact ⟨0,none,0,rfl,⟨by omega⟩,B6,B7,⟨Kd.R_nil _ _ _ _ _⟩,HB⟩
  case round =>
    obtain ⟨k,Av,cv,rfl,HK0,B6,B7,HR,HBr⟩:=hrel
    clear HB
    have HB:=HBr
    clear HBr
    cases gk with
    | zero=>exact absurd HK0.out (by omega)
    | succ k1 =>
      by_cases hk:k < l.length
      · obtain ⟨ad,n,eA,hn,hcell⟩:=at_I (Kd.C_below HC.out HB.out) (k:=k) hk
        subst eA
        have EVT:=Aside0.mk (show (l.take (k+1)).map ([·])=(l.take k).map ([·])++[[n]] by rw [List.take_add_one,hn];simp)
        have HKL:=Aside0.mk (show k+1≤l.length from hk)
        have c1:decide ((k:Int) < (l.length:Int))=true:=decide_eq_true (by omega)
        have p1:(0:Int)≤(k:Int):=by omega
        have p2:(k:Int) < (l.length:Int):=by omega
        have e4:wrap64 ((k:Int)+1)=((k+1:Nat):Int):=by have:=HL.out;rw [IntWalk.wrap64_in _ (by omega)];omega
        clear hn
        have q6:=cells6 B6.out
        have q7:=cells6 B7.out
        go_wp2_with (first|((with_reducible refine gate_builtin (b:=.append) (xs:=#[.tmp 20,.tmp 23]) rfl ?_);at_builtin;refine Kd.R_append kli (w0:=w) (W:=wr.alloc (.cells #[.int .i64 n] 3 (0,0))) w.heap.size rfl (.tmp 20) (.tmp 23) 42 66 (.slice none 0 0) 24 rfl Tryz.underlying42 infoLI rfl (by decide) (by decide) (.slice Av k cv) ((l.take k).map ([·])) [n] [.slice (some ⟨wr.heap.size,0,none⟩) 1 1] (fun _=>True) (fun k2=>wr.heap.size≤k2) rfl ?aX ?aP ?aK ?aF ?aO ?aB ?aS ?aL ?_;(case aX=>rw [World.size_alloc];rfl);(case aP=>exact ⟨_,rfl,one_own HB.out n⟩);(case aK=>exact fun k2 hk2=>⟨trivial,fun e=>by have h1:=((Kd.R_bound HR.out).1 k2 e.symm).2.2.1;omega⟩);(case aF=>exact (fun _ _=>trivial));(case aO=>exact Kd.R_alloc HR.out _);(case aB=>exact below_alloc HB.out _);(case aS=>exact below_size (below_alloc HB.out _));(case aL=>have:=HL.out;rw [List.length_map,List.length_take];omega);intro v1 w5 ho hb hg hat;rw [← EVT.out] at ho;obtain ⟨A3,c3,e3⟩:=Kd.R_slice ho;rw [List.length_map,List.length_take,Nat.min_eq_left HKL.out] at e3;subst e3;have B6_:=Aside0.mk (blk_grown (blk_alloc B6.out _) hg (Kd.R_ne HR.out B6.out (by decide)));have B7_:=Aside0.mk (blk_grown (blk_alloc B7.out _) hg (Kd.R_ne HR.out B7.out (by decide)));clear B6 B7 HR HB q6 q7;have B6:=B6_;have B7:=B7_;clear B6_ B7_;have HR:=Aside0.mk ho;have HB:=Aside0.mk hb;clear ho hb hg hat;have q6:=cells6 B6.out;have q7:=cells6 B7.out)|((with_reducible refine gate_store (t:=42) rfl ?_);refine sx 42 2 B7 (h:=?_);intro w6 hS hg;replace B6:=gk B6 hg NE6_7.out;clear q6;have q6:=cells6 B6.out;replace HB:=gb HB hg G7;replace HR:=Aside0.mk (R_grownT HR.out B7.out (by decide) hg);clear B7 q7 hg;have B7:=hS;clear hS;have q7:=cells6 B7.out))
        go_roundg k1
        case measure=>omega
        case rel=>exact ⟨k+1,A3,c3,by first | rfl | rw [e4],⟨by have:=HK0.out;have:=HKL.out;omega⟩,B6,B7,HR,HB⟩
      · have hkl:k=l.length:=by have:=HK0.out;omega
        subst hkl
        have q6:=cells6 B6.out
        have q7:=cells6 B7.out
        go_wp2_with (first|((with_reducible refine gate_store (t:=44) rfl ?_);refine sx 44 0 B6 (h:=?_);intro w7 hS hg;replace B7:=gk B7 hg NE7_6.out;clear q7;have q7:=cells6 B7.out;replace HB:=gb HB hg G6;replace HR:=Aside0.mk (R_grownT HR.out B6.out (by decide) hg);clear B6 q6 hg;have B6:=hS;clear hS;have q6:=cells6 B6.out))
        refine bodyPost_ret (results_cell_row rfl _ _ g6 44 _ (0,0) _ rfl B6.out Tryz.underlying44 rfl (by kernel_rfl)) rfl ?_
        have hR:=HR.out
        rw [List.take_length] at hR
        exact ⟨Av,cv,rfl,hR,HB.out⟩
end Go.Proofs.YthjacokachgmfaaGreatDoor.H
end
