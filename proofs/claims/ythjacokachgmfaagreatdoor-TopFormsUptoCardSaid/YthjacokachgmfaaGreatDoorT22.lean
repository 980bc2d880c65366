import Derived.Test.YthjacokachgmfaaGreatDoorT04
import Derived.Test.YthjacokachgmfaaGreatDoorT20
import Derived.Test.YthjacokachgmfaaGreatDoorT21
set_option linter.unusedVariables false
set_option linter.unusedSimpArgs false
section
namespace Go.Proofs.YthjacokachgmfaaGreatDoor.H
open Go Go.RowKit Go.Maps Go.ChangeMaps YthjacokachgmfaaGreatDoorW.PrintWords YthjacokachgmfaaGreatDoorW.PrintLast YthjacokachgmfaaGreatDoorW.PrintMore
open Ev
set_option maxRecDepth 100000
theorem lit_two {W:World} {g:Nat} {a b:Int} (h:W.heap[g]?=some (.cells #[.int .i64 a,.int .i64 b] 3 (0,0))):Kd.C (Kd.int .i64) W (some ⟨g,0,none⟩) 2 [a,b] :=
  Kd.C_of_reads (d:=(0:Int)) ⟨rfl,by omega,fun _=>⟨⟨g,0,none⟩,rfl,fun j hj=>by
    have hj2:j < 2:=hj
    match j,hj2 with
    | 0,_=>exact (blk_cell h 0).trans rfl
    | 1,_=>exact (blk_cell h 1).trans rfl⟩⟩
theorem num_two (priv fin:Int) (A:Option Addr) (c:Nat) (a b:Int) (w:World) (hr:Kd.C (Kd.int .i64) w A 2 [a,b]) :
    Calls Tryz.prog 99 #[.int .u8 priv,.int .u8 fin,.slice A 2 c] w fun e w'=>∃ Av cv,e=.returned (.agg #[.int .i64 1,.int .u8 priv,.slice Av 2 cv,.string ⟨#[]⟩,.int .u8 fin,.string ⟨#[]⟩])∧kli.R 66 w' w.heap.size (fun _=>True) (.slice Av 2 cv) [[a],[b]]∧Below w.heap.size w w' :=
  num_calls priv fin A c [a,b] w hr (by simp)
set_option maxHeartbeats 8000000 in
theorem rmode_calls (b0 b1 b2 b3 b5 b6:Bool) (n0 n1 n2:Int) (w:World) :
    Calls Tryz.prog 210 #[.agg #[.bool b0,.bool b1,.bool b2,.bool b3,.bool true,.bool b5,.bool b6,.int .i64 n0,.int .i64 n1,.int .i64 n2],.bool true,.int .i64 2004] w fun e w'=>∃ Av cv,e=.returned (.agg #[.int .i64 1,.int .u8 63,.slice Av 2 cv,.string ⟨#[36]⟩,.int .u8 121,.string ⟨#[]⟩])∧kli.R 66 w' w.heap.size (fun _=>True) (.slice Av 2 cv) [[2004],[1]]∧Below w.heap.size w w':=by
  have hlook:∀ {W:World} {gm:Nat},MapAt Tryz.prog 4 W gm ([]++[(.bool true,.int .u8 63)])→(Instr.lookup 297 (.map (some gm)) (.bool true) false).run Tryz.prog W=.ok (.int .u8 63) W:=fun h=>h.look (bool_keyed Tryz.underlying4) Tryz.underlying297 (keyOf_bool_mk Tryz.underlying4 true) (by simp) (fun p hp _=>by simp at hp;rw [hp])
  have HB:=Aside0.mk (Below.refl w.heap.size w)
  go_enter Tryz.func210,Tryz.ntmps210
  go_wp2_with (first|(refine bx 3 #[.bool b0,.bool b1,.bool b2,.bool b3,.bool true,.bool b5,.bool b6,.int .i64 n0,.int .i64 n1,.int .i64 n2] 32 (h:=?_);intro g3 hg w1 hbox hb;have HBo:=HB;replace HB:=bh HB hb;have B3:=Aside0.mk hbox;have q3:=cells10 B3.out;have G3:=gG HBo hg;clear hbox hb hg HBo)|(refine bx 6 #[.int .i64 0,.int .u8 0,.slice none 0 0,.string ⟨#[]⟩,.int .u8 0,.string ⟨#[]⟩] 44 (h:=?_);intro g6 hg w2 hbox hb;have HBo:=HB;replace B3:=kb B3 hb;clear q3;have q3:=cells10 B3.out;replace HB:=bh HB hb;have B6:=Aside0.mk hbox;have q6:=cells6 B6.out;have G6:=gG HBo hg;clear hbox hb hg HBo)|((with_reducible refine gate_dst (N:=9) rfl ?_);refine make_ev (k:=4) (t:=297) rfl 9 rfl rfl ?hr ?_;(case hr=>first|(go_simp;done)|(go_simp;rfl));intro gm hgm w3 hM hb;have HBo:=HB.out;replace B3:=kb B3 hb;clear q3;have q3:=cells10 B3.out;replace B6:=kb B6 hb;clear q6;have q6:=cells6 B6.out;replace HB:=bh HB hb;have MM:=Aside0.mk hM;have GM:=Aside0.mk (show w.heap.size≤gm by rw [hgm];exact below_size HBo);clear hM hb hgm)|((with_reducible refine gate_ (.insert 297 (.tmp 9) (.const (.bool true)) (.const (.int .u8 63))) rfl ?_);refine put_ev rfl rfl (.tmp 9) (.const (.bool true)) (.const (.int .u8 63)) rfl (bool_keyed Tryz.underlying4) Tryz.underlying297 rfl rfl rfl MM.out (keyOf_bool_mk Tryz.underlying4 true) (fun p hp=>by cases hp) ?_;intro w4 hM hg;replace B3:=Aside0.mk (blk_mapGrown B3.out MM.out hg);clear q3;have q3:=cells10 B3.out;replace B6:=Aside0.mk (blk_mapGrown B6.out MM.out hg);clear q6;have q6:=cells6 B6.out;replace HB:=gb HB hg GM;clear MM;have MM:=Aside0.mk hM;clear hM hg))
  have hlk:=hlook MM.out
  refine st 13 (fun w'=>w'.cell? ⟨g3,0,none⟩=some (.bool b0)∧w'.cell? ⟨g3,1,none⟩=some (.bool b1)∧w'.cell? ⟨g3,2,none⟩=some (.bool b2)∧w'.cell? ⟨g3,3,none⟩=some (.bool b3)∧w'.cell? ⟨g3,4,none⟩=some (.bool true)∧w'.cell? ⟨g3,5,none⟩=some (.bool b5)∧w'.cell? ⟨g3,6,none⟩=some (.bool b6)∧w'.cell? ⟨g3,7,none⟩=some (.int .i64 n0)∧w'.cell? ⟨g3,8,none⟩=some (.int .i64 n1)∧w'.cell? ⟨g3,9,none⟩=some (.int .i64 n2)∧(Instr.lookup 297 (.map (some gm)) (.bool true) false).run Tryz.prog w'=.ok (.int .u8 63) w') [] (hS:=⟨q3.1,q3.2.1,q3.2.2.1,q3.2.2.2.1,q3.2.2.2.2.1,q3.2.2.2.2.2.1,q3.2.2.2.2.2.2.1,q3.2.2.2.2.2.2.2.1,q3.2.2.2.2.2.2.2.2.1,q3.2.2.2.2.2.2.2.2.2,hlook (MM.out.below (below_drew1 (Below.refl _ _)))⟩) (h:=fun hHeld=>?_)
  refine pu 0 (h:=?_)
  refine pu 1 (h:=?_)
  refine pu 3 (h:=?_)
  refine pu 6 (h:=?_)
  refine pu 7 (h:=?_)
  refine tk 2 hHeld (h:=?_)
  refine tk 5 hHeld (h:=?_)
  refine tw 4 11 (h1:=fun K hK=>?_) (h2:=fun K hK=>?_)
  · skip
    refine gc Tryz.func217 (fact_calls 2004 _ (by decide)) (h:=?_)
    rintro e wf ⟨rfl,hb⟩
    refine ⟨_,rfl,?_⟩
    replace B3:=kb B3 hb
    clear q3
    have q3:=cells10 B3.out
    replace B6:=kb B6 hb
    clear q6
    have q6:=cells6 B6.out
    replace HB:=bh HB hb
    replace MM:=Aside0.mk (show MapAt Tryz.prog 4 _ gm _ from by first | exact MM.out.below hb | exact (MM.out.below (below_drew1 (Below.refl _ _))).below hb)
    have hlk:=hlook MM.out
    clear hb
    refine hK.out _ _ ⟨q3.1,q3.2.1,q3.2.2.1,q3.2.2.2.1,q3.2.2.2.2.1,q3.2.2.2.2.2.1,q3.2.2.2.2.2.2.1,q3.2.2.2.2.2.2.2.1,q3.2.2.2.2.2.2.2.2.1,q3.2.2.2.2.2.2.2.2.2,hlk⟩ (fun hHeld=>?_)
    clear hK K
    refine nm 15 (h:=?_)
    refine tw 8 11 (h1:=fun K hK=>?_) (h2:=fun K hK=>?_)
    · skip
      refine gc Tryz.func250 (get_calls b0 b1 b2 b3 b5 b6 n0 n1 n2 _) (h:=?_)
      rintro e wg ⟨rfl,hb⟩
      refine ⟨_,rfl,?_⟩
      replace B3:=kb B3 hb
      clear q3
      have q3:=cells10 B3.out
      replace B6:=kb B6 hb
      clear q6
      have q6:=cells6 B6.out
      replace HB:=bh HB hb
      replace MM:=Aside0.mk (show MapAt Tryz.prog 4 _ gm _ from by first | exact MM.out.below hb | exact (MM.out.below (below_drew1 (Below.refl _ _))).below hb)
      have hlk:=hlook MM.out
      clear hb
      refine hK.out _ _ ⟨q3.1,q3.2.1,q3.2.2.1,q3.2.2.2.1,q3.2.2.2.2.1,q3.2.2.2.2.2.1,q3.2.2.2.2.2.2.1,q3.2.2.2.2.2.2.2.1,q3.2.2.2.2.2.2.2.2.1,q3.2.2.2.2.2.2.2.2.2,hlk⟩ (fun hHeld=>?_)
      clear hK K
      refine nm 19 (h:=?_)
      refine tw 9 11 (h1:=fun K hK=>?_) (h2:=fun K hK=>?_)
      · skip
        refine slice_step 20 (by rfl) (by rfl) (cs:=#[.int .i64 2004,.int .i64 1]) (t:=3) (by first|(go_simp;done)|(go_simp;rfl)) ?_
        intro gL hg wl hbox hb
        have HBo:=HB
        replace B3:=kb B3 hb
        clear q3
        have q3:=cells10 B3.out
        replace B6:=kb B6 hb
        clear q6
        have q6:=cells6 B6.out
        replace HB:=bh HB hb
        replace MM:=Aside0.mk (show MapAt Tryz.prog 4 _ gm _ from by first | exact MM.out.below hb | exact (MM.out.below (below_drew1 (Below.refl _ _))).below hb)
        have hlk:=hlook MM.out
        have BL:=Aside0.mk hbox
        have qL:=cells2 BL.out
        have GL:=Aside0.mk (show w.heap.size≤gL by rw [hg];first | exact below_size HBo.out | exact below_size (below_drew1 HBo.out))
        clear hbox hb hg HBo
        refine hK.out _ _ ⟨q3.1,q3.2.1,q3.2.2.1,q3.2.2.2.1,q3.2.2.2.2.1,q3.2.2.2.2.2.1,q3.2.2.2.2.2.2.1,q3.2.2.2.2.2.2.2.1,q3.2.2.2.2.2.2.2.2.1,q3.2.2.2.2.2.2.2.2.2,hlk⟩ (fun hHeld=>?_)
        clear hK K
        refine nm 20 (h:=?_)
        refine tw 10 11 (h1:=fun K hK=>?_) (h2:=fun K hK=>?_)
        · skip
          have HBo:=HB
          refine gc Tryz.func99 (num_two 63 121 (some ⟨gL,0,none⟩) 2 2004 1 _ (lit_two BL.out)) (h:=?_)
          rintro e wn ⟨Av,cv,rfl,hR,hb⟩
          refine ⟨_,rfl,?_⟩
          replace B3:=kb B3 hb
          clear q3
          have q3:=cells10 B3.out
          replace B6:=kb B6 hb
          clear q6
          have q6:=cells6 B6.out
          replace BL:=kb BL hb
          clear qL
          have qL:=cells2 BL.out
          replace HB:=bh HB hb
          replace MM:=Aside0.mk (show MapAt Tryz.prog 4 _ gm _ from by first | exact MM.out.below hb | exact (MM.out.below (below_drew1 (Below.refl _ _))).below hb)
          have hlk:=hlook MM.out
          have HKL:=Aside0.mk (Kd.R_lower hR (by first | exact below_size HBo.out | exact below_size (below_drew1 HBo.out)))
          clear hb hR HBo
          refine hK.out _ _ ⟨q3.1,q3.2.1,q3.2.2.1,q3.2.2.2.1,q3.2.2.2.2.1,q3.2.2.2.2.2.1,q3.2.2.2.2.2.2.1,q3.2.2.2.2.2.2.2.1,q3.2.2.2.2.2.2.2.2.1,q3.2.2.2.2.2.2.2.2.2,hlk⟩ (fun hHeld=>?_)
          clear hK K
          refine nm 21 (h:=?_)
          refine oS 11 (h:=fun K hK=>?_)
          refine box_step 8 (by rfl) (by rfl) (cs:=#[.int .i64 0,.int .u8 0,.slice none 0 0,.string ⟨#[]⟩,.int .u8 0,.string ⟨#[]⟩]) (t:=44) (by first|(go_simp;done)|(go_simp;rfl)) ?_
          intro g8 hg w8 hbox hb
          have L6_:=blk_lt B6.out
          have HBo:=HB
          replace B3:=kb B3 hb
          clear q3
          have q3:=cells10 B3.out
          replace B6:=kb B6 hb
          clear q6
          have q6:=cells6 B6.out
          replace BL:=kb BL hb
          clear qL
          have qL:=cells2 BL.out
          replace HB:=bh HB hb
          replace MM:=Aside0.mk (show MapAt Tryz.prog 4 _ gm _ from by first | exact MM.out.below hb | exact (MM.out.below (below_drew1 (Below.refl _ _))).below hb)
          have hlk:=hlook MM.out
          replace HKL:=Aside0.mk (Kd.R_below HKL.out hb)
          have B8:=Aside0.mk hbox
          have q8:=cells6 B8.out
          have NE8_6:=Aside0.mk (show g8≠g6 by rw [hg];exact fun e=>absurd L6_ (by rw [← e];exact Nat.lt_irrefl _))
          have NE6_8:=Aside0.mk (Ne.symm NE8_6.out)
          clear L6_
          have G8:=Aside0.mk (show w.heap.size≤g8 by rw [hg];first | exact below_size HBo.out | exact below_size (below_drew1 HBo.out))
          clear hbox hb hg HBo
          refine hK.out _ _ ⟨q3.1,q3.2.1,q3.2.2.1,q3.2.2.2.1,q3.2.2.2.2.1,q3.2.2.2.2.2.1,q3.2.2.2.2.2.2.1,q3.2.2.2.2.2.2.2.1,q3.2.2.2.2.2.2.2.2.1,q3.2.2.2.2.2.2.2.2.2,hlk⟩ (fun hHeld=>?_)
          clear hK K
          refine nm 8 (h:=?_)
          refine oN 12 (h:=fun K hK=>?_)
          refine store_step (by rfl) (by rfl) 44 (.tmp 8) (.tmp 21) (by rfl) g8 0 44 _ B8.out (by rfl) _ (by rfl) [.int .i64 1,.int .u8 63,.slice Av 2 cv,.string ⟨#[]⟩,.int .u8 121,.string ⟨#[]⟩] rfl (by kernel_rfl) (by show 0+6≤6;decide) (by simp [Value.oneCell']) #[.int .i64 1,.int .u8 63,.slice Av 2 cv,.string ⟨#[]⟩,.int .u8 121,.string ⟨#[]⟩] rfl ?_
          intro ws hS hg
          replace B3:=gnx B3 hg B8
          clear q3
          have q3:=cells10 B3.out
          replace B6:=gk B6 hg NE6_8.out
          clear q6
          have q6:=cells6 B6.out
          replace BL:=gnx BL hg B8
          clear qL
          have qL:=cells2 BL.out
          replace HB:=gb HB hg G8
          replace MM:=Aside0.mk (map_grown MM.out B8.out hg)
          have hlk:=hlook MM.out
          replace HKL:=Aside0.mk (R_grownT HKL.out B8.out (by decide) hg)
          clear B8 q8 hg
          have B8:=Aside0.mk hS
          clear hS
          have q8:=cells6 B8.out
          refine hK.out _ _ ⟨q3.1,q3.2.1,q3.2.2.1,q3.2.2.2.1,q3.2.2.2.2.1,q3.2.2.2.2.2.1,q3.2.2.2.2.2.2.1,q3.2.2.2.2.2.2.2.1,q3.2.2.2.2.2.2.2.2.1,q3.2.2.2.2.2.2.2.2.2,hlk⟩ (fun hHeld=>?_)
          clear hK K
          refine done_ (by kernel_rfl) ?_
          clear hHeld
          go_wp2_with (first|((with_reducible refine gate_store (t:=9) rfl ?_);refine sx 9 3 B8 (h:=?_);intro w9 hS hg;replace B3:=gnx B3 hg B8;clear q3;have q3:=cells10 B3.out;replace B6:=gk B6 hg NE6_8.out;clear q6;have q6:=cells6 B6.out;replace BL:=gnx BL hg B8;clear qL;have qL:=cells2 BL.out;replace HB:=gb HB hg G8;replace MM:=Aside0.mk (map_grown MM.out B8.out hg);have hlk:=hlook MM.out;replace HKL:=Aside0.mk (R_grownT HKL.out B8.out (by decide) hg);clear B8 q8 hg;have B8:=hS;clear hS;have q8:=cells6 B8.out)|((with_reducible refine gate_store (t:=44) rfl ?_);refine sx 44 0 B6 (h:=?_);intro w10 hS hg;replace B3:=gnx B3 hg B6;clear q3;have q3:=cells10 B3.out;replace BL:=gnx BL hg B6;clear qL;have qL:=cells2 BL.out;replace B8:=gk B8 hg NE8_6.out;clear q8;have q8:=cells6 B8.out;replace HB:=gb HB hg G6;replace MM:=Aside0.mk (map_grown MM.out B6.out hg);have hlk:=hlook MM.out;replace HKL:=Aside0.mk (R_grownT HKL.out B6.out (by decide) hg);clear B6 q6 hg;have B6:=hS;clear hS;have q6:=cells6 B6.out))
          refine bodyPost_ret (results_cell_row rfl _ _ g6 44 _ (0,0) _ rfl B6.out Tryz.underlying44 rfl (by kernel_rfl)) rfl ?_
          exact ⟨Av,cv,rfl,HKL.out,HB.out⟩
        · skip
          refine box_step 8 (by rfl) (by rfl) (cs:=#[.int .i64 0,.int .u8 0,.slice none 0 0,.string ⟨#[]⟩,.int .u8 0,.string ⟨#[]⟩]) (t:=44) (by first|(go_simp;done)|(go_simp;rfl)) ?_
          intro g8 hg w8 hbox hb
          have L6_:=blk_lt B6.out
          have HBo:=HB
          replace B3:=kb B3 hb
          clear q3
          have q3:=cells10 B3.out
          replace B6:=kb B6 hb
          clear q6
          have q6:=cells6 B6.out
          replace BL:=kb BL hb
          clear qL
          have qL:=cells2 BL.out
          replace HB:=bh HB hb
          replace MM:=Aside0.mk (show MapAt Tryz.prog 4 _ gm _ from by first | exact MM.out.below hb | exact (MM.out.below (below_drew1 (Below.refl _ _))).below hb)
          have hlk:=hlook MM.out
          have B8:=Aside0.mk hbox
          have q8:=cells6 B8.out
          have NE8_6:=Aside0.mk (show g8≠g6 by rw [hg];exact fun e=>absurd L6_ (by rw [← e];exact Nat.lt_irrefl _))
          have NE6_8:=Aside0.mk (Ne.symm NE8_6.out)
          clear L6_
          have G8:=Aside0.mk (show w.heap.size≤g8 by rw [hg];first | exact below_size HBo.out | exact below_size (below_drew1 HBo.out))
          clear hbox hb hg HBo
          refine hK.out _ _ ⟨q3.1,q3.2.1,q3.2.2.1,q3.2.2.2.1,q3.2.2.2.2.1,q3.2.2.2.2.2.1,q3.2.2.2.2.2.2.1,q3.2.2.2.2.2.2.2.1,q3.2.2.2.2.2.2.2.2.1,q3.2.2.2.2.2.2.2.2.2,hlk⟩ (fun hHeld=>?_)
          clear hK K
          refine nm 8 (h:=?_)
          refine oS 10 (h:=fun K hK=>?_)
          have HBo:=HB
          refine gc Tryz.func99 (num_two 63 121 (some ⟨gL,0,none⟩) 2 2004 1 _ (lit_two BL.out)) (h:=?_)
          rintro e wn ⟨Av,cv,rfl,hR,hb⟩
          refine ⟨_,rfl,?_⟩
          replace B3:=kb B3 hb
          clear q3
          have q3:=cells10 B3.out
          replace B6:=kb B6 hb
          clear q6
          have q6:=cells6 B6.out
          replace BL:=kb BL hb
          clear qL
          have qL:=cells2 BL.out
          replace B8:=kb B8 hb
          clear q8
          have q8:=cells6 B8.out
          replace HB:=bh HB hb
          replace MM:=Aside0.mk (show MapAt Tryz.prog 4 _ gm _ from by first | exact MM.out.below hb | exact (MM.out.below (below_drew1 (Below.refl _ _))).below hb)
          have hlk:=hlook MM.out
          have HKL:=Aside0.mk (Kd.R_lower hR (by first | exact below_size HBo.out | exact below_size (below_drew1 HBo.out)))
          clear hb hR HBo
          refine hK.out _ _ ⟨q3.1,q3.2.1,q3.2.2.1,q3.2.2.2.1,q3.2.2.2.2.1,q3.2.2.2.2.2.1,q3.2.2.2.2.2.2.1,q3.2.2.2.2.2.2.2.1,q3.2.2.2.2.2.2.2.2.1,q3.2.2.2.2.2.2.2.2.2,hlk⟩ (fun hHeld=>?_)
          clear hK K
          refine nm 21 (h:=?_)
          refine oN 12 (h:=fun K hK=>?_)
          refine store_step (by rfl) (by rfl) 44 (.tmp 8) (.tmp 21) (by rfl) g8 0 44 _ B8.out (by rfl) _ (by rfl) [.int .i64 1,.int .u8 63,.slice Av 2 cv,.string ⟨#[]⟩,.int .u8 121,.string ⟨#[]⟩] rfl (by kernel_rfl) (by show 0+6≤6;decide) (by simp [Value.oneCell']) #[.int .i64 1,.int .u8 63,.slice Av 2 cv,.string ⟨#[]⟩,.int .u8 121,.string ⟨#[]⟩] rfl ?_
          intro ws hS hg
          replace B3:=gnx B3 hg B8
          clear q3
          have q3:=cells10 B3.out
          replace B6:=gk B6 hg NE6_8.out
          clear q6
          have q6:=cells6 B6.out
          replace BL:=gnx BL hg B8
          clear qL
          have qL:=cells2 BL.out
          replace HB:=gb HB hg G8
          replace MM:=Aside0.mk (map_grown MM.out B8.out hg)
          have hlk:=hlook MM.out
          replace HKL:=Aside0.mk (R_grownT HKL.out B8.out (by decide) hg)
          clear B8 q8 hg
          have B8:=Aside0.mk hS
          clear hS
          have q8:=cells6 B8.out
          refine hK.out _ _ ⟨q3.1,q3.2.1,q3.2.2.1,q3.2.2.2.1,q3.2.2.2.2.1,q3.2.2.2.2.2.1,q3.2.2.2.2.2.2.1,q3.2.2.2.2.2.2.2.1,q3.2.2.2.2.2.2.2.2.1,q3.2.2.2.2.2.2.2.2.2,hlk⟩ (fun hHeld=>?_)
          clear hK K
          refine done_ (by kernel_rfl) ?_
          clear hHeld
          go_wp2_with (first|((with_reducible refine gate_store (t:=9) rfl ?_);refine sx 9 3 B8 (h:=?_);intro w9 hS hg;replace B3:=gnx B3 hg B8;clear q3;have q3:=cells10 B3.out;replace B6:=gk B6 hg NE6_8.out;clear q6;have q6:=cells6 B6.out;replace BL:=gnx BL hg B8;clear qL;have qL:=cells2 BL.out;replace HB:=gb HB hg G8;replace MM:=Aside0.mk (map_grown MM.out B8.out hg);have hlk:=hlook MM.out;replace HKL:=Aside0.mk (R_grownT HKL.out B8.out (by decide) hg);clear B8 q8 hg;have B8:=hS;clear hS;have q8:=cells6 B8.out)|((with_reducible refine gate_store (t:=44) rfl ?_);refine sx 44 0 B6 (h:=?_);intro w10 hS hg;replace B3:=gnx B3 hg B6;clear q3;have q3:=cells10 B3.out;replace BL:=gnx BL hg B6;clear qL;have qL:=cells2 BL.out;replace B8:=gk B8 hg NE8_6.out;clear q8;have q8:=cells6 B8.out;replace HB:=gb HB hg G6;replace MM:=Aside0.mk (map_grown MM.out B6.out hg);have hlk:=hlook MM.out;replace HKL:=Aside0.mk (R_grownT HKL.out B6.out (by decide) hg);clear B6 q6 hg;have B6:=hS;clear hS;have q6:=cells6 B6.out))
          refine bodyPost_ret (results_cell_row rfl _ _ g6 44 _ (0,0) _ rfl B6.out Tryz.underlying44 rfl (by kernel_rfl)) rfl ?_
          exact ⟨Av,cv,rfl,HKL.out,HB.out⟩
      · skip
        refine box_step 8 (by rfl) (by rfl) (cs:=#[.int .i64 0,.int .u8 0,.slice none 0 0,.string ⟨#[]⟩,.int .u8 0,.string ⟨#[]⟩]) (t:=44) (by first|(go_simp;done)|(go_simp;rfl)) ?_
        intro g8 hg w8 hbox hb
        have L6_:=blk_lt B6.out
        have HBo:=HB
        replace B3:=kb B3 hb
        clear q3
        have q3:=cells10 B3.out
        replace B6:=kb B6 hb
        clear q6
        have q6:=cells6 B6.out
        replace HB:=bh HB hb
        replace MM:=Aside0.mk (show MapAt Tryz.prog 4 _ gm _ from by first | exact MM.out.below hb | exact (MM.out.below (below_drew1 (Below.refl _ _))).below hb)
        have hlk:=hlook MM.out
        have B8:=Aside0.mk hbox
        have q8:=cells6 B8.out
        have NE8_6:=Aside0.mk (show g8≠g6 by rw [hg];exact fun e=>absurd L6_ (by rw [← e];exact Nat.lt_irrefl _))
        have NE6_8:=Aside0.mk (Ne.symm NE8_6.out)
        clear L6_
        have G8:=Aside0.mk (show w.heap.size≤g8 by rw [hg];first | exact below_size HBo.out | exact below_size (below_drew1 HBo.out))
        clear hbox hb hg HBo
        refine hK.out _ _ ⟨q3.1,q3.2.1,q3.2.2.1,q3.2.2.2.1,q3.2.2.2.2.1,q3.2.2.2.2.2.1,q3.2.2.2.2.2.2.1,q3.2.2.2.2.2.2.2.1,q3.2.2.2.2.2.2.2.2.1,q3.2.2.2.2.2.2.2.2.2,hlk⟩ (fun hHeld=>?_)
        clear hK K
        refine nm 8 (h:=?_)
        refine oS 9 (h:=fun K hK=>?_)
        refine slice_step 20 (by rfl) (by rfl) (cs:=#[.int .i64 2004,.int .i64 1]) (t:=3) (by first|(go_simp;done)|(go_simp;rfl)) ?_
        intro gL hg wl hbox hb
        have HBo:=HB
        replace B3:=kb B3 hb
        clear q3
        have q3:=cells10 B3.out
        replace B6:=kb B6 hb
        clear q6
        have q6:=cells6 B6.out
        replace B8:=kb B8 hb
        clear q8
        have q8:=cells6 B8.out
        replace HB:=bh HB hb
        replace MM:=Aside0.mk (show MapAt Tryz.prog 4 _ gm _ from by first | exact MM.out.below hb | exact (MM.out.below (below_drew1 (Below.refl _ _))).below hb)
        have hlk:=hlook MM.out
        have BL:=Aside0.mk hbox
        have qL:=cells2 BL.out
        have GL:=Aside0.mk (show w.heap.size≤gL by rw [hg];first | exact below_size HBo.out | exact below_size (below_drew1 HBo.out))
        clear hbox hb hg HBo
        refine hK.out _ _ ⟨q3.1,q3.2.1,q3.2.2.1,q3.2.2.2.1,q3.2.2.2.2.1,q3.2.2.2.2.2.1,q3.2.2.2.2.2.2.1,q3.2.2.2.2.2.2.2.1,q3.2.2.2.2.2.2.2.2.1,q3.2.2.2.2.2.2.2.2.2,hlk⟩ (fun hHeld=>?_)
        clear hK K
        refine nm 20 (h:=?_)
        refine oS 10 (h:=fun K hK=>?_)
        have HBo:=HB
        refine gc Tryz.func99 (num_two 63 121 (some ⟨gL,0,none⟩) 2 2004 1 _ (lit_two BL.out)) (h:=?_)
        rintro e wn ⟨Av,cv,rfl,hR,hb⟩
        refine ⟨_,rfl,?_⟩
        replace B3:=kb B3 hb
        clear q3
        have q3:=cells10 B3.out
        replace B6:=kb B6 hb
        clear q6
        have q6:=cells6 B6.out
        replace B8:=kb B8 hb
        clear q8
        have q8:=cells6 B8.out
        replace BL:=kb BL hb
        clear qL
        have qL:=cells2 BL.out
        replace HB:=bh HB hb
        replace MM:=Aside0.mk (show MapAt Tryz.prog 4 _ gm _ from by first | exact MM.out.below hb | exact (MM.out.below (below_drew1 (Below.refl _ _))).below hb)
        have hlk:=hlook MM.out
        have HKL:=Aside0.mk (Kd.R_lower hR (by first | exact below_size HBo.out | exact below_size (below_drew1 HBo.out)))
        clear hb hR HBo
        refine hK.out _ _ ⟨q3.1,q3.2.1,q3.2.2.1,q3.2.2.2.1,q3.2.2.2.2.1,q3.2.2.2.2.2.1,q3.2.2.2.2.2.2.1,q3.2.2.2.2.2.2.2.1,q3.2.2.2.2.2.2.2.2.1,q3.2.2.2.2.2.2.2.2.2,hlk⟩ (fun hHeld=>?_)
        clear hK K
        refine nm 21 (h:=?_)
        refine oN 12 (h:=fun K hK=>?_)
        refine store_step (by rfl) (by rfl) 44 (.tmp 8) (.tmp 21) (by rfl) g8 0 44 _ B8.out (by rfl) _ (by rfl) [.int .i64 1,.int .u8 63,.slice Av 2 cv,.string ⟨#[]⟩,.int .u8 121,.string ⟨#[]⟩] rfl (by kernel_rfl) (by show 0+6≤6;decide) (by simp [Value.oneCell']) #[.int .i64 1,.int .u8 63,.slice Av 2 cv,.string ⟨#[]⟩,.int .u8 121,.string ⟨#[]⟩] rfl ?_
        intro ws hS hg
        replace B3:=gnx B3 hg B8
        clear q3
        have q3:=cells10 B3.out
        replace B6:=gk B6 hg NE6_8.out
        clear q6
        have q6:=cells6 B6.out
        replace BL:=gnx BL hg B8
        clear qL
        have qL:=cells2 BL.out
        replace HB:=gb HB hg G8
        replace MM:=Aside0.mk (map_grown MM.out B8.out hg)
        have hlk:=hlook MM.out
        replace HKL:=Aside0.mk (R_grownT HKL.out B8.out (by decide) hg)
        clear B8 q8 hg
        have B8:=Aside0.mk hS
        clear hS
        have q8:=cells6 B8.out
        refine hK.out _ _ ⟨q3.1,q3.2.1,q3.2.2.1,q3.2.2.2.1,q3.2.2.2.2.1,q3.2.2.2.2.2.1,q3.2.2.2.2.2.2.1,q3.2.2.2.2.2.2.2.1,q3.2.2.2.2.2.2.2.2.1,q3.2.2.2.2.2.2.2.2.2,hlk⟩ (fun hHeld=>?_)
        clear hK K
        refine done_ (by kernel_rfl) ?_
        clear hHeld
        go_wp2_with (first|((with_reducible refine gate_store (t:=9) rfl ?_);refine sx 9 3 B8 (h:=?_);intro w9 hS hg;replace B3:=gnx B3 hg B8;clear q3;have q3:=cells10 B3.out;replace B6:=gk B6 hg NE6_8.out;clear q6;have q6:=cells6 B6.out;replace BL:=gnx BL hg B8;clear qL;have qL:=cells2 BL.out;replace HB:=gb HB hg G8;replace MM:=Aside0.mk (map_grown MM.out B8.out hg);have hlk:=hlook MM.out;replace HKL:=Aside0.mk (R_grownT HKL.out B8.out (by decide) hg);clear B8 q8 hg;have B8:=hS;clear hS;have q8:=cells6 B8.out)|((with_reducible refine gate_store (t:=44) rfl ?_);refine sx 44 0 B6 (h:=?_);intro w10 hS hg;replace B3:=gnx B3 hg B6;clear q3;have q3:=cells10 B3.out;replace B8:=gk B8 hg NE8_6.out;clear q8;have q8:=cells6 B8.out;replace BL:=gnx BL hg B6;clear qL;have qL:=cells2 BL.out;replace HB:=gb HB hg G6;replace MM:=Aside0.mk (map_grown MM.out B6.out hg);have hlk:=hlook MM.out;replace HKL:=Aside0.mk (R_grownT HKL.out B6.out (by decide) hg);clear B6 q6 hg;have B6:=hS;clear hS;have q6:=cells6 B6.out))
        refine bodyPost_ret (results_cell_row rfl _ _ g6 44 _ (0,0) _ rfl B6.out Tryz.underlying44 rfl (by kernel_rfl)) rfl ?_
        exact ⟨Av,cv,rfl,HKL.out,HB.out⟩
    · skip
      refine box_step 8 (by rfl) (by rfl) (cs:=#[.int .i64 0,.int .u8 0,.slice none 0 0,.string ⟨#[]⟩,.int .u8 0,.string ⟨#[]⟩]) (t:=44) (by first|(go_simp;done)|(go_simp;rfl)) ?_
      intro g8 hg w8 hbox hb
      have L6_:=blk_lt B6.out
      have HBo:=HB
      replace B3:=kb B3 hb
      clear q3
      have q3:=cells10 B3.out
      replace B6:=kb B6 hb
      clear q6
      have q6:=cells6 B6.out
      replace HB:=bh HB hb
      replace MM:=Aside0.mk (show MapAt Tryz.prog 4 _ gm _ from by first | exact MM.out.below hb | exact (MM.out.below (below_drew1 (Below.refl _ _))).below hb)
      have hlk:=hlook MM.out
      have B8:=Aside0.mk hbox
      have q8:=cells6 B8.out
      have NE8_6:=Aside0.mk (show g8≠g6 by rw [hg];exact fun e=>absurd L6_ (by rw [← e];exact Nat.lt_irrefl _))
      have NE6_8:=Aside0.mk (Ne.symm NE8_6.out)
      clear L6_
      have G8:=Aside0.mk (show w.heap.size≤g8 by rw [hg];first | exact below_size HBo.out | exact below_size (below_drew1 HBo.out))
      clear hbox hb hg HBo
      refine hK.out _ _ ⟨q3.1,q3.2.1,q3.2.2.1,q3.2.2.2.1,q3.2.2.2.2.1,q3.2.2.2.2.2.1,q3.2.2.2.2.2.2.1,q3.2.2.2.2.2.2.2.1,q3.2.2.2.2.2.2.2.2.1,q3.2.2.2.2.2.2.2.2.2,hlk⟩ (fun hHeld=>?_)
      clear hK K
      refine nm 8 (h:=?_)
      refine oS 8 (h:=fun K hK=>?_)
      refine gc Tryz.func250 (get_calls b0 b1 b2 b3 b5 b6 n0 n1 n2 _) (h:=?_)
      rintro e wg ⟨rfl,hb⟩
      refine ⟨_,rfl,?_⟩
      replace B3:=kb B3 hb
      clear q3
      have q3:=cells10 B3.out
      replace B6:=kb B6 hb
      clear q6
      have q6:=cells6 B6.out
      replace B8:=kb B8 hb
      clear q8
      have q8:=cells6 B8.out
      replace HB:=bh HB hb
      replace MM:=Aside0.mk (show MapAt Tryz.prog 4 _ gm _ from by first | exact MM.out.below hb | exact (MM.out.below (below_drew1 (Below.refl _ _))).below hb)
      have hlk:=hlook MM.out
      clear hb
      refine hK.out _ _ ⟨q3.1,q3.2.1,q3.2.2.1,q3.2.2.2.1,q3.2.2.2.2.1,q3.2.2.2.2.2.1,q3.2.2.2.2.2.2.1,q3.2.2.2.2.2.2.2.1,q3.2.2.2.2.2.2.2.2.1,q3.2.2.2.2.2.2.2.2.2,hlk⟩ (fun hHeld=>?_)
      clear hK K
      refine nm 19 (h:=?_)
      refine oS 9 (h:=fun K hK=>?_)
      refine slice_step 20 (by rfl) (by rfl) (cs:=#[.int .i64 2004,.int .i64 1]) (t:=3) (by first|(go_simp;done)|(go_simp;rfl)) ?_
      intro gL hg wl hbox hb
      have HBo:=HB
      replace B3:=kb B3 hb
      clear q3
      have q3:=cells10 B3.out
      replace B6:=kb B6 hb
      clear q6
      have q6:=cells6 B6.out
      replace B8:=kb B8 hb
      clear q8
      have q8:=cells6 B8.out
      replace HB:=bh HB hb
      replace MM:=Aside0.mk (show MapAt Tryz.prog 4 _ gm _ from by first | exact MM.out.below hb | exact (MM.out.below (below_drew1 (Below.refl _ _))).below hb)
      have hlk:=hlook MM.out
      have BL:=Aside0.mk hbox
      have qL:=cells2 BL.out
      have GL:=Aside0.mk (show w.heap.size≤gL by rw [hg];first | exact below_size HBo.out | exact below_size (below_drew1 HBo.out))
      clear hbox hb hg HBo
      refine hK.out _ _ ⟨q3.1,q3.2.1,q3.2.2.1,q3.2.2.2.1,q3.2.2.2.2.1,q3.2.2.2.2.2.1,q3.2.2.2.2.2.2.1,q3.2.2.2.2.2.2.2.1,q3.2.2.2.2.2.2.2.2.1,q3.2.2.2.2.2.2.2.2.2,hlk⟩ (fun hHeld=>?_)
      clear hK K
      refine nm 20 (h:=?_)
      refine oS 10 (h:=fun K hK=>?_)
      have HBo:=HB
      refine gc Tryz.func99 (num_two 63 121 (some ⟨gL,0,none⟩) 2 2004 1 _ (lit_two BL.out)) (h:=?_)
      rintro e wn ⟨Av,cv,rfl,hR,hb⟩
      refine ⟨_,rfl,?_⟩
      replace B3:=kb B3 hb
      clear q3
      have q3:=cells10 B3.out
      replace B6:=kb B6 hb
      clear q6
      have q6:=cells6 B6.out
      replace B8:=kb B8 hb
      clear q8
      have q8:=cells6 B8.out
      replace BL:=kb BL hb
      clear qL
      have qL:=cells2 BL.out
      replace HB:=bh HB hb
      replace MM:=Aside0.mk (show MapAt Tryz.prog 4 _ gm _ from by first | exact MM.out.below hb | exact (MM.out.below (below_drew1 (Below.refl _ _))).below hb)
      have hlk:=hlook MM.out
      have HKL:=Aside0.mk (Kd.R_lower hR (by first | exact below_size HBo.out | exact below_size (below_drew1 HBo.out)))
      clear hb hR HBo
      refine hK.out _ _ ⟨q3.1,q3.2.1,q3.2.2.1,q3.2.2.2.1,q3.2.2.2.2.1,q3.2.2.2.2.2.1,q3.2.2.2.2.2.2.1,q3.2.2.2.2.2.2.2.1,q3.2.2.2.2.2.2.2.2.1,q3.2.2.2.2.2.2.2.2.2,hlk⟩ (fun hHeld=>?_)
      clear hK K
      refine nm 21 (h:=?_)
      refine oN 12 (h:=fun K hK=>?_)
      refine store_step (by rfl) (by rfl) 44 (.tmp 8) (.tmp 21) (by rfl) g8 0 44 _ B8.out (by rfl) _ (by rfl) [.int .i64 1,.int .u8 63,.slice Av 2 cv,.string ⟨#[]⟩,.int .u8 121,.string ⟨#[]⟩] rfl (by kernel_rfl) (by show 0+6≤6;decide) (by simp [Value.oneCell']) #[.int .i64 1,.int .u8 63,.slice Av 2 cv,.string ⟨#[]⟩,.int .u8 121,.string ⟨#[]⟩] rfl ?_
      intro ws hS hg
      replace B3:=gnx B3 hg B8
      clear q3
      have q3:=cells10 B3.out
      replace B6:=gk B6 hg NE6_8.out
      clear q6
      have q6:=cells6 B6.out
      replace BL:=gnx BL hg B8
      clear qL
      have qL:=cells2 BL.out
      replace HB:=gb HB hg G8
      replace MM:=Aside0.mk (map_grown MM.out B8.out hg)
      have hlk:=hlook MM.out
      replace HKL:=Aside0.mk (R_grownT HKL.out B8.out (by decide) hg)
      clear B8 q8 hg
      have B8:=Aside0.mk hS
      clear hS
      have q8:=cells6 B8.out
      refine hK.out _ _ ⟨q3.1,q3.2.1,q3.2.2.1,q3.2.2.2.1,q3.2.2.2.2.1,q3.2.2.2.2.2.1,q3.2.2.2.2.2.2.1,q3.2.2.2.2.2.2.2.1,q3.2.2.2.2.2.2.2.2.1,q3.2.2.2.2.2.2.2.2.2,hlk⟩ (fun hHeld=>?_)
      clear hK K
      refine done_ (by kernel_rfl) ?_
      clear hHeld
      go_wp2_with (first|((with_reducible refine gate_store (t:=9) rfl ?_);refine sx 9 3 B8 (h:=?_);intro w9 hS hg;replace B3:=gnx B3 hg B8;clear q3;have q3:=cells10 B3.out;replace B6:=gk B6 hg NE6_8.out;clear q6;have q6:=cells6 B6.out;replace BL:=gnx BL hg B8;clear qL;have qL:=cells2 BL.out;replace HB:=gb HB hg G8;replace MM:=Aside0.mk (map_grown MM.out B8.out hg);have hlk:=hlook MM.out;replace HKL:=Aside0.mk (R_grownT HKL.out B8.out (by decide) hg);clear B8 q8 hg;have B8:=hS;clear hS;have q8:=cells6 B8.out)|((with_reducible refine gate_store (t:=44) rfl ?_);refine sx 44 0 B6 (h:=?_);intro w10 hS hg;replace B3:=gnx B3 hg B6;clear q3;have q3:=cells10 B3.out;replace B8:=gk B8 hg NE8_6.out;clear q8;have q8:=cells6 B8.out;replace BL:=gnx BL hg B6;clear qL;have qL:=cells2 BL.out;replace HB:=gb HB hg G6;replace MM:=Aside0.mk (map_grown MM.out B6.out hg);have hlk:=hlook MM.out;replace HKL:=Aside0.mk (R_grownT HKL.out B6.out (by decide) hg);clear B6 q6 hg;have B6:=hS;clear hS;have q6:=cells6 B6.out))
      refine bodyPost_ret (results_cell_row rfl _ _ g6 44 _ (0,0) _ rfl B6.out Tryz.underlying44 rfl (by kernel_rfl)) rfl ?_
      exact ⟨Av,cv,rfl,HKL.out,HB.out⟩
  · skip
    refine box_step 8 (by rfl) (by rfl) (cs:=#[.int .i64 0,.int .u8 0,.slice none 0 0,.string ⟨#[]⟩,.int .u8 0,.string ⟨#[]⟩]) (t:=44) (by first|(go_simp;done)|(go_simp;rfl)) ?_
    intro g8 hg w8 hbox hb
    have L6_:=blk_lt B6.out
    have HBo:=HB
    replace B3:=kb B3 hb
    clear q3
    have q3:=cells10 B3.out
    replace B6:=kb B6 hb
    clear q6
    have q6:=cells6 B6.out
    replace HB:=bh HB hb
    replace MM:=Aside0.mk (show MapAt Tryz.prog 4 _ gm _ from by first | exact MM.out.below hb | exact (MM.out.below (below_drew1 (Below.refl _ _))).below hb)
    have hlk:=hlook MM.out
    have B8:=Aside0.mk hbox
    have q8:=cells6 B8.out
    have NE8_6:=Aside0.mk (show g8≠g6 by rw [hg];exact fun e=>absurd L6_ (by rw [← e];exact Nat.lt_irrefl _))
    have NE6_8:=Aside0.mk (Ne.symm NE8_6.out)
    clear L6_
    have G8:=Aside0.mk (show w.heap.size≤g8 by rw [hg];first | exact below_size HBo.out | exact below_size (below_drew1 HBo.out))
    clear hbox hb hg HBo
    refine hK.out _ _ ⟨q3.1,q3.2.1,q3.2.2.1,q3.2.2.2.1,q3.2.2.2.2.1,q3.2.2.2.2.2.1,q3.2.2.2.2.2.2.1,q3.2.2.2.2.2.2.2.1,q3.2.2.2.2.2.2.2.2.1,q3.2.2.2.2.2.2.2.2.2,hlk⟩ (fun hHeld=>?_)
    clear hK K
    refine nm 8 (h:=?_)
    refine oS 4 (h:=fun K hK=>?_)
    refine gc Tryz.func217 (fact_calls 2004 _ (by decide)) (h:=?_)
    rintro e wf ⟨rfl,hb⟩
    refine ⟨_,rfl,?_⟩
    replace B3:=kb B3 hb
    clear q3
    have q3:=cells10 B3.out
    replace B6:=kb B6 hb
    clear q6
    have q6:=cells6 B6.out
    replace B8:=kb B8 hb
    clear q8
    have q8:=cells6 B8.out
    replace HB:=bh HB hb
    replace MM:=Aside0.mk (show MapAt Tryz.prog 4 _ gm _ from by first | exact MM.out.below hb | exact (MM.out.below (below_drew1 (Below.refl _ _))).below hb)
    have hlk:=hlook MM.out
    clear hb
    refine hK.out _ _ ⟨q3.1,q3.2.1,q3.2.2.1,q3.2.2.2.1,q3.2.2.2.2.1,q3.2.2.2.2.2.1,q3.2.2.2.2.2.2.1,q3.2.2.2.2.2.2.2.1,q3.2.2.2.2.2.2.2.2.1,q3.2.2.2.2.2.2.2.2.2,hlk⟩ (fun hHeld=>?_)
    clear hK K
    refine nm 15 (h:=?_)
    refine oS 8 (h:=fun K hK=>?_)
    refine gc Tryz.func250 (get_calls b0 b1 b2 b3 b5 b6 n0 n1 n2 _) (h:=?_)
    rintro e wg ⟨rfl,hb⟩
    refine ⟨_,rfl,?_⟩
    replace B3:=kb B3 hb
    clear q3
    have q3:=cells10 B3.out
    replace B6:=kb B6 hb
    clear q6
    have q6:=cells6 B6.out
    replace B8:=kb B8 hb
    clear q8
    have q8:=cells6 B8.out
    replace HB:=bh HB hb
    replace MM:=Aside0.mk (show MapAt Tryz.prog 4 _ gm _ from by first | exact MM.out.below hb | exact (MM.out.below (below_drew1 (Below.refl _ _))).below hb)
    have hlk:=hlook MM.out
    clear hb
    refine hK.out _ _ ⟨q3.1,q3.2.1,q3.2.2.1,q3.2.2.2.1,q3.2.2.2.2.1,q3.2.2.2.2.2.1,q3.2.2.2.2.2.2.1,q3.2.2.2.2.2.2.2.1,q3.2.2.2.2.2.2.2.2.1,q3.2.2.2.2.2.2.2.2.2,hlk⟩ (fun hHeld=>?_)
    clear hK K
    refine nm 19 (h:=?_)
    refine oS 9 (h:=fun K hK=>?_)
    refine slice_step 20 (by rfl) (by rfl) (cs:=#[.int .i64 2004,.int .i64 1]) (t:=3) (by first|(go_simp;done)|(go_simp;rfl)) ?_
    intro gL hg wl hbox hb
    have HBo:=HB
    replace B3:=kb B3 hb
    clear q3
    have q3:=cells10 B3.out
    replace B6:=kb B6 hb
    clear q6
    have q6:=cells6 B6.out
    replace B8:=kb B8 hb
    clear q8
    have q8:=cells6 B8.out
    replace HB:=bh HB hb
    replace MM:=Aside0.mk (show MapAt Tryz.prog 4 _ gm _ from by first | exact MM.out.below hb | exact (MM.out.below (below_drew1 (Below.refl _ _))).below hb)
    have hlk:=hlook MM.out
    have BL:=Aside0.mk hbox
    have qL:=cells2 BL.out
    have GL:=Aside0.mk (show w.heap.size≤gL by rw [hg];first | exact below_size HBo.out | exact below_size (below_drew1 HBo.out))
    clear hbox hb hg HBo
    refine hK.out _ _ ⟨q3.1,q3.2.1,q3.2.2.1,q3.2.2.2.1,q3.2.2.2.2.1,q3.2.2.2.2.2.1,q3.2.2.2.2.2.2.1,q3.2.2.2.2.2.2.2.1,q3.2.2.2.2.2.2.2.2.1,q3.2.2.2.2.2.2.2.2.2,hlk⟩ (fun hHeld=>?_)
    clear hK K
    refine nm 20 (h:=?_)
    refine oS 10 (h:=fun K hK=>?_)
    have HBo:=HB
    refine gc Tryz.func99 (num_two 63 121 (some ⟨gL,0,none⟩) 2 2004 1 _ (lit_two BL.out)) (h:=?_)
    rintro e wn ⟨Av,cv,rfl,hR,hb⟩
    refine ⟨_,rfl,?_⟩
    replace B3:=kb B3 hb
    clear q3
    have q3:=cells10 B3.out
    replace B6:=kb B6 hb
    clear q6
    have q6:=cells6 B6.out
    replace B8:=kb B8 hb
    clear q8
    have q8:=cells6 B8.out
    replace BL:=kb BL hb
    clear qL
    have qL:=cells2 BL.out
    replace HB:=bh HB hb
    replace MM:=Aside0.mk (show MapAt Tryz.prog 4 _ gm _ from by first | exact MM.out.below hb | exact (MM.out.below (below_drew1 (Below.refl _ _))).below hb)
    have hlk:=hlook MM.out
    have HKL:=Aside0.mk (Kd.R_lower hR (by first | exact below_size HBo.out | exact below_size (below_drew1 HBo.out)))
    clear hb hR HBo
    refine hK.out _ _ ⟨q3.1,q3.2.1,q3.2.2.1,q3.2.2.2.1,q3.2.2.2.2.1,q3.2.2.2.2.2.1,q3.2.2.2.2.2.2.1,q3.2.2.2.2.2.2.2.1,q3.2.2.2.2.2.2.2.2.1,q3.2.2.2.2.2.2.2.2.2,hlk⟩ (fun hHeld=>?_)
    clear hK K
    refine nm 21 (h:=?_)
    refine oN 12 (h:=fun K hK=>?_)
    refine store_step (by rfl) (by rfl) 44 (.tmp 8) (.tmp 21) (by rfl) g8 0 44 _ B8.out (by rfl) _ (by rfl) [.int .i64 1,.int .u8 63,.slice Av 2 cv,.string ⟨#[]⟩,.int .u8 121,.string ⟨#[]⟩] rfl (by kernel_rfl) (by show 0+6≤6;decide) (by simp [Value.oneCell']) #[.int .i64 1,.int .u8 63,.slice Av 2 cv,.string ⟨#[]⟩,.int .u8 121,.string ⟨#[]⟩] rfl ?_
    intro ws hS hg
    replace B3:=gnx B3 hg B8
    clear q3
    have q3:=cells10 B3.out
    replace B6:=gk B6 hg NE6_8.out
    clear q6
    have q6:=cells6 B6.out
    replace BL:=gnx BL hg B8
    clear qL
    have qL:=cells2 BL.out
    replace HB:=gb HB hg G8
    replace MM:=Aside0.mk (map_grown MM.out B8.out hg)
    have hlk:=hlook MM.out
    replace HKL:=Aside0.mk (R_grownT HKL.out B8.out (by decide) hg)
    clear B8 q8 hg
    have B8:=Aside0.mk hS
    clear hS
    have q8:=cells6 B8.out
    refine hK.out _ _ ⟨q3.1,q3.2.1,q3.2.2.1,q3.2.2.2.1,q3.2.2.2.2.1,q3.2.2.2.2.2.1,q3.2.2.2.2.2.2.1,q3.2.2.2.2.2.2.2.1,q3.2.2.2.2.2.2.2.2.1,q3.2.2.2.2.2.2.2.2.2,hlk⟩ (fun hHeld=>?_)
    clear hK K
    refine done_ (by kernel_rfl) ?_
    clear hHeld
    go_wp2_with (first|((with_reducible refine gate_store (t:=9) rfl ?_);refine sx 9 3 B8 (h:=?_);intro w9 hS hg;replace B3:=gnx B3 hg B8;clear q3;have q3:=cells10 B3.out;replace B6:=gk B6 hg NE6_8.out;clear q6;have q6:=cells6 B6.out;replace BL:=gnx BL hg B8;clear qL;have qL:=cells2 BL.out;replace HB:=gb HB hg G8;replace MM:=Aside0.mk (map_grown MM.out B8.out hg);have hlk:=hlook MM.out;replace HKL:=Aside0.mk (R_grownT HKL.out B8.out (by decide) hg);clear B8 q8 hg;have B8:=hS;clear hS;have q8:=cells6 B8.out)|((with_reducible refine gate_store (t:=44) rfl ?_);refine sx 44 0 B6 (h:=?_);intro w10 hS hg;replace B3:=gnx B3 hg B6;clear q3;have q3:=cells10 B3.out;replace B8:=gk B8 hg NE8_6.out;clear q8;have q8:=cells6 B8.out;replace BL:=gnx BL hg B6;clear qL;have qL:=cells2 BL.out;replace HB:=gb HB hg G6;replace MM:=Aside0.mk (map_grown MM.out B6.out hg);have hlk:=hlook MM.out;replace HKL:=Aside0.mk (R_grownT HKL.out B6.out (by decide) hg);clear B6 q6 hg;have B6:=hS;clear hS;have q6:=cells6 B6.out))
    refine bodyPost_ret (results_cell_row rfl _ _ g6 44 _ (0,0) _ rfl B6.out Tryz.underlying44 rfl (by kernel_rfl)) rfl ?_
    exact ⟨Av,cv,rfl,HKL.out,HB.out⟩
end Go.Proofs.YthjacokachgmfaaGreatDoor.H
end
