import Derived.Test.YthjacokachgmfaaGreatDoorT04
import Derived.Test.YthjacokachgmfaaGreatDoorT20
import Derived.Test.YthjacokachgmfaaGreatDoorT25
import Derived.Test.YthjacokachgmfaaGreatDoorT29
set_option linter.unusedVariables false
set_option linter.unusedSimpArgs false
section
namespace Go.Proofs.YthjacokachgmfaaGreatDoor.H
open Go Go.RowKit Go.Maps Go.ChangeMaps YthjacokachgmfaaGreatDoorW.PrintWords YthjacokachgmfaaGreatDoorW.PrintLast YthjacokachgmfaaGreatDoorW.PrintMore
open Ev
set_option maxRecDepth 100000
theorem clears_calls (w:World):Calls Tryz.prog 90 #[.int .i64 11] w fun e w'=>e=.returned (.bool true)∧Below w.heap.size w w':=by
  go_enter Tryz.func90,Tryz.ntmps90
  go_wp2
  go_ret
  exact ⟨by first | rfl | kernel_rfl,Below.refl _ _⟩
theorem bkey1_calls (g4 g5:Nat) (w:World) (h4:w.heap[g4]?=some (.cells #[.int .i64 11] 3 (0,0))) (h5:w.heap[g5]?=some (.cells #[.int .i64 97,.int .i64 0,.int .i64 1,.int .i64 0,.int .i64 0,.string ⟨#[]⟩] 35 (0,0))) (hp:Pow w) :
    Calls Tryz.prog 86 #[.pointer (some ⟨g4,0,none⟩),.pointer (some ⟨g5,0,none⟩)] w fun e w'=>∃ v,e=.returned v∧OwnB w w' v [27,91,57,55,117]∧Below w.heap.size w w':=by
  have HP:=Aside0.mk hp
  have q4:=cells1 h4
  obtain ⟨q0,q1,q2,q3,q5,q6⟩:=cells6 h5
  clear h4 h5 hp
  go_enter Tryz.func86,Tryz.ntmps86
  go_wp2_with (first|(go_at_call 13;refine (key97_11 w HP.out).mono ?_;rintro e w1 ⟨v,rfl,hv,hb⟩))
  go_ret
  exact ⟨v,rfl,hv,hb⟩
set_option maxHeartbeats 8000000 in
theorem board_calls (b0 b1 b2 b3 b4 b6:Bool) (n0 n1 n2:Int) (w:World) (hp:Pow w) :
    Calls Tryz.prog 49 #[.agg #[.bool b0,.bool b1,.bool b2,.bool b3,.bool b4,.bool false,.bool b6,.int .i64 n0,.int .i64 n1,.int .i64 n2],.int .i64 11,.agg #[.int .i64 97,.int .i64 0,.int .i64 1,.int .i64 0,.int .i64 0,.string ⟨#[]⟩]] w fun e w'=>∃ v,e=.returned v∧OwnB w w' v [27,91,57,55,117]∧Below w.heap.size w w':=by
  have HP:=Aside0.mk hp
  clear hp
  have HB:=Aside0.mk (Below.refl w.heap.size w)
  go_enter Tryz.func49,Tryz.ntmps49
  go_wp2_with (first|(refine bx 3 #[.bool b0,.bool b1,.bool b2,.bool b3,.bool b4,.bool false,.bool b6,.int .i64 n0,.int .i64 n1,.int .i64 n2] 32 (h:=?_);intro g3 hg w1 hbox hb;have HBo:=HB;replace HB:=bh HB hb;have B3:=Aside0.mk hbox;have q3:=cells10 B3.out;have G3:=gG HBo hg;clear hbox hb hg HBo)|(refine bx 4 #[.int .i64 11] 3 (h:=?_);intro g4 hg w2 hbox hb;have HBo:=HB;replace B3:=kb B3 hb;clear q3;have q3:=cells10 B3.out;replace HB:=bh HB hb;have B4:=Aside0.mk hbox;have q4_0:=cells1 B4.out;have G4:=gG HBo hg;clear hbox hb hg HBo)|(refine bx 5 #[.int .i64 97,.int .i64 0,.int .i64 1,.int .i64 0,.int .i64 0,.string ⟨#[]⟩] 35 (h:=?_);intro g5 hg w3 hbox hb;have HBo:=HB;replace B3:=kb B3 hb;clear q3;have q3:=cells10 B3.out;replace B4:=kb B4 hb;clear q4_0;have q4_0:=cells1 B4.out;replace HB:=bh HB hb;have B5:=Aside0.mk hbox;have q5:=cells6 B5.out;have G5:=gG HBo hg;clear hbox hb hg HBo)|((with_reducible refine gate_dst (N:=10) rfl ?_);refine make_ev (k:=4) (t:=151) rfl 10 rfl rfl ?hr ?_;(case hr=>first|(go_simp;done)|(go_simp;rfl));intro gm hgm w4 hM hb;have HBo:=HB.out;replace B3:=kb B3 hb;clear q3;have q3:=cells10 B3.out;replace B4:=kb B4 hb;clear q4_0;have q4_0:=cells1 B4.out;replace B5:=kb B5 hb;clear q5;have q5:=cells6 B5.out;replace HB:=bh HB hb;have MM:=Aside0.mk hM;have GM:=Aside0.mk (show w.heap.size≤gm by rw [hgm];exact below_size HBo);clear hM hb hgm HBo)|((with_reducible refine gate_ (.insert 151 (.tmp 10) (.const (.bool true)) (.tmp 11)) rfl ?_);refine put_ev (X:=.bool true) (V:=.func (.func 86) #[] #[.pointer (some ⟨g4,0,none⟩),.pointer (some ⟨g5,0,none⟩)]) rfl rfl (.tmp 10) (.const (.bool true)) (.tmp 11) rfl (bool_keyed Tryz.underlying4) Tryz.underlying151 rfl rfl rfl MM.out (keyOf_bool_mk Tryz.underlying4 true) (fun p hp=>by cases hp) ?_;intro w5 hM hg;replace B3:=Aside0.mk (blk_mapGrown B3.out MM.out hg);clear q3;have q3:=cells10 B3.out;replace B4:=Aside0.mk (blk_mapGrown B4.out MM.out hg);clear q4_0;have q4_0:=cells1 B4.out;replace B5:=Aside0.mk (blk_mapGrown B5.out MM.out hg);clear q5;have q5:=cells6 B5.out;replace HB:=gb HB hg GM;clear MM;have MM:=Aside0.mk hM;clear hM hg)|((with_reducible refine gate_ (.insert 151 (.tmp 10) (.const (.bool false)) (.tmp 12)) rfl ?_);refine put_ev (X:=.bool false) (V:=.func (.func 87) #[] #[.pointer (some ⟨g3,0,none⟩),.pointer (some ⟨g5,0,none⟩)]) rfl rfl (.tmp 10) (.const (.bool false)) (.tmp 12) rfl (bool_keyed Tryz.underlying4) Tryz.underlying151 rfl rfl rfl MM.out (keyOf_bool_mk Tryz.underlying4 false) (by intro p hp;simp only [List.nil_append,List.cons_append,List.mem_cons,List.not_mem_nil,or_false] at hp;subst hp;simp) ?_;intro w5 hM hg;replace B3:=Aside0.mk (blk_mapGrown B3.out MM.out hg);clear q3;have q3:=cells10 B3.out;replace B4:=Aside0.mk (blk_mapGrown B4.out MM.out hg);clear q4_0;have q4_0:=cells1 B4.out;replace B5:=Aside0.mk (blk_mapGrown B5.out MM.out hg);clear q5;have q5:=cells6 B5.out;replace HB:=gb HB hg GM;clear MM;have MM:=Aside0.mk hM;clear hM hg)|((with_reducible refine gate_dst (N:=17) rfl ?_);refine Kd.event_run rfl (run_lookup_op rfl rfl rfl (MM.out.look (bool_keyed Tryz.underlying4) Tryz.underlying151 (x:=.bool true) (v:=.func (.func 86) #[] #[.pointer (some ⟨g4,0,none⟩),.pointer (some ⟨g5,0,none⟩)]) (keyOf_bool_mk Tryz.underlying4 true) (by simp) (by intro p hp;simp only [List.nil_append,List.cons_append,List.mem_cons,List.not_mem_nil,or_false] at hp;rcases hp with rfl | rfl<;>simp))) ?_)|(go_at_call 90;refine (clears_calls _).mono ?_;rintro e w6 ⟨rfl,hb⟩;replace B3:=kb B3 hb;clear q3;have q3:=cells10 B3.out;replace B4:=kb B4 hb;clear q4_0;have q4_0:=cells1 B4.out;replace B5:=kb B5 hb;clear q5;have q5:=cells6 B5.out;replace HB:=bh HB hb;replace MM:=Aside0.mk (MM.out.below hb);clear hb)|(go_at_call 86;refine (bkey1_calls _ _ _ B4.out B5.out (HP.out.below HB.out)).mono ?_;rintro e w7 ⟨v,rfl,hv,hb⟩;have HB_:=Aside0.mk (below_step HB.out hb);have HB6:=HB;clear HB;have HB:=HB_;clear HB_))
  go_ret
  exact ⟨v,rfl,OwnB.low hv HB6.out.size,HB.out⟩
set_option maxHeartbeats 8000000 in
theorem ekey_calls (b0 b1 b2 b3 b4 b6:Bool) (n0 n1 n2:Int) (p1 kp:Value) (m0 m1 m2 m3 m4:Int) (sin:Bool) (data:ByteArray) (sn:Int) (ge gq:Nat) (x:QS) (w0 w:World) (hB0:Below w0.heap.size w0 w) (hp:Pow w0) (he:w.heap[ge]?=some (.cells #[.pointer (some ⟨gq,0,none⟩),p1,.bool b0,.bool b1,.bool b2,.bool b3,.bool b4,.bool false,.bool b6,.int .i64 n0,.int .i64 n1,.int .i64 n2,.int .u8 0,.int .u8 0,.int .u8 0,.int .u8 0,.int .u8 0,.int .u8 0,.int .u8 0,.int .u8 0,.int .u8 0,.int .u8 0,.int .u8 0,.int .u8 0,.int .i64 11,kp,.int .i64 0,.int .i64 0,.int .i64 0,.int .i64 0,.int .i64 0,.int .i64 0,.int .i64 0,.int .i64 0,.int .i64 0,.bool false,.bool false,.bool false,.bool false,.bool false,.bool false,.bool false,.int .i64 0,.int .i64 0,.int .i64 0,.int .i64 0,.int .i64 0] 74 (0,0)))
    (hq:QuE w w0.heap.size gq x) (hn:(x.bs.length:Int)+([27,91,57,55,117]:List UInt8).length≤x.room) (hr:x.room≤65536) :
    Calls Tryz.prog 19 #[.pointer (some ⟨ge,0,none⟩),.agg #[.int .i64 1,.int .i64 97,.int .i64 0,.int .i64 1,.int .i64 0,.int .i64 0,.string ⟨#[]⟩,.int .i64 m0,.int .i64 m1,.int .i64 m2,.int .i64 m3,.int .i64 m4,.bool sin,.string data,.int .i64 0,.int .i64 0,.int .i64 0,.int .i64 0,.int .i64 0,.int .i64 0,.int .i64 0,.int .i64 0,.int .i64 0,.bool false,.bool false,.bool false,.bool false,.bool false,.bool false,.bool false,.int .i64 0,.int .i64 0,.int .i64 0,.int .i64 sn]] w fun e w'=>e=.returned (.slice none 0 0)∧w'.heap[ge]?=some (.cells #[.pointer (some ⟨gq,0,none⟩),p1,.bool b0,.bool b1,.bool b2,.bool b3,.bool b4,.bool false,.bool b6,.int .i64 n0,.int .i64 n1,.int .i64 n2,.int .u8 0,.int .u8 0,.int .u8 0,.int .u8 0,.int .u8 0,.int .u8 0,.int .u8 0,.int .u8 0,.int .u8 0,.int .u8 0,.int .u8 0,.int .u8 0,.int .i64 11,kp,.int .i64 0,.int .i64 0,.int .i64 0,.int .i64 0,.int .i64 0,.int .i64 0,.int .i64 0,.int .i64 0,.int .i64 0,.bool false,.bool false,.bool false,.bool false,.bool false,.bool false,.bool false,.int .i64 0,.int .i64 0,.int .i64 0,.int .i64 0,.int .i64 0] 74 (0,0))∧QuE w' w0.heap.size gq ⟨x.bs++nat8 [27,91,57,55,117],x.room,x.dr⟩∧Below w0.heap.size w0 w':=by
  have HP:=Aside0.mk hp
  have HN:=Aside0.mk hn
  have HR:=Aside0.mk hr
  have HQ:=Aside0.mk hq
  have Be:=Aside0.mk he
  have HB:=Aside0.mk hB0
  clear hp hn hr hq he hB0
  have qe:=cells47 Be.out
  go_enter Tryz.func19,Tryz.ntmps19
  go_wp2_with (first|(refine bx 3 #[.int .i64 1,.int .i64 97,.int .i64 0,.int .i64 1,.int .i64 0,.int .i64 0,.string ⟨#[]⟩,.int .i64 m0,.int .i64 m1,.int .i64 m2,.int .i64 m3,.int .i64 m4,.bool sin,.string data,.int .i64 0,.int .i64 0,.int .i64 0,.int .i64 0,.int .i64 0,.int .i64 0,.int .i64 0,.int .i64 0,.int .i64 0,.bool false,.bool false,.bool false,.bool false,.bool false,.bool false,.bool false,.int .i64 0,.int .i64 0,.int .i64 0,.int .i64 sn] 39 (h:=?_);intro g3 hg w1 hbox hb;have HBo:=HB;replace Be:=kb Be hb;clear qe;have qe:=cells47 Be.out;replace HB:=bh HB hb;replace HQ:=Aside0.mk (HQ.out.below (by first | exact hb | exact below_step (below_drew1 (Below.refl _ _)) hb));have B3:=Aside0.mk hbox;have q3:=cells34 B3.out;have G3:=gG HBo hg;clear hbox hb hg HBo))
  refine st 17 (fun w'=>w'.cell? ⟨ge,2,none⟩=some (.bool b0)∧w'.cell? ⟨ge,3,none⟩=some (.bool b1)∧w'.cell? ⟨ge,4,none⟩=some (.bool b2)∧w'.cell? ⟨ge,5,none⟩=some (.bool b3)∧w'.cell? ⟨ge,6,none⟩=some (.bool b4)∧w'.cell? ⟨ge,7,none⟩=some (.bool false)∧w'.cell? ⟨ge,8,none⟩=some (.bool b6)∧w'.cell? ⟨ge,9,none⟩=some (.int .i64 n0)∧w'.cell? ⟨ge,10,none⟩=some (.int .i64 n1)∧w'.cell? ⟨ge,11,none⟩=some (.int .i64 n2)∧w'.cell? ⟨ge,24,none⟩=some (.int .i64 11)∧w'.cell? ⟨g3,1,none⟩=some (.int .i64 97)∧w'.cell? ⟨g3,2,none⟩=some (.int .i64 0)∧w'.cell? ⟨g3,3,none⟩=some (.int .i64 1)∧w'.cell? ⟨g3,4,none⟩=some (.int .i64 0)∧w'.cell? ⟨g3,5,none⟩=some (.int .i64 0)∧w'.cell? ⟨g3,6,none⟩=some (.string ⟨#[]⟩)) [] (hS:=⟨qe.2.2.1,qe.2.2.2.1,qe.2.2.2.2.1,qe.2.2.2.2.2.1,qe.2.2.2.2.2.2.1,qe.2.2.2.2.2.2.2.1,qe.2.2.2.2.2.2.2.2.1,qe.2.2.2.2.2.2.2.2.2.1,qe.2.2.2.2.2.2.2.2.2.2.1,qe.2.2.2.2.2.2.2.2.2.2.2.1,qe.2.2.2.2.2.2.2.2.2.2.2.2.2.2.2.2.2.2.2.2.2.2.2.2.1,q3.2.1,q3.2.2.1,q3.2.2.2.1,q3.2.2.2.2.1,q3.2.2.2.2.2.1,q3.2.2.2.2.2.2.1⟩) (h:=fun hHeld=>?_)
  refine pu 0 (h:=?_)
  refine pu 1 (h:=?_)
  refine pu 2 (h:=?_)
  refine pu 3 (h:=?_)
  refine pu 4 (h:=?_)
  refine pu 6 (h:=?_)
  refine pu 7 (h:=?_)
  refine pu 8 (h:=?_)
  refine pu 9 (h:=?_)
  refine pu 10 (h:=?_)
  refine pu 12 (h:=?_)
  refine tk 5 hHeld (h:=?_)
  refine tk 11 hHeld (h:=?_)
  refine tk 13 hHeld (h:=?_)
  refine oS 14 (h:=fun K hK=>?_)
  have HB1:=Aside0.mk HB.out
  have HQ1:=HQ
  refine gc Tryz.func49 (board_calls b0 b1 b2 b3 b4 b6 n0 n1 n2 _ (HP.out.below (by first | exact HB.out | exact below_drew1 HB.out))) (h:=?_)
  rintro e w2 ⟨v,rfl,hv,hb⟩
  refine ⟨_,rfl,?_⟩
  replace Be:=kb Be hb
  clear qe
  have qe:=cells47 Be.out
  replace B3:=kb B3 hb
  clear q3
  have q3:=cells34 B3.out
  replace HB:=bh HB hb
  replace HQ:=Aside0.mk (HQ.out.below (by first | exact hb | exact below_step (below_drew1 (Below.refl _ _)) hb))
  have HV:=Aside0.mk hv
  have HB2:=Aside0.mk hb
  clear hv
  clear hb
  refine hK.out _ _ ⟨qe.2.2.1,qe.2.2.2.1,qe.2.2.2.2.1,qe.2.2.2.2.2.1,qe.2.2.2.2.2.2.1,qe.2.2.2.2.2.2.2.1,qe.2.2.2.2.2.2.2.2.1,qe.2.2.2.2.2.2.2.2.2.1,qe.2.2.2.2.2.2.2.2.2.2.1,qe.2.2.2.2.2.2.2.2.2.2.2.1,qe.2.2.2.2.2.2.2.2.2.2.2.2.2.2.2.2.2.2.2.2.2.2.2.2.1,q3.2.1,q3.2.2.1,q3.2.2.2.1,q3.2.2.2.2.1,q3.2.2.2.2.2.1,q3.2.2.2.2.2.2.1⟩ (fun hHeld=>?_)
  clear hK K
  refine nm 19 (h:=?_)
  refine oS 15 (h:=fun K hK=>?_)
  refine gc Tryz.func48 (send_own w0 _ _ ge gq _ x v [27,91,57,55,117] (below_drew1 HB1.out) HB2.out Be.out (HQ1.out.below (below_drew1 (Below.refl _ _))) HV.out (by decide) HN.out HR.out) (h:=?_)
  rintro e w3 ⟨rfl,hq,hk,hb⟩
  refine ⟨_,rfl,?_⟩
  replace Be:=Aside0.mk (hk.blk Be.out (by decide) (by decide))
  clear qe q3
  replace B3:=Aside0.mk (hk.blk B3.out (by decide) (by decide))
  have qe:=cells47 Be.out
  have q3:=cells34 B3.out
  clear HQ HB
  have HQ:=Aside0.mk hq
  have HB:=Aside0.mk hb
  have HKT:=Aside0.mk hk
  clear hq hb hk
  refine hK.out _ _ ⟨qe.2.2.1,qe.2.2.2.1,qe.2.2.2.2.1,qe.2.2.2.2.2.1,qe.2.2.2.2.2.2.1,qe.2.2.2.2.2.2.2.1,qe.2.2.2.2.2.2.2.2.1,qe.2.2.2.2.2.2.2.2.2.1,qe.2.2.2.2.2.2.2.2.2.2.1,qe.2.2.2.2.2.2.2.2.2.2.2.1,qe.2.2.2.2.2.2.2.2.2.2.2.2.2.2.2.2.2.2.2.2.2.2.2.2.1,q3.2.1,q3.2.2.1,q3.2.2.2.1,q3.2.2.2.2.1,q3.2.2.2.2.2.1,q3.2.2.2.2.2.2.1⟩ (fun hHeld=>?_)
  clear hK K
  refine nm 20 (h:=?_)
  refine pu 16 (h:=?_)
  refine done_ (by kernel_rfl) ?_
  clear hHeld
  go_wp2
  go_ret
  exact ⟨rfl,Be.out,HQ.out,HB.out⟩
end Go.Proofs.YthjacokachgmfaaGreatDoor.H
end
