import Derived.Test.YthjacokachgmfaaGreatDoorT04
import Derived.Test.YthjacokachgmfaaGreatDoorT20
import Derived.Test.YthjacokachgmfaaGreatDoorT25
import Derived.Test.YthjacokachgmfaaGreatDoorT35
import Derived.Test.YthjacokachgmfaaGreatDoorT36
set_option linter.unusedVariables false
set_option linter.unusedSimpArgs false
section
namespace Go.Proofs.YthjacokachgmfaaGreatDoor.H
open Go Go.RowKit Go.Maps Go.ChangeMaps YthjacokachgmfaaGreatDoorW.PrintWords YthjacokachgmfaaGreatDoorW.PrintLast YthjacokachgmfaaGreatDoorW.PrintMore
open Ev
set_option maxRecDepth 100000
theorem nil_cmp {o:Oper} {a:Act} {W:World} {x:Operand} {f:Fn} {b c:Array Value} (ho:o.op=.binOp .eql 163 x (.const .nilFunc) 163) (hx:a.eval x=.func f b c):(execOp a.eval o).run Tryz.prog W=.ok (.value (.bool false)) W:=by
  unfold execOp
  rw [ho]
  simp only [hx]
  rfl
theorem nodup_fst {α β:Type}:∀ {L:List (α × β)},(L.map (·.1)).Nodup→∀ {p q:α × β},p∈L→q∈L→p.1=q.1→p=q
  | [],_,_,_,hp,_,_=>by cases hp
  | x :: L,h,p,q,hp,hq,e=>by
    rw [List.map_cons,List.nodup_cons] at h
    rcases List.mem_cons.1 hp with h1 | hp<;>rcases List.mem_cons.1 hq with h2 | hq
    · rw [h1,h2]
    · exact absurd (List.mem_map.2 ⟨q,hq,by rw [← e,h1]⟩) h.1
    · exact absurd (List.mem_map.2 ⟨p,hp,by rw [e,h2]⟩) h.1
    · exact nodup_fst h.2 hp hq e
theorem table_look {q:Nat × (Int × Int × List UInt8 × Int) × Operand} (hq:q∈tab) (f:FuncId) (hf:q.2.2=.func f) (w:World) :
    Calls Tryz.prog 109 #[] w fun e w'=>(∃ g:Nat,e=.returned (.map (some g))∧∀ W,Below w'.heap.size w' W→(Instr.lookup 164 (.map (some g)) (akv q.2.1) false).run Tryz.prog W=.ok (.func (.func f) #[] #[]) W)∧Below w.heap.size w w':=by
  refine (table_calls w).mono ?_
  rintro e w' ⟨g,L,rfl,hg,hM,hT,hN,hO,hb⟩
  refine ⟨⟨g,rfl,fun W hW=>?_⟩,hb⟩
  obtain ⟨v,hv,hvf⟩:=hT q hq
  obtain ⟨lx,hlx⟩:=Option.isSome_iff_exists.1 (tab_keys q hq)
  have hve:=hvf f hf
  subst hve
  refine (hM.below hW).look ask_keyed hmapt hlx (List.mem_map.2 ⟨_,hv,rfl⟩) ?_
  intro p hp he
  obtain ⟨p0,hp0,rfl⟩:=List.mem_map.1 hp
  have e1:p0.1=q.2.1:=akv_inj he
  exact congrArg Prod.snd (show p0=(q.2.1,_) from nodup_fst hN hp0 hv e1)
set_option maxHeartbeats 8000000 in
theorem do_set (b0 b1 b2 b3 b4 b5 b6:Bool) (n0 n1 n2 now:Int) (kA:Option Addr) (kn kc:Nat) (pA:Option Addr) (pc:Nat) (w:World) (hC:Kd.C kli w pA 1 [[2004]]) :
    Calls Tryz.prog 55 #[.agg #[.bool b0,.bool b1,.bool b2,.bool b3,.bool b4,.bool b5,.bool b6,.int .i64 n0,.int .i64 n1,.int .i64 n2,.int .u8 0,.int .u8 0,.int .u8 0,.int .u8 0,.int .u8 0,.int .u8 0,.int .u8 0,.int .u8 0,.int .u8 0,.int .u8 0,.int .u8 0,.int .u8 0,.int .i64 now,.slice kA kn kc],.agg #[.int .i64 0,.int .i64 0,.int .i64 0,.int .i64 0,.int .i64 0,.int .i64 0,.int .i64 0,.int .i64 0,.int .i64 0,.bool false,.bool false,.bool false,.bool false,.bool false,.bool false,.bool false,.int .i64 0,.int .i64 0,.int .i64 0],.agg #[.int .i64 1,.int .u8 63,.slice pA 1 pc,.string ⟨#[]⟩,.int .u8 104,.string ⟨#[]⟩]] w fun e w'=>∃ (_:Unit),e=.returned (.tuple #[.agg #[.bool b0,.bool b1,.bool b2,.bool b3,.bool true,.bool b5,.bool b6,.int .i64 n0,.int .i64 n1,.int .i64 n2,.int .u8 0,.int .u8 0,.int .u8 0,.int .u8 0,.int .u8 0,.int .u8 0,.int .u8 0,.int .u8 0,.int .u8 0,.int .u8 0,.int .u8 0,.int .u8 0,.int .i64 now,.slice kA kn kc],.slice none 0 0,.bool true])∧Below w.heap.size w w':=by
  have HC:=Aside0.mk hC
  clear hC
  have HB:=Aside0.mk (Below.refl w.heap.size w)
  go_enter Tryz.func55,Tryz.ntmps55
  go_wp2_with (first|(refine bx 3 #[.bool b0,.bool b1,.bool b2,.bool b3,.bool b4,.bool b5,.bool b6,.int .i64 n0,.int .i64 n1,.int .i64 n2,.int .u8 0,.int .u8 0,.int .u8 0,.int .u8 0,.int .u8 0,.int .u8 0,.int .u8 0,.int .u8 0,.int .u8 0,.int .u8 0,.int .u8 0,.int .u8 0,.int .i64 now,.slice kA kn kc] 70 (h:=?_);intro g3 hg w1 hbox hb;have HBo:=HB;replace HB:=bh HB hb;have B3:=Aside0.mk hbox;have q3:=cells24 B3.out;have G3:=gG HBo hg;clear hbox hb hg HBo)|(refine bx 4 #[.int .i64 0,.int .i64 0,.int .i64 0,.int .i64 0,.int .i64 0,.int .i64 0,.int .i64 0,.int .i64 0,.int .i64 0,.bool false,.bool false,.bool false,.bool false,.bool false,.bool false,.bool false,.int .i64 0,.int .i64 0,.int .i64 0] 26 (h:=?_);intro g4 hg w2 hbox hb;have HBo:=HB;replace B3:=kb B3 hb;clear q3;have q3:=cells24 B3.out;replace HB:=bh HB hb;have B4:=Aside0.mk hbox;have q4:=cells19 B4.out;have G4:=gG HBo hg;clear hbox hb hg HBo)|(refine bx 5 #[.int .i64 1,.int .u8 63,.slice pA 1 pc,.string ⟨#[]⟩,.int .u8 104,.string ⟨#[]⟩] 44 (h:=?_);intro g5 hg w3 hbox hb;have HBo:=HB;replace B3:=kb B3 hb;clear q3;have q3:=cells24 B3.out;replace B4:=kb B4 hb;clear q4;have q4:=cells19 B4.out;replace HB:=bh HB hb;have B5:=Aside0.mk hbox;have q5:=cells6 B5.out;have G5:=gG HBo hg;clear hbox hb hg HBo)|(refine bx 6 #[.bool false,.bool false,.bool false,.bool false,.bool false,.bool false,.bool false,.int .i64 0,.int .i64 0,.int .i64 0,.int .u8 0,.int .u8 0,.int .u8 0,.int .u8 0,.int .u8 0,.int .u8 0,.int .u8 0,.int .u8 0,.int .u8 0,.int .u8 0,.int .u8 0,.int .u8 0,.int .i64 0,.slice none 0 0] 70 (h:=?_);intro g6 hg w4 hbox hb;have HBo:=HB;have L3_:=blk_lt B3.out;replace B3:=kb B3 hb;clear q3;have q3:=cells24 B3.out;replace B4:=kb B4 hb;clear q4;have q4:=cells19 B4.out;replace B5:=kb B5 hb;clear q5;have q5:=cells6 B5.out;replace HB:=bh HB hb;have B6:=Aside0.mk hbox;have q6:=cells24 B6.out;have G6:=gG HBo hg;have NE6_3:=Aside0.mk (show g6≠g3 by omega);have NE3_6:=Aside0.mk (Ne.symm NE6_3.out);clear L3_;clear hbox hb hg HBo))
  refine st 12 (fun w'=>w'.cell? ⟨g5,0,none⟩=some (.int .i64 1)∧w'.cell? ⟨g5,1,none⟩=some (.int .u8 63)∧w'.cell? ⟨g5,3,none⟩=some (.string ⟨#[]⟩)∧w'.cell? ⟨g5,4,none⟩=some (.int .u8 104)) [] (hS:=⟨q5.1,q5.2.1,q5.2.2.2.1,q5.2.2.2.2.1⟩) (h:=fun hHeld=>?_)
  refine pu 1 (h:=?_)
  refine pu 3 (h:=?_)
  refine pu 5 (h:=?_)
  refine pu 7 (h:=?_)
  refine tk 2 hHeld (h:=?_)
  refine tk 4 hHeld (h:=?_)
  refine tk 6 hHeld (h:=?_)
  refine tk 8 hHeld (h:=?_)
  refine pu 9 (h:=?_)
  refine oS 0 (h:=fun K hK=>?_)
  refine gc Tryz.func109 (table_look (q:=(6,(1,63,[],104),.func 149)) (List.mem_of_getElem? (i:=2) (by kernel_rfl)) 149 rfl _) (h:=?_)
  rintro e w5 ⟨⟨gt,rfl,hT⟩,hb⟩
  refine ⟨_,rfl,?_⟩
  replace B3:=kb B3 hb
  clear q3
  have q3:=cells24 B3.out
  replace B4:=kb B4 hb
  clear q4
  have q4:=cells19 B4.out
  replace B5:=kb B5 hb
  clear q5
  have q5:=cells6 B5.out
  replace B6:=kb B6 hb
  clear q6
  have q6:=cells24 B6.out
  replace HB:=bh HB hb
  have HLT:=Aside0.mk hT
  clear hT
  clear hb
  refine hK.out _ _ ⟨q5.1,q5.2.1,q5.2.2.2.1,q5.2.2.2.2.1⟩ (fun hHeld=>?_)
  clear hK K
  refine nm 11 (h:=?_)
  refine oS 10 (h:=fun K hK=>?_)
  refine value_ (w1:=w5) (v:=.func (.func 149) #[] #[]) (by rfl) rfl (run_lookup_op rfl rfl (by rfl) (HLT.out w5 (Below.refl _ _))) ?_
  refine hK.out _ _ ⟨q5.1,q5.2.1,q5.2.2.2.1,q5.2.2.2.2.1⟩ (fun hHeld=>?_)
  clear hK K
  refine nm 21 (h:=?_)
  refine pu 11 (h:=?_)
  refine done_ (by kernel_rfl) ?_
  clear hHeld
  go_wp2_with (first|((with_reducible refine gate_dst (N:=29) rfl ?_);refine off_ev (by kernel_rfl) ?_)|((with_reducible refine gate_dst (N:=30) rfl ?_);refine off_ev (by kernel_rfl) ?_)|((with_reducible refine gate_dst (N:=31) rfl ?_);refine off_ev (by kernel_rfl) ?_)|((with_reducible refine gate_dst (N:=32) rfl ?_);refine off_ev (by kernel_rfl) ?_)|((with_reducible refine gate_dst (N:=37) rfl ?_);refine lx 26 0 19 B4 Tryz.underlying26 (h:=?_))|((with_reducible refine gate_dst (N:=38) rfl ?_);refine load_ev rfl 44 _ rfl g5 0 rfl B5.out [.int .i64 1,.int .u8 63,.slice pA 1 pc,.string ⟨#[]⟩,.int .u8 104,.string ⟨#[]⟩] rfl _ Tryz.underlying44 rfl (by kernel_rfl) ?_)|(go_at_call 149;refine (aset_calls b0 b1 b2 b3 b4 b5 b6 n0 n1 n2 now kA kn kc ⟨#[]⟩ ⟨#[]⟩ pA pc g3 w _ HB.out G3.out B3.out HC.out).mono ?_;rintro e w6 ⟨rfl,hs3,hb,hk⟩;have B6_:=Aside0.mk ((hk.2 g6 (blk_lt B6.out) NE6_3.out).trans B6.out);clear B3 q3 B4 q4 B5 q5 B6 q6 HB;have HB:=Aside0.mk hb;have B3:=Aside0.mk hs3;have B6:=B6_;clear B6_ hs3 hb hk;have q3:=cells24 B3.out;have q6:=cells24 B6.out)|((with_reducible refine gate_dst (N:=40) rfl ?_);refine lx 70 0 24 B3 Tryz.underlying70 (h:=?_))|((with_reducible refine gate_store (t:=70) rfl ?_);refine sx 70 0 B6 (h:=?_);intro w7 hS hg;replace B3:=gk B3 hg NE3_6.out;clear q3;have q3:=cells24 B3.out;replace HB:=gb HB hg G6;clear B6 q6 hg;have B6:=hS;clear hS;have q6:=cells24 B6.out)|((with_reducible refine gate_dst (N:=23) rfl ?_);refine Kd.event_run rfl (nil_cmp rfl rfl) ?_))
  refine bodyPost_ret (results_ctt rfl _ _ g6 70 _ (0,0) _ rfl B6.out Tryz.underlying70 rfl (by kernel_rfl)) rfl ?_
  exact ⟨(),rfl,HB.out⟩
set_option maxHeartbeats 8000000 in
theorem do_mode (b0 b1 b2 b3 b5 b6:Bool) (n0 n1 n2 now:Int) (kA:Option Addr) (kn kc:Nat) (pA:Option Addr) (pc:Nat) (w:World) (hC:Kd.C kli w pA 1 [[2004]]) :
    Calls Tryz.prog 55 #[.agg #[.bool b0,.bool b1,.bool b2,.bool b3,.bool true,.bool b5,.bool b6,.int .i64 n0,.int .i64 n1,.int .i64 n2,.int .u8 0,.int .u8 0,.int .u8 0,.int .u8 0,.int .u8 0,.int .u8 0,.int .u8 0,.int .u8 0,.int .u8 0,.int .u8 0,.int .u8 0,.int .u8 0,.int .i64 now,.slice kA kn kc],.agg #[.int .i64 0,.int .i64 0,.int .i64 0,.int .i64 0,.int .i64 0,.int .i64 0,.int .i64 0,.int .i64 0,.int .i64 0,.bool false,.bool false,.bool false,.bool false,.bool false,.bool false,.bool false,.int .i64 0,.int .i64 0,.int .i64 0],.agg #[.int .i64 1,.int .u8 63,.slice pA 1 pc,.string ⟨#[36]⟩,.int .u8 112,.string ⟨#[]⟩]] w fun e w'=>∃ (ga:Nat) (Av:Option Addr) (cv:Nat),e=.returned (.tuple #[.agg #[.bool b0,.bool b1,.bool b2,.bool b3,.bool true,.bool b5,.bool b6,.int .i64 n0,.int .i64 n1,.int .i64 n2,.int .u8 0,.int .u8 0,.int .u8 0,.int .u8 0,.int .u8 0,.int .u8 0,.int .u8 0,.int .u8 0,.int .u8 0,.int .u8 0,.int .u8 0,.int .u8 0,.int .i64 now,.slice kA kn kc],.slice (some ⟨ga,0,none⟩) 1 1,.bool true])∧w.heap.size≤ga∧w'.heap[ga]?=some (.cells #[.int .i64 1,.int .u8 63,.slice Av 2 cv,.string ⟨#[36]⟩,.int .u8 121,.string ⟨#[]⟩] 44 (0,0))∧kli.R 66 w' w.heap.size (fun _=>True) (.slice Av 2 cv) [[2004],[1]]∧Below w.heap.size w w':=by
  have HC:=Aside0.mk hC
  clear hC
  have HB:=Aside0.mk (Below.refl w.heap.size w)
  go_enter Tryz.func55,Tryz.ntmps55
  go_wp2_with (first|(refine bx 3 #[.bool b0,.bool b1,.bool b2,.bool b3,.bool true,.bool b5,.bool b6,.int .i64 n0,.int .i64 n1,.int .i64 n2,.int .u8 0,.int .u8 0,.int .u8 0,.int .u8 0,.int .u8 0,.int .u8 0,.int .u8 0,.int .u8 0,.int .u8 0,.int .u8 0,.int .u8 0,.int .u8 0,.int .i64 now,.slice kA kn kc] 70 (h:=?_);intro g3 hg w1 hbox hb;have HBo:=HB;replace HB:=bh HB hb;have B3:=Aside0.mk hbox;have q3:=cells24 B3.out;have G3:=gG HBo hg;clear hbox hb hg HBo)|(refine bx 4 #[.int .i64 0,.int .i64 0,.int .i64 0,.int .i64 0,.int .i64 0,.int .i64 0,.int .i64 0,.int .i64 0,.int .i64 0,.bool false,.bool false,.bool false,.bool false,.bool false,.bool false,.bool false,.int .i64 0,.int .i64 0,.int .i64 0] 26 (h:=?_);intro g4 hg w2 hbox hb;have HBo:=HB;replace B3:=kb B3 hb;clear q3;have q3:=cells24 B3.out;replace HB:=bh HB hb;have B4:=Aside0.mk hbox;have q4:=cells19 B4.out;have G4:=gG HBo hg;clear hbox hb hg HBo)|(refine bx 5 #[.int .i64 1,.int .u8 63,.slice pA 1 pc,.string ⟨#[36]⟩,.int .u8 112,.string ⟨#[]⟩] 44 (h:=?_);intro g5 hg w3 hbox hb;have HBo:=HB;replace B3:=kb B3 hb;clear q3;have q3:=cells24 B3.out;replace B4:=kb B4 hb;clear q4;have q4:=cells19 B4.out;replace HB:=bh HB hb;have B5:=Aside0.mk hbox;have q5:=cells6 B5.out;have G5:=gG HBo hg;clear hbox hb hg HBo)|(refine bx 6 #[.bool false,.bool false,.bool false,.bool false,.bool false,.bool false,.bool false,.int .i64 0,.int .i64 0,.int .i64 0,.int .u8 0,.int .u8 0,.int .u8 0,.int .u8 0,.int .u8 0,.int .u8 0,.int .u8 0,.int .u8 0,.int .u8 0,.int .u8 0,.int .u8 0,.int .u8 0,.int .i64 0,.slice none 0 0] 70 (h:=?_);intro g6 hg w4 hbox hb;have HBo:=HB;have L3_:=blk_lt B3.out;replace B3:=kb B3 hb;clear q3;have q3:=cells24 B3.out;replace B4:=kb B4 hb;clear q4;have q4:=cells19 B4.out;replace B5:=kb B5 hb;clear q5;have q5:=cells6 B5.out;replace HB:=bh HB hb;have B6:=Aside0.mk hbox;have q6:=cells24 B6.out;have G6:=gG HBo hg;have NE6_3:=Aside0.mk (show g6≠g3 by omega);have NE3_6:=Aside0.mk (Ne.symm NE6_3.out);clear L3_;clear hbox hb hg HBo))
  refine st 12 (fun w'=>w'.cell? ⟨g5,0,none⟩=some (.int .i64 1)∧w'.cell? ⟨g5,1,none⟩=some (.int .u8 63)∧w'.cell? ⟨g5,3,none⟩=some (.string ⟨#[36]⟩)∧w'.cell? ⟨g5,4,none⟩=some (.int .u8 112)) [] (hS:=⟨q5.1,q5.2.1,q5.2.2.2.1,q5.2.2.2.2.1⟩) (h:=fun hHeld=>?_)
  refine pu 1 (h:=?_)
  refine pu 3 (h:=?_)
  refine pu 5 (h:=?_)
  refine pu 7 (h:=?_)
  refine tk 2 hHeld (h:=?_)
  refine tk 4 hHeld (h:=?_)
  refine tk 6 hHeld (h:=?_)
  refine tk 8 hHeld (h:=?_)
  refine pu 9 (h:=?_)
  refine oS 0 (h:=fun K hK=>?_)
  refine gc Tryz.func109 (table_look (q:=(30,(1,63,[36],112),.func 155)) (List.mem_of_getElem? (i:=14) (by kernel_rfl)) 155 rfl _) (h:=?_)
  rintro e w5 ⟨⟨gt,rfl,hT⟩,hb⟩
  refine ⟨_,rfl,?_⟩
  replace B3:=kb B3 hb
  clear q3
  have q3:=cells24 B3.out
  replace B4:=kb B4 hb
  clear q4
  have q4:=cells19 B4.out
  replace B5:=kb B5 hb
  clear q5
  have q5:=cells6 B5.out
  replace B6:=kb B6 hb
  clear q6
  have q6:=cells24 B6.out
  replace HB:=bh HB hb
  have HLT:=Aside0.mk hT
  clear hT
  clear hb
  refine hK.out _ _ ⟨q5.1,q5.2.1,q5.2.2.2.1,q5.2.2.2.2.1⟩ (fun hHeld=>?_)
  clear hK K
  refine nm 11 (h:=?_)
  refine oS 10 (h:=fun K hK=>?_)
  refine value_ (w1:=w5) (v:=.func (.func 155) #[] #[]) (by rfl) rfl (run_lookup_op rfl rfl (by rfl) (HLT.out w5 (Below.refl _ _))) ?_
  refine hK.out _ _ ⟨q5.1,q5.2.1,q5.2.2.2.1,q5.2.2.2.2.1⟩ (fun hHeld=>?_)
  clear hK K
  refine nm 21 (h:=?_)
  refine pu 11 (h:=?_)
  refine done_ (by kernel_rfl) ?_
  clear hHeld
  go_wp2_with (first|((with_reducible refine gate_dst (N:=29) rfl ?_);refine off_ev (by kernel_rfl) ?_)|((with_reducible refine gate_dst (N:=30) rfl ?_);refine off_ev (by kernel_rfl) ?_)|((with_reducible refine gate_dst (N:=31) rfl ?_);refine off_ev (by kernel_rfl) ?_)|((with_reducible refine gate_dst (N:=32) rfl ?_);refine off_ev (by kernel_rfl) ?_)|((with_reducible refine gate_dst (N:=37) rfl ?_);refine lx 26 0 19 B4 Tryz.underlying26 (h:=?_))|((with_reducible refine gate_dst (N:=38) rfl ?_);refine load_ev rfl 44 _ rfl g5 0 rfl B5.out [.int .i64 1,.int .u8 63,.slice pA 1 pc,.string ⟨#[36]⟩,.int .u8 112,.string ⟨#[]⟩] rfl _ Tryz.underlying44 rfl (by kernel_rfl) ?_)|(go_at_call 155;refine (amode_calls b0 b1 b2 b3 b5 b6 n0 n1 n2 now kA kn kc 112 ⟨#[36]⟩ ⟨#[]⟩ pA pc g3 _ _ (Below.refl _ _) B3.out (Kd.C_below HC.out HB.out)).mono ?_;have HB5:=HB;rintro e w6 ⟨ga,Av,cv,rfl,hga,hba,hkl,hs3,hb⟩;replace B3:=kb B3 hb;clear q3;have q3:=cells24 B3.out;replace B4:=kb B4 hb;clear q4;have q4:=cells19 B4.out;replace B5:=kb B5 hb;clear q5;have q5:=cells6 B5.out;replace B6:=kb B6 hb;clear q6;have q6:=cells24 B6.out;replace HB:=bh HB hb;clear B3 q3;have B3:=Aside0.mk hs3;clear hs3 hb;have Ba:=Aside0.mk hba;have Ga:=Aside0.mk (Nat.le_trans HB5.out.size hga);have HKL:=Aside0.mk (Kd.R_lower hkl HB5.out.size);clear hba hga hkl;have q3:=cells24 B3.out)|((with_reducible refine gate_dst (N:=40) rfl ?_);refine lx 70 0 24 B3 Tryz.underlying70 (h:=?_))|((with_reducible refine gate_store (t:=70) rfl ?_);refine sx 70 0 B6 (h:=?_);intro w7 hS hg;replace B3:=gk B3 hg NE3_6.out;clear q3;have q3:=cells24 B3.out;replace B4:=gnx B4 hg B6;clear q4;have q4:=cells19 B4.out;replace B5:=gnx B5 hg B6;clear q5;have q5:=cells6 B5.out;replace HB:=gb HB hg G6;replace Ba:=gnx Ba hg B6;replace HKL:=Aside0.mk (R_grownT HKL.out B6.out (by decide) hg);clear B6 q6 hg;have B6:=hS;clear hS;have q6:=cells24 B6.out)|((with_reducible refine gate_dst (N:=23) rfl ?_);refine Kd.event_run rfl (nil_cmp rfl rfl) ?_))
  refine bodyPost_ret (results_ctt rfl _ _ g6 70 _ (0,0) _ rfl B6.out Tryz.underlying70 rfl (by kernel_rfl)) rfl ?_
  exact ⟨ga,Av,cv,rfl,Ga.out,Ba.out,HKL.out,HB.out⟩
set_option maxHeartbeats 8000000 in
theorem do_kept (b0 b1 b2 b3 b4 b5 b6:Bool) (n0 n1 n2 now:Int) (n:Int) (pA:Option Addr) (pc:Nat) (w:World) (hC:Kd.C kli w pA 1 [[n]]) (hn:0≤n) :
    Calls Tryz.prog 55 #[.agg #[.bool b0,.bool b1,.bool b2,.bool b3,.bool b4,.bool b5,.bool b6,.int .i64 n0,.int .i64 n1,.int .i64 n2,.int .u8 0,.int .u8 0,.int .u8 0,.int .u8 0,.int .u8 0,.int .u8 0,.int .u8 0,.int .u8 0,.int .u8 0,.int .u8 0,.int .u8 0,.int .u8 0,.int .i64 now,.slice none 0 0],.agg #[.int .i64 0,.int .i64 0,.int .i64 0,.int .i64 0,.int .i64 0,.int .i64 0,.int .i64 0,.int .i64 0,.int .i64 0,.bool false,.bool false,.bool false,.bool false,.bool false,.bool false,.bool false,.int .i64 0,.int .i64 0,.int .i64 0],.agg #[.int .i64 1,.int .u8 62,.slice pA 1 pc,.string ⟨#[]⟩,.int .u8 117,.string ⟨#[]⟩]] w fun e w'=>∃ (kA2:Option Addr) (kn2 kc2:Nat),e=.returned (.tuple #[.agg #[.bool b0,.bool b1,.bool b2,.bool b3,.bool b4,.bool b5,.bool b6,.int .i64 n0,.int .i64 n1,.int .i64 n2,.int .u8 0,.int .u8 0,.int .u8 0,.int .u8 0,.int .u8 0,.int .u8 0,.int .u8 0,.int .u8 0,.int .u8 0,.int .u8 0,.int .u8 0,.int .u8 0,.int .i64 (pushF n),.slice kA2 kn2 kc2],.slice none 0 0,.bool true])∧Below w.heap.size w w':=by
  have HC:=Aside0.mk hC
  clear hC
  have HB:=Aside0.mk (Below.refl w.heap.size w)
  go_enter Tryz.func55,Tryz.ntmps55
  go_wp2_with (first|(refine bx 3 #[.bool b0,.bool b1,.bool b2,.bool b3,.bool b4,.bool b5,.bool b6,.int .i64 n0,.int .i64 n1,.int .i64 n2,.int .u8 0,.int .u8 0,.int .u8 0,.int .u8 0,.int .u8 0,.int .u8 0,.int .u8 0,.int .u8 0,.int .u8 0,.int .u8 0,.int .u8 0,.int .u8 0,.int .i64 now,.slice none 0 0] 70 (h:=?_);intro g3 hg w1 hbox hb;have HBo:=HB;replace HB:=bh HB hb;have B3:=Aside0.mk hbox;have q3:=cells24 B3.out;have G3:=gG HBo hg;clear hbox hb hg HBo)|(refine bx 4 #[.int .i64 0,.int .i64 0,.int .i64 0,.int .i64 0,.int .i64 0,.int .i64 0,.int .i64 0,.int .i64 0,.int .i64 0,.bool false,.bool false,.bool false,.bool false,.bool false,.bool false,.bool false,.int .i64 0,.int .i64 0,.int .i64 0] 26 (h:=?_);intro g4 hg w2 hbox hb;have HBo:=HB;replace B3:=kb B3 hb;clear q3;have q3:=cells24 B3.out;replace HB:=bh HB hb;have B4:=Aside0.mk hbox;have q4:=cells19 B4.out;have G4:=gG HBo hg;clear hbox hb hg HBo)|(refine bx 5 #[.int .i64 1,.int .u8 62,.slice pA 1 pc,.string ⟨#[]⟩,.int .u8 117,.string ⟨#[]⟩] 44 (h:=?_);intro g5 hg w3 hbox hb;have HBo:=HB;replace B3:=kb B3 hb;clear q3;have q3:=cells24 B3.out;replace B4:=kb B4 hb;clear q4;have q4:=cells19 B4.out;replace HB:=bh HB hb;have B5:=Aside0.mk hbox;have q5:=cells6 B5.out;have G5:=gG HBo hg;clear hbox hb hg HBo)|(refine bx 6 #[.bool false,.bool false,.bool false,.bool false,.bool false,.bool false,.bool false,.int .i64 0,.int .i64 0,.int .i64 0,.int .u8 0,.int .u8 0,.int .u8 0,.int .u8 0,.int .u8 0,.int .u8 0,.int .u8 0,.int .u8 0,.int .u8 0,.int .u8 0,.int .u8 0,.int .u8 0,.int .i64 0,.slice none 0 0] 70 (h:=?_);intro g6 hg w4 hbox hb;have HBo:=HB;have L3_:=blk_lt B3.out;replace B3:=kb B3 hb;clear q3;have q3:=cells24 B3.out;replace B4:=kb B4 hb;clear q4;have q4:=cells19 B4.out;replace B5:=kb B5 hb;clear q5;have q5:=cells6 B5.out;replace HB:=bh HB hb;have B6:=Aside0.mk hbox;have q6:=cells24 B6.out;have G6:=gG HBo hg;have NE6_3:=Aside0.mk (show g6≠g3 by omega);have NE3_6:=Aside0.mk (Ne.symm NE6_3.out);clear L3_;clear hbox hb hg HBo))
  refine st 12 (fun w'=>w'.cell? ⟨g5,0,none⟩=some (.int .i64 1)∧w'.cell? ⟨g5,1,none⟩=some (.int .u8 62)∧w'.cell? ⟨g5,3,none⟩=some (.string ⟨#[]⟩)∧w'.cell? ⟨g5,4,none⟩=some (.int .u8 117)) [] (hS:=⟨q5.1,q5.2.1,q5.2.2.2.1,q5.2.2.2.2.1⟩) (h:=fun hHeld=>?_)
  refine pu 1 (h:=?_)
  refine pu 3 (h:=?_)
  refine pu 5 (h:=?_)
  refine pu 7 (h:=?_)
  refine tk 2 hHeld (h:=?_)
  refine tk 4 hHeld (h:=?_)
  refine tk 6 hHeld (h:=?_)
  refine tk 8 hHeld (h:=?_)
  refine pu 9 (h:=?_)
  refine oS 0 (h:=fun K hK=>?_)
  refine gc Tryz.func109 (table_look (q:=(38,(1,62,[],117),.func 161)) (List.mem_of_getElem? (i:=18) (by kernel_rfl)) 161 rfl _) (h:=?_)
  rintro e w5 ⟨⟨gt,rfl,hT⟩,hb⟩
  refine ⟨_,rfl,?_⟩
  replace B3:=kb B3 hb
  clear q3
  have q3:=cells24 B3.out
  replace B4:=kb B4 hb
  clear q4
  have q4:=cells19 B4.out
  replace B5:=kb B5 hb
  clear q5
  have q5:=cells6 B5.out
  replace B6:=kb B6 hb
  clear q6
  have q6:=cells24 B6.out
  replace HB:=bh HB hb
  have HLT:=Aside0.mk hT
  clear hT
  clear hb
  refine hK.out _ _ ⟨q5.1,q5.2.1,q5.2.2.2.1,q5.2.2.2.2.1⟩ (fun hHeld=>?_)
  clear hK K
  refine nm 11 (h:=?_)
  refine oS 10 (h:=fun K hK=>?_)
  refine value_ (w1:=w5) (v:=.func (.func 161) #[] #[]) (by rfl) rfl (run_lookup_op rfl rfl (by rfl) (HLT.out w5 (Below.refl _ _))) ?_
  refine hK.out _ _ ⟨q5.1,q5.2.1,q5.2.2.2.1,q5.2.2.2.2.1⟩ (fun hHeld=>?_)
  clear hK K
  refine nm 21 (h:=?_)
  refine pu 11 (h:=?_)
  refine done_ (by kernel_rfl) ?_
  clear hHeld
  go_wp2_with (first|((with_reducible refine gate_dst (N:=29) rfl ?_);refine off_ev (by kernel_rfl) ?_)|((with_reducible refine gate_dst (N:=30) rfl ?_);refine off_ev (by kernel_rfl) ?_)|((with_reducible refine gate_dst (N:=31) rfl ?_);refine off_ev (by kernel_rfl) ?_)|((with_reducible refine gate_dst (N:=32) rfl ?_);refine off_ev (by kernel_rfl) ?_)|((with_reducible refine gate_dst (N:=37) rfl ?_);refine lx 26 0 19 B4 Tryz.underlying26 (h:=?_))|((with_reducible refine gate_dst (N:=38) rfl ?_);refine load_ev rfl 44 _ rfl g5 0 rfl B5.out [.int .i64 1,.int .u8 62,.slice pA 1 pc,.string ⟨#[]⟩,.int .u8 117,.string ⟨#[]⟩] rfl _ Tryz.underlying44 rfl (by kernel_rfl) ?_)|(go_at_call 161;refine (kept_calls b0 b1 b2 b3 b4 b5 b6 n0 n1 n2 now 117 n ⟨#[]⟩ ⟨#[]⟩ pA pc g3 w _ HB.out G3.out B3.out (Kd.C_below HC.out HB.out) hn).mono ?_;rintro e w6 ⟨kA2,kn2,kc2,rfl,hs3,hb,hk⟩;have B6_:=Aside0.mk ((hk.2 g6 (blk_lt B6.out) NE6_3.out).trans B6.out);clear B3 q3 B4 q4 B5 q5 B6 q6 HB;have HB:=Aside0.mk hb;have B3:=Aside0.mk hs3;have B6:=B6_;clear B6_ hs3 hb hk;have q3:=cells24 B3.out;have q6:=cells24 B6.out)|((with_reducible refine gate_dst (N:=40) rfl ?_);refine lx 70 0 24 B3 Tryz.underlying70 (h:=?_))|((with_reducible refine gate_store (t:=70) rfl ?_);refine sx 70 0 B6 (h:=?_);intro w7 hS hg;replace B3:=gk B3 hg NE3_6.out;clear q3;have q3:=cells24 B3.out;replace HB:=gb HB hg G6;clear B6 q6 hg;have B6:=hS;clear hS;have q6:=cells24 B6.out)|((with_reducible refine gate_dst (N:=23) rfl ?_);refine Kd.event_run rfl (nil_cmp rfl rfl) ?_))
  refine bodyPost_ret (results_ctt rfl _ _ g6 70 _ (0,0) _ rfl B6.out Tryz.underlying70 rfl (by kernel_rfl)) rfl ?_
  exact ⟨kA2,kn2,kc2,rfl,HB.out⟩
end Go.Proofs.YthjacokachgmfaaGreatDoor.H
end
section
namespace Go.Proofs.YthjacokachgmfaaGreatDoor.H
open Go Go.RowKit YthjacokachgmfaaGreatDoorW.PrintWords YthjacokachgmfaaGreatDoorW.PrintLast YthjacokachgmfaaGreatDoorW.PrintMore
open Ev
set_option maxRecDepth 100000
theorem conv_step {ops:Array Oper} {o:Oper} {a:Act} {Q:Exit→Act→World→Prop} {Kc:Act→World→Prop} {E:Prop} {W:World} {s:ByteArray} {x:Operand} (hw:Region.wanted o (yielded ops a.tmps)=true) (ho:o.op=.convert 9 22 x) (hx:a.eval x=.string s) (l:List Int) (n:Nat) (hl:numsS s=l) (hn:l.length=n) (hs:s.size≤2000000)
    (h:∀ g c w1,Kd.C (Kd.int .u8) w1 (some ⟨g,0,none⟩) n l→n≤c→W.heap.size≤g→Below W.heap.size W w1→Kc (a.put o.dst (.slice (some ⟨g,0,none⟩) n c)) w1):if Region.wanted o (yielded ops a.tmps)=true then Oper.wp Tryz.prog o a W Kc Q else E:=by
  rw [if_pos hw]
  subst hl
  subst hn
  unfold Oper.wp execOp
  simp only [ho,hx,Sem.run_bind,conv_run,Result.andThen_ok,Sem.run_pure]
  exact h _ _ _ (conv_c W s hs) (by rw [numsS_len];exact cap_le _ _ _) (Nat.le_refl _) (conv_below W s)
theorem OwnB.ofR {w1 w:World} {v:Value} {lb:List UInt8} (h:Kd.R (Kd.int .u8) 5 w w1.heap.size (fun _=>True) v (nat8 lb)):OwnB w1 w v lb:=Kd.R_mono (Kd.R_bound h) (fun k hk=>hk.2.1)
def pastedB:List UInt8:=[27,91,50,48,48,126,91,50,48,49,126,98,27,91,50,48,49,126]
theorem pasted_eq:nat8 mk200++clN [27,91,50,48,49,126,98]++nat8 mk201=nat8 pastedB:=by decide
theorem seenD:∀ z∈([27,91,50,48,49,126,98]:List Int),seen z:=by
  intro z hz
  unfold seen
  simp only [List.mem_cons,List.not_mem_nil,or_false] at hz
  omega
set_option maxHeartbeats 8000000 in
theorem epaste_calls (b0 b1 b2 b3 b5 b6:Bool) (n0 n1 n2 now:Int) (p1 kp:Value) (k0 k1 k2 k3 k4:Int) (kt:ByteArray) (m0 m1 m2 m3 m4:Int) (sin:Bool) (sn:Int) (ge gq:Nat) (x:QS) (w0 w:World) (hB0:Below w0.heap.size w0 w) (hp:Pow w0) (he:w.heap[ge]?=some (.cells #[.pointer (some ⟨gq,0,none⟩),p1,.bool b0,.bool b1,.bool b2,.bool b3,.bool true,.bool b5,.bool b6,.int .i64 n0,.int .i64 n1,.int .i64 n2,.int .u8 0,.int .u8 0,.int .u8 0,.int .u8 0,.int .u8 0,.int .u8 0,.int .u8 0,.int .u8 0,.int .u8 0,.int .u8 0,.int .u8 0,.int .u8 0,.int .i64 now,kp,.int .i64 0,.int .i64 0,.int .i64 0,.int .i64 0,.int .i64 0,.int .i64 0,.int .i64 0,.int .i64 0,.int .i64 0,.bool false,.bool false,.bool false,.bool false,.bool false,.bool false,.bool false,.int .i64 0,.int .i64 0,.int .i64 0,.int .i64 0,.int .i64 0] 74 (0,0)))
    (hq:QuE w w0.heap.size gq x) (hn:(x.bs.length:Int)+pastedB.length≤x.room) (hr:x.room≤65536) :
    Calls Tryz.prog 22 #[.pointer (some ⟨ge,0,none⟩),.agg #[.int .i64 4,.int .i64 k0,.int .i64 k1,.int .i64 k2,.int .i64 k3,.int .i64 k4,.string kt,.int .i64 m0,.int .i64 m1,.int .i64 m2,.int .i64 m3,.int .i64 m4,.bool sin,.string ⟨#[27,91,50,48,49,126,98]⟩,.int .i64 0,.int .i64 0,.int .i64 0,.int .i64 0,.int .i64 0,.int .i64 0,.int .i64 0,.int .i64 0,.int .i64 0,.bool false,.bool false,.bool false,.bool false,.bool false,.bool false,.bool false,.int .i64 0,.int .i64 0,.int .i64 0,.int .i64 sn]] w fun e w'=>e=.returned (.slice none 0 0)∧w'.heap[ge]?=some (.cells #[.pointer (some ⟨gq,0,none⟩),p1,.bool b0,.bool b1,.bool b2,.bool b3,.bool true,.bool b5,.bool b6,.int .i64 n0,.int .i64 n1,.int .i64 n2,.int .u8 0,.int .u8 0,.int .u8 0,.int .u8 0,.int .u8 0,.int .u8 0,.int .u8 0,.int .u8 0,.int .u8 0,.int .u8 0,.int .u8 0,.int .u8 0,.int .i64 now,kp,.int .i64 0,.int .i64 0,.int .i64 0,.int .i64 0,.int .i64 0,.int .i64 0,.int .i64 0,.int .i64 0,.int .i64 0,.bool false,.bool false,.bool false,.bool false,.bool false,.bool false,.bool false,.int .i64 0,.int .i64 0,.int .i64 0,.int .i64 0,.int .i64 0] 74 (0,0))∧QuE w' w0.heap.size gq ⟨x.bs++nat8 pastedB,x.room,x.dr⟩∧Below w0.heap.size w0 w':=by
  have HP:=Aside0.mk hp
  have HN:=Aside0.mk hn
  have HR:=Aside0.mk hr
  have HQ:=Aside0.mk hq
  have Be:=Aside0.mk he
  have HB:=Aside0.mk hB0
  clear hp hn hr hq he hB0
  have qe:=cells47 Be.out
  go_enter Tryz.func22,Tryz.ntmps22
  go_wp2_with (first|(refine bx 3 #[.int .i64 4,.int .i64 k0,.int .i64 k1,.int .i64 k2,.int .i64 k3,.int .i64 k4,.string kt,.int .i64 m0,.int .i64 m1,.int .i64 m2,.int .i64 m3,.int .i64 m4,.bool sin,.string ⟨#[27,91,50,48,49,126,98]⟩,.int .i64 0,.int .i64 0,.int .i64 0,.int .i64 0,.int .i64 0,.int .i64 0,.int .i64 0,.int .i64 0,.int .i64 0,.bool false,.bool false,.bool false,.bool false,.bool false,.bool false,.bool false,.int .i64 0,.int .i64 0,.int .i64 0,.int .i64 sn] 39 (h:=?_);intro g3 hg w1 hbox hb;have HBo:=HB;replace Be:=kb Be hb;clear qe;have qe:=cells47 Be.out;replace HB:=bh HB hb;replace HQ:=Aside0.mk (HQ.out.below (by first | exact hb | exact below_step (below_drew1 (Below.refl _ _)) hb));have B3:=Aside0.mk hbox;have q3:=cells34 B3.out;have G3:=gG HBo hg;clear hbox hb hg HBo))
  refine st 12 (fun w'=>w'.cell? ⟨ge,2,none⟩=some (.bool b0)∧w'.cell? ⟨ge,3,none⟩=some (.bool b1)∧w'.cell? ⟨ge,4,none⟩=some (.bool b2)∧w'.cell? ⟨ge,5,none⟩=some (.bool b3)∧w'.cell? ⟨ge,6,none⟩=some (.bool true)∧w'.cell? ⟨ge,7,none⟩=some (.bool b5)∧w'.cell? ⟨ge,8,none⟩=some (.bool b6)∧w'.cell? ⟨ge,9,none⟩=some (.int .i64 n0)∧w'.cell? ⟨ge,10,none⟩=some (.int .i64 n1)∧w'.cell? ⟨ge,11,none⟩=some (.int .i64 n2)∧w'.cell? ⟨g3,13,none⟩=some (.string ⟨#[27,91,50,48,49,126,98]⟩)) [] (hS:=⟨qe.2.2.1,qe.2.2.2.1,qe.2.2.2.2.1,qe.2.2.2.2.2.1,qe.2.2.2.2.2.2.1,qe.2.2.2.2.2.2.2.1,qe.2.2.2.2.2.2.2.2.1,qe.2.2.2.2.2.2.2.2.2.1,qe.2.2.2.2.2.2.2.2.2.2.1,qe.2.2.2.2.2.2.2.2.2.2.2.1,q3.2.2.2.2.2.2.2.2.2.2.2.2.2.1⟩) (h:=fun hHeld=>?_)
  refine pu 0 (h:=?_)
  refine pu 1 (h:=?_)
  refine pu 2 (h:=?_)
  refine pu 3 (h:=?_)
  refine pu 4 (h:=?_)
  refine pu 6 (h:=?_)
  refine tk 5 hHeld (h:=?_)
  refine tk 7 hHeld (h:=?_)
  refine oS 8 (h:=fun K hK=>?_)
  refine conv_step (by rfl) rfl rfl [27,91,50,48,49,126,98] 7 (by kernel_rfl) rfl (by decide) ?_
  intro gd cd w2 hcv hlc hgd hb
  replace Be:=kb Be hb
  clear qe
  have qe:=cells47 Be.out
  replace B3:=kb B3 hb
  clear q3
  have q3:=cells34 B3.out
  replace HB:=bh HB hb
  replace HQ:=Aside0.mk (HQ.out.below (by first | exact hb | exact below_step (below_drew1 (Below.refl _ _)) hb))
  have HCV:=Aside0.mk (show Kd.C (Kd.int .u8) w2 (some ⟨gd,0,none⟩) ([27,91,50,48,49,126,98]:List Int).length [27,91,50,48,49,126,98] from hcv)
  have HLC:=Aside0.mk (show ([27,91,50,48,49,126,98]:List Int).length≤cd from hlc)
  clear hcv hlc hgd hb
  refine hK.out _ _ ⟨qe.2.2.1,qe.2.2.2.1,qe.2.2.2.2.1,qe.2.2.2.2.2.1,qe.2.2.2.2.2.2.1,qe.2.2.2.2.2.2.2.1,qe.2.2.2.2.2.2.2.2.1,qe.2.2.2.2.2.2.2.2.2.1,qe.2.2.2.2.2.2.2.2.2.2.1,qe.2.2.2.2.2.2.2.2.2.2.2.1,q3.2.2.2.2.2.2.2.2.2.2.2.2.2.1⟩ (fun hHeld=>?_)
  clear hK K
  refine nm 13 (h:=?_)
  refine oS 9 (h:=fun K hK=>?_)
  have HB1:=Aside0.mk HB.out
  have HQ1:=HQ
  refine gc Tryz.func53 (psend_calls b0 b1 b2 b3 b5 b6 n0 n1 n2 (some ⟨gd,0,none⟩) cd [27,91,50,48,49,126,98] _ (HP.out.below HB.out) HCV.out HLC.out seenD (by decide)) (h:=?_)
  rintro e w3 ⟨v,rfl,hv,hb⟩
  refine ⟨_,rfl,?_⟩
  replace Be:=kb Be hb
  clear qe
  have qe:=cells47 Be.out
  replace B3:=kb B3 hb
  clear q3
  have q3:=cells34 B3.out
  replace HB:=bh HB hb
  replace HQ:=Aside0.mk (HQ.out.below (by first | exact hb | exact below_step (below_drew1 (Below.refl _ _)) hb))
  have HV:=Aside0.mk (OwnB.ofR (lb:=pastedB) (by rw [← pasted_eq];exact hv))
  have HB2:=Aside0.mk hb
  clear hv
  clear hb
  refine hK.out _ _ ⟨qe.2.2.1,qe.2.2.2.1,qe.2.2.2.2.1,qe.2.2.2.2.2.1,qe.2.2.2.2.2.2.1,qe.2.2.2.2.2.2.2.1,qe.2.2.2.2.2.2.2.2.1,qe.2.2.2.2.2.2.2.2.2.1,qe.2.2.2.2.2.2.2.2.2.2.1,qe.2.2.2.2.2.2.2.2.2.2.2.1,q3.2.2.2.2.2.2.2.2.2.2.2.2.2.1⟩ (fun hHeld=>?_)
  clear hK K
  refine nm 14 (h:=?_)
  refine oS 10 (h:=fun K hK=>?_)
  refine gc Tryz.func48 (send_own w0 _ _ ge gq _ x v pastedB HB1.out HB2.out Be.out HQ1.out HV.out (by decide) HN.out HR.out) (h:=?_)
  rintro e w4 ⟨rfl,hq,hk,hb⟩
  refine ⟨_,rfl,?_⟩
  replace Be:=Aside0.mk (hk.blk Be.out (by decide) (by decide))
  clear qe q3
  replace B3:=Aside0.mk (hk.blk B3.out (by decide) (by decide))
  have qe:=cells47 Be.out
  have q3:=cells34 B3.out
  clear HQ HB
  have HQ:=Aside0.mk hq
  have HB:=Aside0.mk hb
  clear hq hb hk
  refine hK.out _ _ ⟨qe.2.2.1,qe.2.2.2.1,qe.2.2.2.2.1,qe.2.2.2.2.2.1,qe.2.2.2.2.2.2.1,qe.2.2.2.2.2.2.2.1,qe.2.2.2.2.2.2.2.2.1,qe.2.2.2.2.2.2.2.2.2.1,qe.2.2.2.2.2.2.2.2.2.2.1,qe.2.2.2.2.2.2.2.2.2.2.2.1,q3.2.2.2.2.2.2.2.2.2.2.2.2.2.1⟩ (fun hHeld=>?_)
  clear hK K
  refine nm 15 (h:=?_)
  refine pu 11 (h:=?_)
  refine done_ (by kernel_rfl) ?_
  clear hHeld
  go_wp2
  go_ret
  exact ⟨rfl,Be.out,HQ.out,HB.out⟩
set_option maxHeartbeats 8000000 in
theorem edrain_calls (k0 k1 k2 k3 k4:Int) (kt:ByteArray) (m0 m1 m2 m3 m4:Int) (sin:Bool) (data:ByteArray) (sn:Int) (ge gq:Nat) (cs:List Value) (x:QS) (w0 w:World) (hB0:Below w0.heap.size w0 w) (he:w.heap[ge]?=some (.cells (.pointer (some ⟨gq,0,none⟩) :: cs).toArray 74 (0,0))) (hq:QuE w w0.heap.size gq x) (hbl:x.bs.length < 4294967296) :
    Calls Tryz.prog 25 #[.pointer (some ⟨ge,0,none⟩),.agg #[.int .i64 7,.int .i64 k0,.int .i64 k1,.int .i64 k2,.int .i64 k3,.int .i64 k4,.string kt,.int .i64 m0,.int .i64 m1,.int .i64 m2,.int .i64 m3,.int .i64 m4,.bool sin,.string data,.int .i64 0,.int .i64 0,.int .i64 0,.int .i64 0,.int .i64 0,.int .i64 0,.int .i64 0,.int .i64 0,.int .i64 0,.bool false,.bool false,.bool false,.bool false,.bool false,.bool false,.bool false,.int .i64 0,.int .i64 0,.int .i64 0,.int .i64 sn]] w fun e w'=>∃ v,e=.returned v∧Kd.R (Kd.int .u8) 5 w' w0.heap.size (fun _=>True) v (x.bs.take (min (max sn 0) (x.bs.length:Int)).toNat)∧w'.heap[ge]?=some (.cells (.pointer (some ⟨gq,0,none⟩) :: cs).toArray 74 (0,0))∧Below w0.heap.size w0 w':=by
  have HQ:=Aside0.mk hq
  have HE:=Aside0.mk he
  have HB:=Aside0.mk hB0
  have HBL:=Aside0.mk hbl
  have qe:w.cell? ⟨ge,0,none⟩=some (.pointer (some ⟨gq,0,none⟩)):=(blk_cell he 0).trans rfl
  clear hq he hB0 hbl
  go_enter Tryz.func25,Tryz.ntmps25
  go_wp2_with (first|(refine bx 3 #[.int .i64 7,.int .i64 k0,.int .i64 k1,.int .i64 k2,.int .i64 k3,.int .i64 k4,.string kt,.int .i64 m0,.int .i64 m1,.int .i64 m2,.int .i64 m3,.int .i64 m4,.bool sin,.string data,.int .i64 0,.int .i64 0,.int .i64 0,.int .i64 0,.int .i64 0,.int .i64 0,.int .i64 0,.int .i64 0,.int .i64 0,.bool false,.bool false,.bool false,.bool false,.bool false,.bool false,.bool false,.int .i64 0,.int .i64 0,.int .i64 0,.int .i64 sn] 39 (h:=?_);intro g3 hg w1 hbox hb;have HBo:=HB;replace HB:=bh HB hb;replace HQ:=Aside0.mk (HQ.out.below (by first | exact hb | exact below_step (below_drew1 (Below.refl _ _)) hb));have qe_:=(blk_cell (blk_below (by first | exact HE.out | exact blk_drew HE.out) hb) 0);replace HE:=Aside0.mk (blk_below (by first | exact HE.out | exact blk_drew HE.out) hb);clear qe;have qe:=qe_.trans rfl;clear qe_;have B3:=Aside0.mk hbox;have q3:=cells34 B3.out;have G3:=gG HBo hg;clear hbox hb hg HBo))
  refine st 8 (fun w'=>w'.cell? ⟨ge,0,none⟩=some (.pointer (some ⟨gq,0,none⟩))∧w'.cell? ⟨g3,33,none⟩=some (.int .i64 sn)) [] (hS:=⟨qe,q3.2.2.2.2.2.2.2.2.2.2.2.2.2.2.2.2.2.2.2.2.2.2.2.2.2.2.2.2.2.2.2.2.2⟩) (h:=fun hHeld=>?_)
  refine pu 0 (h:=?_)
  refine pu 1 (h:=?_)
  refine pu 2 (h:=?_)
  refine pu 4 (h:=?_)
  refine tk 3 hHeld (h:=?_)
  refine tk 5 hHeld (h:=?_)
  refine oS 6 (h:=fun K hK=>?_)
  obtain ⟨P,hP,hq⟩:=HQ.out.below (below_drew1 (Below.refl _ _))
  refine gc Tryz.func56 (Drain_calls w0 _ gq P x sn (below_drew1 HB.out) hq HBL.out) (h:=?_)
  rintro e w3 ⟨v,rfl,hR,hq2,hb2,hk⟩
  refine ⟨_,rfl,?_⟩
  have HKT:=Aside0.mk (by obtain ⟨h0_,sl_,hqb_,hqr_⟩:=hq;exact KeepT.of_kept hk (fun k hk=>(hP k hk).2) hqb_)
  replace HE:=Aside0.mk (HKT.out.blk (blk_drew HE.out) (by decide) (by decide))
  clear qe
  have qe:w3.cell? ⟨ge,0,none⟩=some (.pointer (some ⟨gq,0,none⟩)):=(blk_cell HE.out 0).trans rfl
  replace B3:=Aside0.mk (HKT.out.blk (blk_drew B3.out) (by decide) (by decide))
  clear q3
  have q3:=cells34 B3.out
  have HV:=Aside0.mk hR
  have HQ2:=Aside0.mk (QuE.of hq2)
  have HB2:=Aside0.mk hb2
  clear hR hq2 hb2 hk hq hP HB HQ HKT
  refine hK.out _ _ ⟨qe,q3.2.2.2.2.2.2.2.2.2.2.2.2.2.2.2.2.2.2.2.2.2.2.2.2.2.2.2.2.2.2.2.2.2⟩ (fun hHeld=>?_)
  clear hK K
  refine nm 11 (h:=?_)
  refine pu 7 (h:=?_)
  refine done_ (by kernel_rfl) ?_
  clear hHeld
  go_wp2
  go_ret
  exact ⟨_,rfl,Kd.R_mono HV.out (fun _ _=>trivial),HE.out,HB2.out⟩
end Go.Proofs.YthjacokachgmfaaGreatDoor.H
end
