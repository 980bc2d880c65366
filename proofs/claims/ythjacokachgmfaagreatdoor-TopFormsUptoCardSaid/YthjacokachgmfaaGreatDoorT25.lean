import Derived.Test.YthjacokachgmfaaGreatDoorT04
import Derived.Test.YthjacokachgmfaaGreatDoorT19
import Derived.Test.YthjacokachgmfaaGreatDoorT23
import Derived.Test.YthjacokachgmfaaGreatDoorT24
set_option linter.unusedVariables false
set_option linter.unusedSimpArgs false
section
namespace Go.Proofs.YthjacokachgmfaaGreatDoor.H
open Go Go.RowKit YthjacokachgmfaaGreatDoorW.PrintWords YthjacokachgmfaaGreatDoorW.PrintLast YthjacokachgmfaaGreatDoorW.PrintMore
open Ev SeqK
set_option maxRecDepth 100000
theorem Qu.low {w:World} {base base1 q:Nat} {P:Nat→Prop} {x:QS} (h:Qu w base1 q P x) (hb:base≤base1):Qu w base q P x:=by
  obtain ⟨h0,sl,h1,h2⟩:=h
  exact ⟨Nat.le_trans hb h0,sl,h1,Kd.R_lower h2 hb⟩
theorem parser_new (w:World):Calls Tryz.prog 18 #[] w fun e w'=>∃ p,e=.returned (.pointer (some ⟨p,0,none⟩))∧w'.heap[p]?=some (.cells #[.nilFunc,.int .i64 0,.int .u8 0,.slice none 0 0,.string ⟨#[]⟩,.int .u8 0,.string ⟨#[]⟩,.slice none 0 0,.slice none 0 0,.bool false,.bool false,.bool false,.slice none 0 0] 117 (0,0))∧w.heap.size≤p∧Below w.heap.size w w':=by
  go_enter Tryz.func18,Tryz.ntmps18
  go_wp2
  go_ret
  exact ⟨_,rfl,blk_new _ _,Nat.le_refl _,below_alloc (Below.refl _ _) _⟩
theorem may1_calls (A:Option Addr) (n c:Nat) (w:World):Calls Tryz.prog 46 #[.int .i64 0,.slice A n c] w fun e w'=>e=.returned (.bool true)∧Below w.heap.size w w':=by
  go_enter Tryz.func46,Tryz.ntmps46
  go_wp2
  go_ret
  exact ⟨rfl,Below.refl _ _⟩
set_option maxHeartbeats 8000000 in
theorem mmay_calls (w:World):Calls Tryz.prog 17 #[.agg #[.bool false,.bool false,.bool false,.bool false,.bool false,.bool false,.bool false,.int .i64 0,.int .i64 0,.int .i64 0]] w fun e w'=>e=.returned (.bool true)∧Below w.heap.size w w':=by
  have HB:=Aside0.mk (Below.refl w.heap.size w)
  go_enter Tryz.func17,Tryz.ntmps17
  go_wp2_with (first|(refine bx 1 #[.bool false,.bool false,.bool false,.bool false,.bool false,.bool false,.bool false,.int .i64 0,.int .i64 0,.int .i64 0] 32 (h:=?_);intro g1 hg w1 hbox hb;have HBo:=HB;replace HB:=bh HB hb;have B1:=Aside0.mk hbox;have q1:=cells10 B1.out;have G1:=gG HBo hg;clear hbox hb hg HBo)|((with_reducible refine gate_dst (N:=7) rfl ?_);refine new_ev (N:=7) (mk:=fun g=>.slice (some ⟨g,0,none⟩) 4 4) ?hg ?hd (cs:=#[.int .i64 9,.int .i64 1000,.int .i64 1002,.int .i64 1003]) (t:=3) ?hr ?_;(case hd=>rfl);(case hg=>kernel_rfl);(case hr=>first|(go_simp;done)|(go_simp;rfl));intro g_ hg w2 hbox hb;clear hbox;replace B1:=kb B1 hb;clear q1;have q1:=cells10 B1.out;replace HB:=bh HB hb;clear hb hg)|((with_reducible refine gate_dst (N:=13) rfl ?_);refine new_ev (N:=13) (mk:=fun g=>.slice (some ⟨g,0,none⟩) 3 3) ?hg ?hd (cs:=#[.int .i64 1005,.int .i64 1006,.int .i64 1015]) (t:=3) ?hr ?_;(case hd=>rfl);(case hg=>kernel_rfl);(case hr=>first|(go_simp;done)|(go_simp;rfl));intro g_ hg w2 hbox hb;clear hbox;replace B1:=kb B1 hb;clear q1;have q1:=cells10 B1.out;replace HB:=bh HB hb;clear hb hg)|((with_reducible refine gate_dst (N:=20) rfl ?_);refine new_ev (N:=20) (mk:=fun g=>.slice (some ⟨g,0,none⟩) 2 2) ?hg ?hd (cs:=#[.int .i64 1,.int .i64 2]) (t:=3) ?hr ?_;(case hd=>rfl);(case hg=>kernel_rfl);(case hr=>first|(go_simp;done)|(go_simp;rfl));intro g_ hg w2 hbox hb;clear hbox;replace B1:=kb B1 hb;clear q1;have q1:=cells10 B1.out;replace HB:=bh HB hb;clear hb hg)|(go_at_call 46;refine (may1_calls _ _ _ _).mono ?_;rintro e w3 ⟨rfl,hb⟩;replace B1:=kb B1 hb;clear q1;have q1:=cells10 B1.out;replace HB:=bh HB hb;clear hb))
  go_ret
  exact ⟨rfl,HB.out⟩
set_option maxHeartbeats 8000000 in
theorem eng_new (w:World):Calls Tryz.prog 6 #[.int .i64 200,.agg #[.bool false,.bool false,.bool false,.bool false,.bool false,.bool false,.bool false,.int .i64 0,.int .i64 0,.int .i64 0]] w fun e w'=>∃ ge gq gp,e=.returned (.pointer (some ⟨ge,0,none⟩))∧w'.heap[ge]?=some (.cells #[.pointer (some ⟨gq,0,none⟩),.pointer (some ⟨gp,0,none⟩),.bool false,.bool false,.bool false,.bool false,.bool false,.bool false,.bool false,.int .i64 0,.int .i64 0,.int .i64 0,.int .u8 0,.int .u8 0,.int .u8 0,.int .u8 0,.int .u8 0,.int .u8 0,.int .u8 0,.int .u8 0,.int .u8 0,.int .u8 0,.int .u8 0,.int .u8 0,.int .i64 0,.slice none 0 0,.int .i64 0,.int .i64 0,.int .i64 0,.int .i64 0,.int .i64 0,.int .i64 0,.int .i64 0,.int .i64 0,.int .i64 0,.bool false,.bool false,.bool false,.bool false,.bool false,.bool false,.bool false,.int .i64 0,.int .i64 0,.int .i64 0,.int .i64 0,.int .i64 0] 74 (0,0))∧Qu w' w.heap.size gq (fun _=>False) ⟨[],200,0⟩∧w'.heap[gp]?=some (.cells #[.nilFunc,.int .i64 0,.int .u8 0,.slice none 0 0,.string ⟨#[]⟩,.int .u8 0,.string ⟨#[]⟩,.slice none 0 0,.slice none 0 0,.bool false,.bool false,.bool false,.slice none 0 0] 117 (0,0))∧w.heap.size≤gp∧w.heap.size≤ge∧Below w.heap.size w w':=by
  have HB:=Aside0.mk (Below.refl w.heap.size w)
  go_enter Tryz.func6,Tryz.ntmps6
  go_wp2_with (first|(refine bx 3 #[.bool false,.bool false,.bool false,.bool false,.bool false,.bool false,.bool false,.int .i64 0,.int .i64 0,.int .i64 0] 32 (h:=?_);intro g3 hg w1 hbox hb;have HBo:=HB;replace HB:=bh HB hb;have B3:=Aside0.mk hbox;have q3:=cells10 B3.out;have G3:=gG HBo hg;clear hbox hb hg HBo)|(go_at_call 16;refine (New_some 200 _ (fun _=>False) (by omega)).mono ?_;rintro e w2 ⟨gq,rfl,hq,hb⟩;have HB_1:=Aside0.mk HB.out.size;replace B3:=kb B3 hb;clear q3;have q3:=cells10 B3.out;replace HB:=bh HB hb;clear hb;have HQ:=Aside0.mk (Qu.low hq HB_1.out);clear hq HB_1)|((with_reducible refine gate_dst (N:=11) rfl ?_);refine on_ev ?hw (load_run 32 _ rfl g3 0 rfl B3.out [.bool false,.bool false,.bool false,.bool false,.bool false,.bool false,.bool false,.int .i64 0,.int .i64 0,.int .i64 0] rfl _ Tryz.underlying32 rfl (by kernel_rfl)) ?_;(case hw=>kernel_rfl))|(go_at_call 17;refine (mmay_calls _).mono ?_;rintro e w3 ⟨rfl,hb⟩;replace B3:=kb B3 hb;clear q3;have q3:=cells10 B3.out;replace HB:=bh HB hb;replace HQ:=Aside0.mk (HQ.out.below (hb));clear hb))
  refine st 7 (fun w'=>w'.cell? ⟨g3,0,none⟩=some (.bool false)∧w'.cell? ⟨g3,1,none⟩=some (.bool false)∧w'.cell? ⟨g3,2,none⟩=some (.bool false)∧w'.cell? ⟨g3,3,none⟩=some (.bool false)∧w'.cell? ⟨g3,4,none⟩=some (.bool false)∧w'.cell? ⟨g3,5,none⟩=some (.bool false)∧w'.cell? ⟨g3,6,none⟩=some (.bool false)∧w'.cell? ⟨g3,7,none⟩=some (.int .i64 0)∧w'.cell? ⟨g3,8,none⟩=some (.int .i64 0)∧w'.cell? ⟨g3,9,none⟩=some (.int .i64 0)) [] (hS:=q3) (h:=fun hHeld=>?_)
  refine pu 0 (h:=?_)
  refine tk 2 hHeld (h:=?_)
  refine pu 3 (h:=?_)
  refine oS 1 (h:=fun K hK=>?_)
  have HB_2:=Aside0.mk HB.out.size
  refine gc Tryz.func18 (parser_new _) (h:=?_)
  rintro e w4 ⟨gp,rfl,hp,hGp,hb⟩
  refine ⟨_,rfl,?_⟩
  replace B3:=kb B3 hb
  clear q3
  have q3:=cells10 B3.out
  replace HB:=bh HB hb
  replace HQ:=Aside0.mk (HQ.out.below (by first | exact hb | exact below_step (below_drew1 (Below.refl _ _)) hb))
  have Bp:=Aside0.mk hp
  have HGp:=Aside0.mk hGp
  have HBp:=HB_2
  clear hp hGp HB_2
  clear hb
  have qp:=cells13 Bp.out
  refine hK.out _ _ q3 (fun hHeld=>?_)
  clear hK K
  refine nm 16 (h:=?_)
  refine pu 4 (h:=?_)
  refine oS 5 (h:=fun K hK=>?_)
  refine box_step 20 (by rfl) (by rfl) (cs:=#[.pointer (some ⟨gq,0,none⟩),.pointer (some ⟨gp,0,none⟩),.bool false,.bool false,.bool false,.bool false,.bool false,.bool false,.bool false,.int .i64 0,.int .i64 0,.int .i64 0,.int .u8 0,.int .u8 0,.int .u8 0,.int .u8 0,.int .u8 0,.int .u8 0,.int .u8 0,.int .u8 0,.int .u8 0,.int .u8 0,.int .u8 0,.int .u8 0,.int .i64 0,.slice none 0 0,.int .i64 0,.int .i64 0,.int .i64 0,.int .i64 0,.int .i64 0,.int .i64 0,.int .i64 0,.int .i64 0,.int .i64 0,.bool false,.bool false,.bool false,.bool false,.bool false,.bool false,.bool false,.int .i64 0,.int .i64 0,.int .i64 0,.int .i64 0,.int .i64 0]) (t:=74) (by first|(go_simp;done)|(go_simp;rfl)) ?_
  intro ge hg w5 hbox hb
  have HBo:=HB
  replace B3:=kb B3 hb
  clear q3
  have q3:=cells10 B3.out
  replace Bp:=kb Bp hb
  clear qp
  have qp:=cells13 Bp.out
  replace HB:=bh HB hb
  replace HQ:=Aside0.mk (HQ.out.below (by first | exact hb | exact below_step (below_drew1 (Below.refl _ _)) hb))
  have Be:=Aside0.mk hbox
  have qe:=cells47 Be.out
  have Ge:=Aside0.mk (show w.heap.size≤ge by rw [hg];first | exact below_size HBo.out | exact below_size (below_drew1 HBo.out))
  clear hbox hb hg HBo
  refine hK.out _ _ q3 (fun hHeld=>?_)
  clear hK K
  refine nm 20 (h:=?_)
  refine pu 6 (h:=?_)
  refine done_ (by kernel_rfl) ?_
  clear hHeld
  go_wp2
  go_ret
  exact ⟨ge,rfl,gq,gp,Be.out,HQ.out,Bp.out,Nat.le_trans HBp.out HGp.out,Ge.out,HB.out⟩
end Go.Proofs.YthjacokachgmfaaGreatDoor.H
end
section
namespace Go.Proofs.YthjacokachgmfaaGreatDoor.H
open Go Go.RowKit YthjacokachgmfaaGreatDoorW.PrintWords YthjacokachgmfaaGreatDoorW.PrintLast YthjacokachgmfaaGreatDoorW.PrintMore
open Ev
set_option maxRecDepth 100000
def QuE (w:World) (base q:Nat) (x:QS):Prop:=∃ P:Nat→Prop,(∀ k,P k→k < w.heap.size∧∃ cells,w.heap[k]?=some (.cells cells 5 (0,0)))∧Qu w base q P x
theorem QuE.of {w:World} {base q:Nat} {P:Nat→Prop} {x:QS} (h:Qu w base q P x):QuE w base q x:=by
  obtain ⟨h0,sl,h1,h2⟩:=h
  refine ⟨_,?_,h0,sl,h1,Kd.R_mono (Kd.R_bound h2) (fun k hk=>(⟨hk.2.2.1,?_⟩:k < w.heap.size∧∃ cells,w.heap[k]?=some (.cells cells 5 (0,0))))⟩
  · exact fun k hk=>hk
  · obtain ⟨_,_,_,q,hq,cells,hc⟩:=hk
    have hq':q=5:=by
      have h:q∈[5]:=hq
      simpa using h
    exact ⟨cells,hq' ▸ hc⟩
theorem QuE.below {w w1:World} {base q:Nat} {x:QS} (h:QuE w base q x) (hb:Below w.heap.size w w1):QuE w1 base q x:=by
  obtain ⟨P,hP,h1⟩:=h
  exact QuE.of (h1.below hb)
def KeepT (w w':World):Prop:=w.heap.size≤w'.heap.size∧∀ (k:Nat) (cs:Array Value) (t:TypeId),w.heap[k]?=some (.cells cs t (0,0))→t≠5→t≠110→w'.heap[k]?=some (.cells cs t (0,0))
theorem KeepT.blk {w w':World} {g t:Nat} {cs:Array Value} (h:KeepT w w') (hb:w.heap[g]?=some (.cells cs t (0,0))) (h1:t≠5) (h2:t≠110):w'.heap[g]?=some (.cells cs t (0,0)):=h.2 _ _ _ hb h1 h2
theorem KeepT.of_kept {w w':World} {P:Nat→Prop} {q:Nat} {cq:Array Value} (h:Kept w w' (fun k=>P k∨k=q)) (hP:∀ k,P k→∃ cells,w.heap[k]?=some (.cells cells 5 (0,0))) (hq:w.heap[q]?=some (.cells cq 110 (0,0))):KeepT w w':=by
  refine ⟨h.1,fun k cs t hk h1 h2=>(h.2 k (blk_lt hk) ?_).trans hk⟩
  rintro (hp | rfl)
  · obtain ⟨cells,hc⟩:=hP k hp
    rw [hk] at hc
    injection hc with hc
    injection hc with _ e
    exact h1 e
  · rw [hk] at hq
    injection hq with hq
    injection hq with _ e
    exact h2 e
set_option maxHeartbeats 4000000 in
theorem send_own (w0 w1 w:World) (ge gq:Nat) (cs:List Value) (x:QS) (v:Value) (lb:List UInt8) (hB1:Below w0.heap.size w0 w1) (hb:Below w1.heap.size w1 w) (he:w.heap[ge]?=some (.cells (.pointer (some ⟨gq,0,none⟩) :: cs).toArray 74 (0,0)))
    (hq:QuE w1 w0.heap.size gq x) (hv:OwnB w1 w v lb) (h1:1≤lb.length) (hn:(x.bs.length:Int)+lb.length≤x.room) (hr:x.room≤65536) :
    Calls Tryz.prog 48 #[.pointer (some ⟨ge,0,none⟩),v] w fun e w'=>e=.returned (.slice none 0 0)∧QuE w' w0.heap.size gq ⟨x.bs++nat8 lb,x.room,x.dr⟩∧KeepT w w'∧Below w0.heap.size w0 w':=by
  obtain ⟨P,hP,h⟩:=hq
  obtain ⟨h0,sl,hqb,hqr⟩:=h
  have hln:(nat8 lb).length=lb.length:=by simp [nat8]
  have hv':Kd.R (Kd.int .u8) 5 w w1.heap.size (fun k=>w1.heap.size≤k) v (nat8 lb):=hv
  obtain ⟨A,c,rfl,hc,hCv⟩:=Kd.R_reads hv'
  have hqw:Qu w w0.heap.size gq P x:=Qu.below ⟨h0,sl,hqb,hqr⟩ hb
  have HBw:=below_step hB1 hb
  have HP2:∀ k,P k→∃ cells,w.heap[k]?=some (.cells cells 5 (0,0)):=fun k hk=>by
    obtain ⟨hlt,cells,hc⟩:=hP k hk
    exact ⟨cells,(hb.block k hlt).trans hc⟩
  have HCALL:=Aside0.mk (Push_ok w0 w gq P x A (nat8 lb) c HBw hqw (fun W hk=>(Kd.R_reads' (Kd.R_step hv' (fun k hk1 hlt=>hk.2 k hlt (by
      rintro (hp | rfl)
      · exact absurd (hP k hp).1 (by omega)
      · exact absurd (blk_lt hqb) (by omega))))).2.2) hc (by rw [hln];exact hn) (by rw [hln];omega))
  have HKT:=Aside0.mk (show ∀ w',Kept w w' (fun k=>P k∨k=gq)→KeepT w w' from fun w' hk=>KeepT.of_kept hk HP2 (blk_below hqb hb))
  have q0:w.cell? ⟨ge,0,none⟩=some (.pointer (some ⟨gq,0,none⟩)):=(blk_cell he 0).trans rfl
  clear hqw HBw HP2 hP h0 hqb hqr hv hv' hCv hc hb hB1 he
  generalize nat8 lb=L at *
  have c1:decide (0 < (L.length:Int))=true:=decide_eq_true (by omega)
  have c2:decide (0 < L.length)=true:=decide_eq_true (by omega)
  clear hln h1 hn hr
  go_enter Tryz.func48,Tryz.ntmps48
  go_wp2_with (go_at_call 85;refine HCALL.out.mono ?_;rintro e w2 ⟨rfl,hQ,hB,hK⟩)
  all_goals go_ret
  exact ⟨rfl,QuE.of hQ,HKT.out _ hK,hB⟩
end Go.Proofs.YthjacokachgmfaaGreatDoor.H
end
section
namespace Go.Proofs.YthjacokachgmfaaGreatDoor.H
open Go Go.RowKit YthjacokachgmfaaGreatDoorW.PrintWords YthjacokachgmfaaGreatDoorW.PrintLast YthjacokachgmfaaGreatDoorW.PrintMore
open Ev
set_option maxRecDepth 100000
theorem lit_one {W:World} {g:Nat} {a:Int} (h:W.heap[g]?=some (.cells #[.int .i64 a] 3 (0,0))):Kd.C (Kd.int .i64) W (some ⟨g,0,none⟩) 1 [a] :=
  Kd.C_of_reads (d:=(0:Int)) ⟨rfl,by omega,fun _=>⟨⟨g,0,none⟩,rfl,fun j hj=>by
    have hj2:j < 1:=hj
    match j,hj2 with
    | 0,_=>exact (blk_cell h 0).trans rfl⟩⟩
theorem plain126:Plain 1 0 126 [] []:=⟨.inl ⟨rfl,rfl⟩,.inl rfl,by decide,⟨by decide,by simp⟩,by simp⟩
theorem mark_calls (n:Int) (w:World) (hl:listedT [[n]]=true) (hp:Pow w) :
    Calls Tryz.prog 107 #[.int .i64 n] w fun e w'=>∃ v,e=.returned v∧OwnB w w' v (csiT 0 [[n]] [] 126)∧Below w.heap.size w w':=by
  have HP:=Aside0.mk hp
  have HL:=Aside0.mk hl
  clear hp hl
  have HB:=Aside0.mk (Below.refl w.heap.size w)
  go_enter Tryz.func107,Tryz.ntmps107
  go_wp2_with (first|((with_reducible refine gate_dst (N:=7) rfl ?_);refine new_ev (N:=7) (mk:=fun g=>.slice (some ⟨g,0,none⟩) 1 1) ?hg ?hd (cs:=#[.int .i64 n]) (t:=3) ?hr ?_;(case hd=>rfl);(case hg=>kernel_rfl);(case hr=>first|(go_simp;done)|(go_simp;rfl));intro ga hg w1 hbox hb;have HBo:=HB;replace HB:=bh HB hb;have Ba:=Aside0.mk hbox;have qa_0:=cells1 Ba.out;have Ga:=gG HBo hg;clear hbox hb hg HBo)|(go_at_call 99;refine (num_calls 0 126 (some ⟨ga,0,none⟩) 1 [n] _ (lit_one Ba.out) (by simp)).mono ?_;rintro e w2 ⟨Av,cv,rfl,hR,hb⟩;have HBn:=Aside0.mk HB.out.size;replace Ba:=kb Ba hb;clear qa_0;have qa_0:=cells1 Ba.out;replace HB:=bh HB hb;have HR:=Aside0.mk (Kd.R_reads' hR).2.2;clear hR hb)|(go_at_call 27;refine (put_calls 0 126 [] Av [[n]] cv _ plain126 HR.out (by simp) (by simp) (HP.out.below HB.out)).mono ?_;rintro e w3 ⟨he,hb⟩;rw [if_pos HL.out] at he;obtain ⟨v,rfl,hv⟩:=he;have HV:=Aside0.mk (OwnB.low hv HB.out.size);replace HB:=bh HB hb;clear hv hb))
  go_ret
  exact ⟨v,rfl,HV.out,HB.out⟩
def mk200:List UInt8:=[27,91,50,48,48,126]
def mk201:List UInt8:=[27,91,50,48,49,126]
theorem csi200:csiT 0 [[200]] [] 126=mk200:=by kernel_rfl
theorem csi201:csiT 0 [[201]] [] 126=mk201:=by kernel_rfl
set_option maxHeartbeats 8000000 in
theorem psend0_calls (b0 b1 b2 b3 b5 b6:Bool) (n0 n1 n2:Int) (A:Option Addr) (c:Nat) (l0 N1 N2:List Int) (w:World) (hp:Pow w) (hr0:Kd.C (Kd.int .u8) w A l0.length l0) (hc0:l0.length≤c) (hs:∀ z∈l0,seen z) (hl:l0.length≤100000)
    (hm1:∀ W,Pow W→Calls Tryz.prog 107 #[.int .i64 200] W fun e w'=>∃ v,e=.returned v∧Kd.R (Kd.int .u8) 5 w' W.heap.size (fun _=>True) v N1∧Below W.heap.size W w')
    (hm2:∀ W,Pow W→Calls Tryz.prog 107 #[.int .i64 201] W fun e w'=>∃ v,e=.returned v∧Kd.R (Kd.int .u8) 5 w' W.heap.size (fun _=>True) v N2∧Below W.heap.size W w') (l1:1≤N1.length∧N1.length≤100000) (l2:N2.length≤100000) :
    Calls Tryz.prog 53 #[.agg #[.bool b0,.bool b1,.bool b2,.bool b3,.bool true,.bool b5,.bool b6,.int .i64 n0,.int .i64 n1,.int .i64 n2],.slice A l0.length c] w fun e w'=>∃ v,e=.returned v∧Kd.R (Kd.int .u8) 5 w' w.heap.size (fun _=>True) v (N1++clN l0++N2)∧Below w.heap.size w w':=by
  have HM1:=Aside0.mk hm1
  have HM2:=Aside0.mk hm2
  have HL1:=Aside0.mk l1
  have HL2:=Aside0.mk l2
  clear hm1 hm2 l1 l2
  have HP:=Aside0.mk hp
  have HC:=Aside0.mk hr0
  have HLC:=Aside0.mk hc0
  have HS:=Aside0.mk hs
  have HLL:=Aside0.mk hl
  clear hp hr0 hc0 hs hl
  have HB:=Aside0.mk (Below.refl w.heap.size w)
  go_enter Tryz.func53,Tryz.ntmps53
  go_wp2_with (first|(refine bx 2 #[.bool b0,.bool b1,.bool b2,.bool b3,.bool true,.bool b5,.bool b6,.int .i64 n0,.int .i64 n1,.int .i64 n2] 32 (h:=?_);intro g2 hg w1 hbox hb;have HBo:=HB;replace HB:=bh HB hb;have B2:=Aside0.mk hbox;have q2:=cells10 B2.out;have G2:=gG HBo hg;clear hbox hb hg HBo)|(go_at_call 107;(first|(have hz_:=HV2;clear hz_;refine (HM2.out _ (HP.out.below HB.out)).mono ?_;rintro e w4 ⟨v3,rfl,hv,hb⟩;have HV3:=Aside0.mk (Kd.R_lower hv HB.out.size);replace HV1:=Aside0.mk (Kd.R_below HV1.out hb);replace HV2:=Aside0.mk (Kd.R_below HV2.out hb);replace B2:=kb B2 hb;clear q2;have q2:=cells10 B2.out;replace HB:=bh HB hb;clear hv hb)|(refine (HM1.out _ (HP.out.below HB.out)).mono ?_;rintro e w2 ⟨v1,rfl,hv,hb⟩;have HV1:=Aside0.mk (Kd.R_lower hv HB.out.size);replace B2:=kb B2 hb;clear q2;have q2:=cells10 B2.out;replace HB:=bh HB hb;clear hv hb)))|(go_at_call 105;refine (pcleanall_calls A c l0 _ (Kd.C_below HC.out HB.out) HLC.out HS.out HLL.out).mono ?_;rintro e w3 ⟨v2,rfl,hv,hb⟩;have HV2:=Aside0.mk (Kd.R_lower hv HB.out.size);replace HV1:=Aside0.mk (Kd.R_below HV1.out hb);replace B2:=kb B2 hb;clear q2;have q2:=cells10 B2.out;replace HB:=bh HB hb;clear hv hb)|((with_reducible refine gate_dst (N:=14) rfl ?_);obtain ⟨A1,c1,rfl,hc1,hC1⟩:=Kd.R_reads HV1.out;obtain ⟨A2,c2,rfl,hc2,hC2⟩:=Kd.R_reads HV2.out;obtain ⟨A3,c3,rfl,hc3,hC3⟩:=Kd.R_reads HV3.out;have HC1:=Aside0.mk hC1;have HC2:=Aside0.mk hC2;have HC3:=Aside0.mk hC3;clear hc1 hc2 hc3 hC1 hC2 hC3;refine new_ev (N:=14) (mk:=fun g=>.slice (some ⟨g,0,none⟩) 3 3) ?hg ?hd (cs:=#[.slice A1 N1.length c1,.slice A2 (clN l0).length c2,.slice A3 N2.length c3]) (t:=22) ?hr ?_;(case hd=>rfl);(case hg=>kernel_rfl);(case hr=>first|(go_simp;done)|(go_simp;rfl));intro gL hg w5 hbox hb;have BL:=Aside0.mk hbox;have HC1_:=Aside0.mk (Kd.C_below HC1.out hb);have HC2_:=Aside0.mk (Kd.C_below HC2.out hb);have HC3_:=Aside0.mk (Kd.C_below HC3.out hb);replace B2:=kb B2 hb;clear q2;have q2:=cells10 B2.out;replace HB:=bh HB hb;clear hg hbox hb)|(go_at_call 106;refine (concat3_calls gL A1 A2 A3 c1 c2 c3 _ _ _ _ BL.out HC1_.out HC2_.out HC3_.out HL1.out (Nat.le_trans (clN_len _) HLL.out) HL2.out).mono ?_;rintro e w6 ⟨v6,rfl,hv,hb⟩;have HV6:=Aside0.mk (Kd.R_lower hv HB.out.size);replace B2:=kb B2 hb;clear q2;have q2:=cells10 B2.out;replace HB:=bh HB hb;clear hv hb))
  go_ret
  exact ⟨v6,rfl,HV6.out,HB.out⟩
theorem mark_R (n:Int) (w:World) (hl:listedT [[n]]=true) (hp:Pow w) :
    Calls Tryz.prog 107 #[.int .i64 n] w fun e w'=>∃ v,e=.returned v∧Kd.R (Kd.int .u8) 5 w' w.heap.size (fun _=>True) v (nat8 (csiT 0 [[n]] [] 126))∧Below w.heap.size w w':=by
  refine (mark_calls n w hl hp).mono ?_
  rintro e w' ⟨v,rfl,hv,hb⟩
  exact ⟨v,rfl,Kd.R_mono hv (fun _ _=>trivial),hb⟩
theorem psend_calls (b0 b1 b2 b3 b5 b6:Bool) (n0 n1 n2:Int) (A:Option Addr) (c:Nat) (l0:List Int) (w:World) (hp:Pow w) (hr0:Kd.C (Kd.int .u8) w A l0.length l0) (hc0:l0.length≤c) (hs:∀ z∈l0,seen z) (hl:l0.length≤100000) :
    Calls Tryz.prog 53 #[.agg #[.bool b0,.bool b1,.bool b2,.bool b3,.bool true,.bool b5,.bool b6,.int .i64 n0,.int .i64 n1,.int .i64 n2],.slice A l0.length c] w fun e w'=>∃ v,e=.returned v∧Kd.R (Kd.int .u8) 5 w' w.heap.size (fun _=>True) v (nat8 mk200++clN l0++nat8 mk201)∧Below w.heap.size w w' :=
  psend0_calls b0 b1 b2 b3 b5 b6 n0 n1 n2 A c l0 (nat8 mk200) (nat8 mk201) w hp hr0 hc0 hs hl (fun W hW=>by have h:=mark_R 200 W (by kernel_rfl) hW;rw [csi200] at h;exact h) (fun W hW=>by have h:=mark_R 201 W (by kernel_rfl) hW;rw [csi201] at h;exact h) (by decide) (by decide)
end Go.Proofs.YthjacokachgmfaaGreatDoor.H
end
