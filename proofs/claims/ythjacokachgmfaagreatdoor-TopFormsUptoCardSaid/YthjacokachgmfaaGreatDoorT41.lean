import Derived.Test.YthjacokachgmfaaGreatDoorT04
import Derived.Test.YthjacokachgmfaaGreatDoorT34
import Derived.Test.YthjacokachgmfaaGreatDoorT38
import Derived.Test.YthjacokachgmfaaGreatDoorT39
import Derived.Test.YthjacokachgmfaaGreatDoorT40
set_option linter.unusedVariables false
set_option linter.unusedSimpArgs false
section
namespace Go.Proofs.YthjacokachgmfaaGreatDoor.H
open Go Go.RowKit YthjacokachgmfaaGreatDoorW.PrintWords YthjacokachgmfaaGreatDoorW.PrintLast YthjacokachgmfaaGreatDoorW.PrintMore
open Ev SeqK
set_option maxRecDepth 100000
theorem push11:pushF 11=11:=by kernel_rfl
theorem dohost_calls (ge gq gp:Nat) (w0 w:World) (hB0:Below w0.heap.size w0 w) (hp:Pow w0) (hge:w0.heap.size≤ge) (hgp:w0.heap.size≤gp) (he:w.heap[ge]?=some (.cells #[.pointer (some ⟨gq,0,none⟩),.pointer (some ⟨gp,0,none⟩),.bool false,.bool false,.bool false,.bool false,.bool false,.bool false,.bool false,.int .i64 0,.int .i64 0,.int .i64 0,.int .u8 0,.int .u8 0,.int .u8 0,.int .u8 0,.int .u8 0,.int .u8 0,.int .u8 0,.int .u8 0,.int .u8 0,.int .u8 0,.int .u8 0,.int .u8 0,.int .i64 0,.slice none 0 0,.int .i64 0,.int .i64 0,.int .i64 0,.int .i64 0,.int .i64 0,.int .i64 0,.int .i64 0,.int .i64 0,.int .i64 0,.bool false,.bool false,.bool false,.bool false,.bool false,.bool false,.bool false,.int .i64 0,.int .i64 0,.int .i64 0,.int .i64 0,.int .i64 0] 74 (0,0))) (hpa:w.heap[gp]?=some (.cells #[.nilFunc,.int .i64 0,.int .u8 0,.slice none 0 0,.string ⟨#[]⟩,.int .u8 0,.string ⟨#[]⟩,.slice none 0 0,.slice none 0 0,.bool false,.bool false,.bool false,.slice none 0 0] 117 (0,0)))
    (hq:QuE w w0.heap.size gq ⟨[],200,0⟩) :
    Calls Tryz.prog 8 #[.pointer (some ⟨ge,0,none⟩),.string ⟨#[27,91,63,50,48,48,52,104,27,91,63,50,48,48,52,36,112,27,91,62,49,49,117]⟩] w fun e w'=>∃ kp,e=.returned (.tuple #[])∧w'.heap[ge]?=some (.cells #[.pointer (some ⟨gq,0,none⟩),.pointer (some ⟨gp,0,none⟩),.bool false,.bool false,.bool false,.bool false,.bool true,.bool false,.bool false,.int .i64 0,.int .i64 0,.int .i64 0,.int .u8 0,.int .u8 0,.int .u8 0,.int .u8 0,.int .u8 0,.int .u8 0,.int .u8 0,.int .u8 0,.int .u8 0,.int .u8 0,.int .u8 0,.int .u8 0,.int .i64 11,kp,.int .i64 0,.int .i64 0,.int .i64 0,.int .i64 0,.int .i64 0,.int .i64 0,.int .i64 0,.int .i64 0,.int .i64 0,.bool false,.bool false,.bool false,.bool false,.bool false,.bool false,.bool false,.int .i64 0,.int .i64 0,.int .i64 0,.int .i64 0,.int .i64 0] 74 (0,0))∧QuE w' w0.heap.size gq ⟨nat8 [27,91,63,50,48,48,52,59,49,36,121],200,0⟩∧Below w0.heap.size w0 w':=by
  have HC:=Aside0.mk (eng_do_host ge 0 0 0 0 0 ⟨#[]⟩ 0 0 0 0 0 false ⟨#[27,91,63,50,48,48,52,104,27,91,63,50,48,48,52,36,112,27,91,62,49,49,117]⟩ 0 w (fun v w'=>∃ kp,w'.heap[ge]?=some (.cells #[.pointer (some ⟨gq,0,none⟩),.pointer (some ⟨gp,0,none⟩),.bool false,.bool false,.bool false,.bool false,.bool true,.bool false,.bool false,.int .i64 0,.int .i64 0,.int .i64 0,.int .u8 0,.int .u8 0,.int .u8 0,.int .u8 0,.int .u8 0,.int .u8 0,.int .u8 0,.int .u8 0,.int .u8 0,.int .u8 0,.int .u8 0,.int .u8 0,.int .i64 11,kp,.int .i64 0,.int .i64 0,.int .i64 0,.int .i64 0,.int .i64 0,.int .i64 0,.int .i64 0,.int .i64 0,.int .i64 0,.bool false,.bool false,.bool false,.bool false,.bool false,.bool false,.bool false,.int .i64 0,.int .i64 0,.int .i64 0,.int .i64 0,.int .i64 0] 74 (0,0))∧QuE w' w0.heap.size gq ⟨nat8 [27,91,63,50,48,48,52,59,49,36,121],200,0⟩∧Below w0.heap.size w0 w') (fun W hW=>by
    refine (ehost_calls 0 0 0 0 0 ⟨#[]⟩ 0 0 0 0 0 false 0 ge gq gp w0 W (below_step hB0 hW) hp hge hgp (blk_below he hW) (blk_below hpa hW) (hq.below hW)).mono ?_
    rintro e w' ⟨kp,rfl,h1,h2,h3⟩
    rw [push11] at h1
    exact ⟨_,rfl,kp,h1,h2,h3⟩))
  clear he hpa hq hB0 hp hge hgp
  go_enter Tryz.func8,Tryz.ntmps8
  go_wp2_with (first|(go_at_call 7;refine HC.out.mono ?_;rintro e w' ⟨v,rfl,kp,h1,h2,h3⟩;have H1:=Aside0.mk h1;have H2:=Aside0.mk h2;have H3:=Aside0.mk h3;clear h1 h2 h3))
  go_end0
  exact ⟨kp,rfl,H1.out,H2.out,H3.out⟩
theorem dokey_calls (kp:Value) (ge gq gp:Nat) (x:QS) (w0 w:World) (hB0:Below w0.heap.size w0 w) (hp:Pow w0) (he:w.heap[ge]?=some (.cells #[.pointer (some ⟨gq,0,none⟩),.pointer (some ⟨gp,0,none⟩),.bool false,.bool false,.bool false,.bool false,.bool true,.bool false,.bool false,.int .i64 0,.int .i64 0,.int .i64 0,.int .u8 0,.int .u8 0,.int .u8 0,.int .u8 0,.int .u8 0,.int .u8 0,.int .u8 0,.int .u8 0,.int .u8 0,.int .u8 0,.int .u8 0,.int .u8 0,.int .i64 11,kp,.int .i64 0,.int .i64 0,.int .i64 0,.int .i64 0,.int .i64 0,.int .i64 0,.int .i64 0,.int .i64 0,.int .i64 0,.bool false,.bool false,.bool false,.bool false,.bool false,.bool false,.bool false,.int .i64 0,.int .i64 0,.int .i64 0,.int .i64 0,.int .i64 0] 74 (0,0))) (hq:QuE w w0.heap.size gq x) (hn:(x.bs.length:Int)+([27,91,57,55,117]:List UInt8).length≤x.room) (hr:x.room≤65536) :
    Calls Tryz.prog 7 #[.pointer (some ⟨ge,0,none⟩),.agg #[.int .i64 1,.int .i64 97,.int .i64 0,.int .i64 1,.int .i64 0,.int .i64 0,.string ⟨#[]⟩,.int .i64 0,.int .i64 0,.int .i64 0,.int .i64 0,.int .i64 0,.bool false,.string ⟨#[]⟩,.int .i64 0,.int .i64 0,.int .i64 0,.int .i64 0,.int .i64 0,.int .i64 0,.int .i64 0,.int .i64 0,.int .i64 0,.bool false,.bool false,.bool false,.bool false,.bool false,.bool false,.bool false,.int .i64 0,.int .i64 0,.int .i64 0,.int .i64 0]] w fun e w'=>e=.returned (.slice none 0 0)∧w'.heap[ge]?=some (.cells #[.pointer (some ⟨gq,0,none⟩),.pointer (some ⟨gp,0,none⟩),.bool false,.bool false,.bool false,.bool false,.bool true,.bool false,.bool false,.int .i64 0,.int .i64 0,.int .i64 0,.int .u8 0,.int .u8 0,.int .u8 0,.int .u8 0,.int .u8 0,.int .u8 0,.int .u8 0,.int .u8 0,.int .u8 0,.int .u8 0,.int .u8 0,.int .u8 0,.int .i64 11,kp,.int .i64 0,.int .i64 0,.int .i64 0,.int .i64 0,.int .i64 0,.int .i64 0,.int .i64 0,.int .i64 0,.int .i64 0,.bool false,.bool false,.bool false,.bool false,.bool false,.bool false,.bool false,.int .i64 0,.int .i64 0,.int .i64 0,.int .i64 0,.int .i64 0] 74 (0,0))∧QuE w' w0.heap.size gq ⟨x.bs++nat8 [27,91,57,55,117],x.room,x.dr⟩∧Below w0.heap.size w0 w':=by
  refine (eng_do_key ge 97 0 1 0 0 ⟨#[]⟩ 0 0 0 0 0 false ⟨#[]⟩ 0 w (fun v w'=>v=.slice none 0 0∧w'.heap[ge]?=some (.cells #[.pointer (some ⟨gq,0,none⟩),.pointer (some ⟨gp,0,none⟩),.bool false,.bool false,.bool false,.bool false,.bool true,.bool false,.bool false,.int .i64 0,.int .i64 0,.int .i64 0,.int .u8 0,.int .u8 0,.int .u8 0,.int .u8 0,.int .u8 0,.int .u8 0,.int .u8 0,.int .u8 0,.int .u8 0,.int .u8 0,.int .u8 0,.int .u8 0,.int .i64 11,kp,.int .i64 0,.int .i64 0,.int .i64 0,.int .i64 0,.int .i64 0,.int .i64 0,.int .i64 0,.int .i64 0,.int .i64 0,.bool false,.bool false,.bool false,.bool false,.bool false,.bool false,.bool false,.int .i64 0,.int .i64 0,.int .i64 0,.int .i64 0,.int .i64 0] 74 (0,0))∧QuE w' w0.heap.size gq ⟨x.bs++nat8 [27,91,57,55,117],x.room,x.dr⟩∧Below w0.heap.size w0 w') (fun W hW=>?_)).mono ?_
  · refine (ekey_calls false false false false true false 0 0 0 (.pointer (some ⟨gp,0,none⟩)) kp 0 0 0 0 0 false ⟨#[]⟩ 0 ge gq x w0 W (below_step hB0 hW) hp (blk_below he hW) (hq.below hW) hn hr).mono ?_
    rintro e w' ⟨rfl,h1,h2,h3⟩
    exact ⟨_,rfl,rfl,h1,h2,h3⟩
  · rintro e w' ⟨v,rfl,rfl,h1,h2,h3⟩
    exact ⟨rfl,h1,h2,h3⟩
theorem dopaste_calls (kp:Value) (ge gq gp:Nat) (x:QS) (w0 w:World) (hB0:Below w0.heap.size w0 w) (hp:Pow w0) (he:w.heap[ge]?=some (.cells #[.pointer (some ⟨gq,0,none⟩),.pointer (some ⟨gp,0,none⟩),.bool false,.bool false,.bool false,.bool false,.bool true,.bool false,.bool false,.int .i64 0,.int .i64 0,.int .i64 0,.int .u8 0,.int .u8 0,.int .u8 0,.int .u8 0,.int .u8 0,.int .u8 0,.int .u8 0,.int .u8 0,.int .u8 0,.int .u8 0,.int .u8 0,.int .u8 0,.int .i64 11,kp,.int .i64 0,.int .i64 0,.int .i64 0,.int .i64 0,.int .i64 0,.int .i64 0,.int .i64 0,.int .i64 0,.int .i64 0,.bool false,.bool false,.bool false,.bool false,.bool false,.bool false,.bool false,.int .i64 0,.int .i64 0,.int .i64 0,.int .i64 0,.int .i64 0] 74 (0,0))) (hq:QuE w w0.heap.size gq x) (hn:(x.bs.length:Int)+pastedB.length≤x.room) (hr:x.room≤65536) :
    Calls Tryz.prog 7 #[.pointer (some ⟨ge,0,none⟩),.agg #[.int .i64 4,.int .i64 0,.int .i64 0,.int .i64 0,.int .i64 0,.int .i64 0,.string ⟨#[]⟩,.int .i64 0,.int .i64 0,.int .i64 0,.int .i64 0,.int .i64 0,.bool false,.string ⟨#[27,91,50,48,49,126,98]⟩,.int .i64 0,.int .i64 0,.int .i64 0,.int .i64 0,.int .i64 0,.int .i64 0,.int .i64 0,.int .i64 0,.int .i64 0,.bool false,.bool false,.bool false,.bool false,.bool false,.bool false,.bool false,.int .i64 0,.int .i64 0,.int .i64 0,.int .i64 0]] w fun e w'=>e=.returned (.slice none 0 0)∧w'.heap[ge]?=some (.cells #[.pointer (some ⟨gq,0,none⟩),.pointer (some ⟨gp,0,none⟩),.bool false,.bool false,.bool false,.bool false,.bool true,.bool false,.bool false,.int .i64 0,.int .i64 0,.int .i64 0,.int .u8 0,.int .u8 0,.int .u8 0,.int .u8 0,.int .u8 0,.int .u8 0,.int .u8 0,.int .u8 0,.int .u8 0,.int .u8 0,.int .u8 0,.int .u8 0,.int .i64 11,kp,.int .i64 0,.int .i64 0,.int .i64 0,.int .i64 0,.int .i64 0,.int .i64 0,.int .i64 0,.int .i64 0,.int .i64 0,.bool false,.bool false,.bool false,.bool false,.bool false,.bool false,.bool false,.int .i64 0,.int .i64 0,.int .i64 0,.int .i64 0,.int .i64 0] 74 (0,0))∧QuE w' w0.heap.size gq ⟨x.bs++nat8 pastedB,x.room,x.dr⟩∧Below w0.heap.size w0 w':=by
  refine (eng_do_paste ge 0 0 0 0 0 ⟨#[]⟩ 0 0 0 0 0 false ⟨#[27,91,50,48,49,126,98]⟩ 0 w (fun v w'=>v=.slice none 0 0∧w'.heap[ge]?=some (.cells #[.pointer (some ⟨gq,0,none⟩),.pointer (some ⟨gp,0,none⟩),.bool false,.bool false,.bool false,.bool false,.bool true,.bool false,.bool false,.int .i64 0,.int .i64 0,.int .i64 0,.int .u8 0,.int .u8 0,.int .u8 0,.int .u8 0,.int .u8 0,.int .u8 0,.int .u8 0,.int .u8 0,.int .u8 0,.int .u8 0,.int .u8 0,.int .u8 0,.int .i64 11,kp,.int .i64 0,.int .i64 0,.int .i64 0,.int .i64 0,.int .i64 0,.int .i64 0,.int .i64 0,.int .i64 0,.int .i64 0,.bool false,.bool false,.bool false,.bool false,.bool false,.bool false,.bool false,.int .i64 0,.int .i64 0,.int .i64 0,.int .i64 0,.int .i64 0] 74 (0,0))∧QuE w' w0.heap.size gq ⟨x.bs++nat8 pastedB,x.room,x.dr⟩∧Below w0.heap.size w0 w') (fun W hW=>?_)).mono ?_
  · refine (epaste_calls false false false false false false 0 0 0 11 (.pointer (some ⟨gp,0,none⟩)) kp 0 0 0 0 0 ⟨#[]⟩ 0 0 0 0 0 false 0 ge gq x w0 W (below_step hB0 hW) hp (blk_below he hW) (hq.below hW) hn hr).mono ?_
    rintro e w' ⟨rfl,h1,h2,h3⟩
    exact ⟨_,rfl,rfl,h1,h2,h3⟩
  · rintro e w' ⟨v,rfl,rfl,h1,h2,h3⟩
    exact ⟨rfl,h1,h2,h3⟩
theorem tdrain_calls (ge gq:Nat) (cs:List Value) (x:QS) (w0 w:World) (hB0:Below w0.heap.size w0 w) (he:w.heap[ge]?=some (.cells (.pointer (some ⟨gq,0,none⟩) :: cs).toArray 74 (0,0))) (hq:QuE w w0.heap.size gq x) (hbl:x.bs.length≤65536) :
    Calls Tryz.prog 9 #[.pointer (some ⟨ge,0,none⟩)] w fun e w'=>∃ v,e=.returned v∧Kd.R (Kd.int .u8) 5 w' w0.heap.size (fun _=>True) v x.bs∧Below w0.heap.size w0 w':=by
  have HC:=Aside0.mk (eng_do_drain ge 0 0 0 0 0 ⟨#[]⟩ 0 0 0 0 0 false ⟨#[]⟩ 65536 w (fun v w'=>Kd.R (Kd.int .u8) 5 w' w0.heap.size (fun _=>True) v x.bs∧Below w0.heap.size w0 w') (fun W hW=>by
    refine (edrain_calls 0 0 0 0 0 ⟨#[]⟩ 0 0 0 0 0 false ⟨#[]⟩ 65536 ge gq cs x w0 W (below_step hB0 hW) (blk_below he hW) (hq.below hW) (by omega)).mono ?_
    rintro e w' ⟨v,rfl,h1,_,h3⟩
    rw [show (min (max 65536 0) (x.bs.length:Int)).toNat=x.bs.length by omega,List.take_length] at h1
    exact ⟨_,rfl,h1,h3⟩))
  clear he hq hB0 hbl
  go_enter Tryz.func9,Tryz.ntmps9
  go_wp2_with (first|(go_at_call 7;refine HC.out.mono ?_;rintro e w' ⟨v,rfl,h1,h3⟩;have H1:=Aside0.mk h1;have H3:=Aside0.mk h3;clear h1 h3))
  go_ret
  exact ⟨_,rfl,H1.out,H3.out⟩
end Go.Proofs.YthjacokachgmfaaGreatDoor.H
end
section
namespace Go.Proofs.YthjacokachgmfaaGreatDoor.H
open Go Go.RowKit YthjacokachgmfaaGreatDoorW.PrintWords YthjacokachgmfaaGreatDoorW.PrintLast YthjacokachgmfaaGreatDoorW.PrintMore
open Ev
set_option maxRecDepth 100000
abbrev BL:List Int:=[27,91,63,50,48,48,52,59,49,36,121]++DL
abbrev AL:List Int:=[27,91,63,50,48,48,52,59,49,36,121]
abbrev AS:ByteArray:=⟨#[27,91,63,50,48,48,52,59,49,36,121]⟩
theorem drained {W:World} {b:Nat} {v:Value} (h:Kd.R (Kd.int .u8) 5 W b (fun _=>True) v ((nat8 [27,91,63,50,48,48,52,59,49,36,121]++nat8 [27,91,57,55,117])++nat8 pastedB)):∃ A c,v=.slice A 34 c∧34≤c∧Kd.C (Kd.int .u8) W A 34 BL:=by
  rw [show (nat8 [27,91,63,50,48,48,52,59,49,36,121]++nat8 [27,91,57,55,117])++nat8 pastedB=BL by kernel_rfl] at h
  obtain ⟨A,c,rfl,hc,hC⟩:=Kd.R_reads h
  exact ⟨A,c,rfl,hc,hC⟩
theorem item_cells {W:World} {base:Nat} {v:Value} {sp:ByteArray} (h:W.ownsRow base 58 20 v 2 (cellsTo sp 2)):∃ g cap,v=.slice (some ⟨g,0,none⟩) 2 cap∧W.cell? ⟨g,0,none⟩=some (.int .i64 1)∧W.cell? ⟨g,33,none⟩=some (.string sp):=by
  obtain ⟨_,hc⟩:=h
  rcases hc with ⟨_,h0⟩ | ⟨g,cap,cur,rfl,_,hb,_,_,_,ht⟩
  · cases h0
  have at_:∀ j u,j < 40→(cellsTo sp 2)[j]?=some u→W.cell? ⟨g,j,none⟩=some u:=by
    intro j u hj hu
    refine (blk_cell hb j).trans ?_
    rw [← ht,List.getElem?_take,if_pos (by omega),Array.getElem?_toList] at hu
    exact hu
  exact ⟨g,cap,rfl,at_ 0 _ (by decide) rfl,at_ 33 _ (by decide) rfl⟩
set_option maxHeartbeats 8000000 in
theorem lives_calls (w:World) (hp:Pow w):Calls Tryz.prog 5 #[] w fun e w'=>e=.returned (.bool true)∧Below w.heap.size w w':=by
  have HPW:=Aside0.mk hp
  clear hp
  have hmin:min (34:Int) 11=11:=by decide
  have HB:=Aside0.mk (Below.refl w.heap.size w)
  go_enter Tryz.func5,Tryz.ntmps5
  go_wp2_with (first|(go_at_call 6;refine (eng_new _).mono ?_;rintro e w1 ⟨ge,gq,gp,rfl,he,hq,hpa,ngp,nge,hb⟩;have HE:=Aside0.mk he;have HQ:=Aside0.mk (QuE.of (Qu.low hq HB.out.size));have HPA:=Aside0.mk hpa;have GE:=Aside0.mk (Nat.le_trans HB.out.size nge);have GP:=Aside0.mk (Nat.le_trans HB.out.size ngp);replace HB:=bh HB hb;clear he hq hpa nge ngp hb)|(go_at_call 8;refine (dohost_calls ge gq gp w _ HB.out HPW.out GE.out GP.out HE.out HPA.out HQ.out).mono ?_;rintro e w2 ⟨kp,rfl,he,hq,hb⟩;replace HB:=Aside0.mk (hb);clear HE HQ HPA GE GP;have HE:=Aside0.mk he;have HQ:=Aside0.mk hq;have HK:=Aside0.mk (Eq.refl kp);clear he hq hb)|(go_at_call 7;(first|(have hk_:=HK.out;clear hk_;refine (dokey_calls kp ge gq gp _ w _ HB.out HPW.out HE.out HQ.out (by decide) (by decide)).mono ?_;rintro e w3 ⟨rfl,he,hq,hb⟩;replace HB:=Aside0.mk (hb);clear HE HQ HK;have HE:=Aside0.mk he;have HQ:=Aside0.mk hq;clear he hq hb)|(refine (dopaste_calls kp ge gq gp _ w _ HB.out HPW.out HE.out HQ.out (by decide) (by decide)).mono ?_;rintro e w4 ⟨rfl,he,hq,hb⟩;replace HB:=Aside0.mk (hb);clear HE HQ;have HE:=Aside0.mk he;have HQ:=Aside0.mk hq;clear he hq hb)))|(go_at_call 9;refine (tdrain_calls ge gq _ _ w _ HB.out HE.out HQ.out (by decide)).mono ?_;rintro e w5 ⟨v,rfl,hv,hb⟩;obtain ⟨A,c,rfl,hlc,hC⟩:=drained hv;replace HB:=Aside0.mk (hb);clear HE HQ hv;have HC:=Aside0.mk hC;have HLC:=Aside0.mk hlc;obtain ⟨A1,c1,hcut,hC1,_,hl1⟩:=cutFrom_row (show Kd.C (Kd.int .u8) w5 A BL.length BL from hC) (show BL.length≤c from hlc) 11 (by decide);have hcutA:∀ W:World,(Instr.slice 22 (.slice A 34 c) (some (.int .i64 11)) none none).run Tryz.prog W=.ok (.slice A1 23 c1) W:=hcut;obtain ⟨hcut2,hCt,_⟩:=cutTo_row (show Kd.C (Kd.int .u8) w5 A BL.length BL from hC) (show BL.length≤c from hlc) 11 (by decide);have hcutB:∀ W:World,(Instr.slice 22 (.slice A 34 c) none (some (.int .i64 11)) none).run Tryz.prog W=.ok (.slice A 11 c) W:=hcut2;have HC1:=Aside0.mk (show Kd.C (Kd.int .u8) w5 A1 23 DL from hC1);have HL1:=Aside0.mk (show 23≤c1 from hl1);have HCT:=Aside0.mk (show Kd.C (Kd.int .u8) w5 A 11 AL from hCt);clear hcut hcut2 hC1 hl1 hCt hC hlc hb)|(go_at_call 15;refine (decAll_calls A1 c1 _ (HPW.out.below HB.out) HC1.out HL1.out).mono ?_;rintro e w6 ⟨v,rfl,hr,hb⟩;obtain ⟨gi,cap,rfl,k0,k1⟩:=item_cells hr;have hcv:=Kd.C_string (c:=c) Tryz.underlying22 Tryz.underlying5 Tryz.underlying9 (Kd.C_below HCT.out hb);rw [show strOfNums AL=AS by kernel_rfl] at hcv;replace HB:=bh HB hb;clear HC1 HL1 HCT hr hb))
  go_ret
  exact ⟨rfl,HB.out⟩
end Go.Proofs.YthjacokachgmfaaGreatDoor.H
end
section
namespace Go.Proofs.YthjacokachgmfaaGreatDoor.H
open Go Go.RowKit YthjacokachgmfaaGreatDoorW.PrintWords YthjacokachgmfaaGreatDoorW.PrintLast YthjacokachgmfaaGreatDoorW.PrintMore
open Ev
set_option maxRecDepth 100000
theorem eq35 (a0 a1 a2 t3 t4:Int) (ts:ByteArray) (W:World):(binOp .eql 35 (.agg #[.int .i64 a0,.int .i64 a1,.int .i64 a2,.int .i64 t3,.int .i64 t4,.string ts]) (.agg #[.int .i64 a0,.int .i64 a1,.int .i64 a2,.int .i64 t3,.int .i64 t4,.string ts])).run Tryz.prog W=.ok (.bool true) W:=by
  go_simp
set_option maxHeartbeats 8000000 in
theorem top_no (x0 x1 a0 a1 a2 a3 a4:Int) (s:ByteArray) (w:World) (hp:Pow w) (hM:∀ W,Calls Tryz.prog 11 #[.agg #[.int .i64 a0,.int .i64 a1,.int .i64 a2,.int .i64 a3,.int .i64 a4,.string s]] W fun e w'=>e=.returned (.bool false)∧Below W.heap.size W w') :
    Calls Tryz.prog 4 #[.agg #[.int .u8 x0,.int .u8 x1],.agg #[.int .i64 a0,.int .i64 a1,.int .i64 a2,.int .i64 a3,.int .i64 a4,.string s]] w fun e w'=>e=.returned (.bool true)∧Below w.heap.size w w':=by
  have HPW:=Aside0.mk hp
  have HM:=Aside0.mk hM
  clear hp hM
  have HB:=Aside0.mk (Below.refl w.heap.size w)
  go_enter Tryz.func4,Tryz.ntmps4
  go_wp2_with (first|(refine bx 2 #[.int .u8 x0,.int .u8 x1] 49 (h:=?_);intro g2 hg w1 hbox hb;have HBo:=HB;replace HB:=bh HB hb;have B2:=Aside0.mk hbox;have q2:=cells2 B2.out;have G2:=gG HBo hg;clear hbox hb hg HBo)|(refine bx 3 #[.int .i64 a0,.int .i64 a1,.int .i64 a2,.int .i64 a3,.int .i64 a4,.string s] 35 (h:=?_);intro g3 hg w2 hbox hb;have HBo:=HB;replace B2:=kb B2 hb;clear q2;have q2:=cells2 B2.out;replace HB:=bh HB hb;have B3:=Aside0.mk hbox;have q3:=cells6 B3.out;have G3:=gG HBo hg;clear hbox hb hg HBo)|((with_reducible refine gate_dst (N:=8) rfl ?_);refine lx 35 0 6 B3 Tryz.underlying35 (h:=?_))|(go_at_call 11;refine (HM.out _).mono ?_;rintro e w3 ⟨rfl,hb⟩;replace B2:=kb B2 hb;clear q2;have q2:=cells2 B2.out;replace B3:=kb B3 hb;clear q3;have q3:=cells6 B3.out;replace HB:=bh HB hb;clear hb)|(go_at_call 5;refine (lives_calls _ (HPW.out.below HB.out)).mono ?_;rintro e w4 ⟨rfl,hb⟩;replace B2:=kb B2 hb;clear q2;have q2:=cells2 B2.out;replace B3:=kb B3 hb;clear q3;have q3:=cells6 B3.out;replace HB:=bh HB hb;clear hb))
  go_ret
  exact ⟨rfl,HB.out⟩
set_option maxHeartbeats 8000000 in
theorem top_yes (x0 x1 fa fb a0 a1 a2 a3 a4 t3 t4:Int) (s ts ks:ByteArray) (w:World) (hp:Pow w) (hfa:Go.bits .or .i64 (wrap64 (x0.tmod 32)) 11=fa) (hfb:Go.bits .or .i64 (wrap64 (x1.tmod 32)) fa=fb)
    (hM:∀ W,Calls Tryz.prog 11 #[.agg #[.int .i64 a0,.int .i64 a1,.int .i64 a2,.int .i64 a3,.int .i64 a4,.string s]] W fun e w'=>e=.returned (.bool true)∧Below W.heap.size W w')
    (hT:∀ W,Calls Tryz.prog 12 #[.int .i64 fa,.agg #[.int .i64 a0,.int .i64 a1,.int .i64 a2,.int .i64 a3,.int .i64 a4,.string s]] W fun e w'=>e=.returned (.agg #[.int .i64 a0,.int .i64 a1,.int .i64 a2,.int .i64 t3,.int .i64 t4,.string ts])∧Below W.heap.size W w')
    (hKA:∀ W,Below w.heap.size w W→Calls Tryz.prog 13 #[.int .i64 fa,.agg #[.int .i64 a0,.int .i64 a1,.int .i64 a2,.int .i64 a3,.int .i64 a4,.string s]] W fun e w'=>∃ v,e=.returned v∧(∀ W2,Below w'.heap.size w' W2→(convert 22 9 v).run Tryz.prog W2=.ok (.string ks) W2)∧Below W.heap.size W w')
    (hKB:∀ W,Below w.heap.size w W→Calls Tryz.prog 13 #[.int .i64 fb,.agg #[.int .i64 a0,.int .i64 a1,.int .i64 a2,.int .i64 t3,.int .i64 t4,.string ts]] W fun e w'=>∃ v,e=.returned v∧(∀ W2,Below w'.heap.size w' W2→(convert 22 9 v).run Tryz.prog W2=.ok (.string ks) W2)∧Below W.heap.size W w')
    (hTB:∀ W,Calls Tryz.prog 14 #[.int .i64 fb,.agg #[.int .i64 a0,.int .i64 a1,.int .i64 a2,.int .i64 t3,.int .i64 t4,.string ts]] W fun e w'=>e=.returned (.agg #[.int .i64 a0,.int .i64 a1,.int .i64 a2,.int .i64 t3,.int .i64 t4,.string ts])∧Below W.heap.size W w') :
    Calls Tryz.prog 4 #[.agg #[.int .u8 x0,.int .u8 x1],.agg #[.int .i64 a0,.int .i64 a1,.int .i64 a2,.int .i64 a3,.int .i64 a4,.string s]] w fun e w'=>e=.returned (.bool true)∧Below w.heap.size w w':=by
  have HPW:=Aside0.mk hp
  have HM:=Aside0.mk hM
  have HT:=Aside0.mk hT
  have HKA:=Aside0.mk hKA
  have HKB:=Aside0.mk hKB
  have HTB:=Aside0.mk hTB
  have q35:=eq35 a0 a1 a2 t3 t4 ts
  clear hp hM hT hKA hKB hTB
  have HB:=Aside0.mk (Below.refl w.heap.size w)
  go_enter Tryz.func4,Tryz.ntmps4
  go_wp2_with (first|(refine bx 2 #[.int .u8 x0,.int .u8 x1] 49 (h:=?_);intro g2 hg w1 hbox hb;have HBo:=HB;replace HB:=bh HB hb;have B2:=Aside0.mk hbox;have q2:=cells2 B2.out;have G2:=gG HBo hg;clear hbox hb hg HBo)|(refine bx 3 #[.int .i64 a0,.int .i64 a1,.int .i64 a2,.int .i64 a3,.int .i64 a4,.string s] 35 (h:=?_);intro g3 hg w2 hbox hb;have HBo:=HB;replace B2:=kb B2 hb;clear q2;have q2:=cells2 B2.out;replace HB:=bh HB hb;have B3:=Aside0.mk hbox;have q3:=cells6 B3.out;have G3:=gG HBo hg;clear hbox hb hg HBo)|((with_reducible refine gate_dst (N:=8) rfl ?_);refine lx 35 0 6 B3 Tryz.underlying35 (h:=?_))|(go_at_call 11;refine (HM.out _).mono ?_;rintro e w3 ⟨rfl,hb⟩;replace B2:=kb B2 hb;clear q2;have q2:=cells2 B2.out;replace B3:=kb B3 hb;clear q3;have q3:=cells6 B3.out;replace HB:=bh HB hb;clear hb)|((with_reducible refine gate_dst (N:=24) rfl ?_);refine lx 35 0 6 B3 Tryz.underlying35 (h:=?_))|(go_at_call 12;refine (HT.out _).mono ?_;rintro e w4 ⟨rfl,hb⟩;replace B2:=kb B2 hb;clear q2;have q2:=cells2 B2.out;replace B3:=kb B3 hb;clear q3;have q3:=cells6 B3.out;replace HB:=bh HB hb;clear hb)|(refine bx 7 #[.int .i64 0,.int .i64 0,.int .i64 0,.int .i64 0,.int .i64 0,.string ⟨#[]⟩] 35 (h:=?_);intro g7 hg w5 hbox hb;have HBo:=HB;have L3_:=blk_lt B3.out;replace B2:=kb B2 hb;clear q2;have q2:=cells2 B2.out;replace B3:=kb B3 hb;clear q3;have q3:=cells6 B3.out;replace HB:=bh HB hb;have B7:=Aside0.mk hbox;have q7:=cells6 B7.out;have G7:=gG HBo hg;have NE7_3:=Aside0.mk (show g7≠g3 by omega);have NE3_7:=Aside0.mk (Ne.symm NE7_3.out);clear L3_;clear hbox hb hg HBo)|((with_reducible refine gate_store (t:=35) rfl ?_);refine sx 35 0 B7 (h:=?_);intro w6 hS hg;replace B2:=gnx B2 hg B7;clear q2;have q2:=cells2 B2.out;replace B3:=gk B3 hg NE3_7.out;clear q3;have q3:=cells6 B3.out;replace HB:=gb HB hg G7;clear B7 q7 hg;have B7:=hS;clear hS;have q7:=cells6 B7.out))
  refine st 20 (fun w'=>w'.heap[g3]?=some (.cells #[.int .i64 a0,.int .i64 a1,.int .i64 a2,.int .i64 a3,.int .i64 a4,.string s] 35 (0,0))∧w'.heap[g7]?=some (.cells #[.int .i64 a0,.int .i64 a1,.int .i64 a2,.int .i64 t3,.int .i64 t4,.string ts] 35 (0,0))) [] (hS:=⟨B3.out,B7.out⟩) (h:=fun hHeld=>?_)
  refine pu 0 (h:=?_)
  refine pu 4 (h:=?_)
  refine tl 1 (.agg #[.int .i64 a0,.int .i64 a1,.int .i64 a2,.int .i64 a3,.int .i64 a4,.string s]) hHeld (by rintro _ ⟨⟩;rintro w' ⟨s0,s1⟩;exact load_run 35 _ rfl g3 0 rfl s0 [.int .i64 a0,.int .i64 a1,.int .i64 a2,.int .i64 a3,.int .i64 a4,.string s] rfl _ Tryz.underlying35 rfl (by kernel_rfl)) (h:=?_)
  refine tl 5 (.agg #[.int .i64 a0,.int .i64 a1,.int .i64 a2,.int .i64 t3,.int .i64 t4,.string ts]) hHeld (by rintro _ ⟨⟩;rintro w' ⟨s0,s1⟩;exact load_run 35 _ rfl g7 0 rfl s1 [.int .i64 a0,.int .i64 a1,.int .i64 a2,.int .i64 t3,.int .i64 t4,.string ts] rfl _ Tryz.underlying35 rfl (by kernel_rfl)) (h:=?_)
  refine oS 2 (h:=fun K hK=>?_)
  refine gc Tryz.func13 (HKA.out _ (by first | exact HB.out | exact below_drew1 HB.out)) (h:=?_)
  rintro e w7 ⟨v1,rfl,hv,hb⟩
  refine ⟨_,rfl,?_⟩
  replace B2:=kb B2 hb
  clear q2
  have q2:=cells2 B2.out
  replace B3:=kb B3 hb
  clear q3
  have q3:=cells6 B3.out
  replace B7:=kb B7 hb
  clear q7
  have q7:=cells6 B7.out
  replace HB:=bh HB hb
  have HV1:=Aside0.mk hv
  have HBv1:=Aside0.mk (Below.refl w7.heap.size w7)
  clear hb hv
  refine hK.out _ _ ⟨B3.out,B7.out⟩ (fun hHeld=>?_)
  clear hK K
  refine nm 28 (h:=?_)
  refine tw 3 6 (h1:=fun K hK=>?_) (h2:=fun K hK=>?_)
  · skip
    have hcv:=HV1.out _ HBv1.out
    have hcw:=HV1.out _ (below_drew1 HBv1.out)
    refine value_ (w1:=?_) (v:=?_) (by rfl) rfl ?_ ?_
    rotate_left 2
    · go_simp
      constructor
      · rfl
      · rfl
    clear hcv hcw
    refine hK.out _ _ ⟨B3.out,B7.out⟩ (fun hHeld=>?_)
    clear hK K
    refine nm 29 (h:=?_)
    refine oS 6 (h:=fun K hK=>?_)
    refine gc Tryz.func13 (HKB.out _ (by first | exact HB.out | exact below_drew1 HB.out)) (h:=?_)
    rintro e w8 ⟨v2,rfl,hv,hb⟩
    refine ⟨_,rfl,?_⟩
    replace B2:=kb B2 hb
    clear q2
    have q2:=cells2 B2.out
    replace B3:=kb B3 hb
    clear q3
    have q3:=cells6 B3.out
    replace B7:=kb B7 hb
    clear q7
    have q7:=cells6 B7.out
    replace HB:=bh HB hb
    replace HBv1:=bh HBv1 hb
    have HV2:=Aside0.mk hv
    have HBv2:=Aside0.mk (Below.refl w8.heap.size w8)
    clear hb hv
    refine hK.out _ _ ⟨B3.out,B7.out⟩ (fun hHeld=>?_)
    clear hK K
    refine nm 32 (h:=?_)
    refine oS 7 (h:=fun K hK=>?_)
    have hcv:=HV2.out _ HBv2.out
    have hcw:=HV2.out _ (below_drew1 HBv2.out)
    refine value_ (w1:=?_) (v:=?_) (by rfl) rfl ?_ ?_
    rotate_left 2
    · go_simp
      constructor
      · rfl
      · rfl
    clear hcv hcw
    refine hK.out _ _ ⟨B3.out,B7.out⟩ (fun hHeld=>?_)
    clear hK K
    refine nm 33 (h:=?_)
    refine pu 8 (h:=?_)
    refine pu 9 (h:=?_)
    refine pu 10 (h:=?_)
    refine tl 11 (.agg #[.int .i64 a0,.int .i64 a1,.int .i64 a2,.int .i64 t3,.int .i64 t4,.string ts]) hHeld (by rintro _ ⟨⟩;rintro w' ⟨s0,s1⟩;exact load_run 35 _ rfl g7 0 rfl s1 [.int .i64 a0,.int .i64 a1,.int .i64 a2,.int .i64 t3,.int .i64 t4,.string ts] rfl _ Tryz.underlying35 rfl (by kernel_rfl)) (h:=?_)
    refine tl 13 (.agg #[.int .i64 a0,.int .i64 a1,.int .i64 a2,.int .i64 t3,.int .i64 t4,.string ts]) hHeld (by rintro _ ⟨⟩;rintro w' ⟨s0,s1⟩;exact load_run 35 _ rfl g7 0 rfl s1 [.int .i64 a0,.int .i64 a1,.int .i64 a2,.int .i64 t3,.int .i64 t4,.string ts] rfl _ Tryz.underlying35 rfl (by kernel_rfl)) (h:=?_)
    refine oS 12 (h:=fun K hK=>?_)
    refine gc Tryz.func14 (HTB.out _) (h:=?_)
    rintro e w9 ⟨rfl,hb⟩
    refine ⟨_,rfl,?_⟩
    replace B2:=kb B2 hb
    clear q2
    have q2:=cells2 B2.out
    replace B3:=kb B3 hb
    clear q3
    have q3:=cells6 B3.out
    replace B7:=kb B7 hb
    clear q7
    have q7:=cells6 B7.out
    replace HB:=bh HB hb
    replace HBv1:=bh HBv1 hb
    replace HBv2:=bh HBv2 hb
    clear hb
    refine hK.out _ _ ⟨B3.out,B7.out⟩ (fun hHeld=>?_)
    clear hK K
    refine nm 38 (h:=?_)
    refine pu 14 (h:=?_)
    refine pu 15 (h:=?_)
    refine pu 16 (h:=?_)
    refine oS 17 (h:=fun K hK=>?_)
    refine gc Tryz.func5 (lives_calls _ (HPW.out.below (by first | exact HB.out | exact below_drew1 HB.out))) (h:=?_)
    rintro e w10 ⟨rfl,hb⟩
    refine ⟨_,rfl,?_⟩
    replace B2:=kb B2 hb
    clear q2
    have q2:=cells2 B2.out
    replace B3:=kb B3 hb
    clear q3
    have q3:=cells6 B3.out
    replace B7:=kb B7 hb
    clear q7
    have q7:=cells6 B7.out
    replace HB:=bh HB hb
    replace HBv1:=bh HBv1 hb
    replace HBv2:=bh HBv2 hb
    clear hb
    refine hK.out _ _ ⟨B3.out,B7.out⟩ (fun hHeld=>?_)
    clear hK K
    refine nm 43 (h:=?_)
    refine pu 18 (h:=?_)
    refine pu 19 (h:=?_)
    refine done_ (by kernel_rfl) ?_
    clear hHeld
    go_wp2
    go_ret
    exact ⟨rfl,HB.out⟩
  · skip
    refine gc Tryz.func13 (HKB.out _ (by first | exact HB.out | exact below_drew1 HB.out)) (h:=?_)
    rintro e w8 ⟨v2,rfl,hv,hb⟩
    refine ⟨_,rfl,?_⟩
    replace B2:=kb B2 hb
    clear q2
    have q2:=cells2 B2.out
    replace B3:=kb B3 hb
    clear q3
    have q3:=cells6 B3.out
    replace B7:=kb B7 hb
    clear q7
    have q7:=cells6 B7.out
    replace HB:=bh HB hb
    replace HBv1:=bh HBv1 hb
    have HV2:=Aside0.mk hv
    have HBv2:=Aside0.mk (Below.refl w8.heap.size w8)
    clear hb hv
    refine hK.out _ _ ⟨B3.out,B7.out⟩ (fun hHeld=>?_)
    clear hK K
    refine nm 32 (h:=?_)
    refine tw 3 7 (h1:=fun K hK=>?_) (h2:=fun K hK=>?_)
    · skip
      have hcv:=HV1.out _ HBv1.out
      have hcw:=HV1.out _ (below_drew1 HBv1.out)
      refine value_ (w1:=?_) (v:=?_) (by rfl) rfl ?_ ?_
      rotate_left 2
      · go_simp
        constructor
        · rfl
        · rfl
      clear hcv hcw
      refine hK.out _ _ ⟨B3.out,B7.out⟩ (fun hHeld=>?_)
      clear hK K
      refine nm 29 (h:=?_)
      refine oS 7 (h:=fun K hK=>?_)
      have hcv:=HV2.out _ HBv2.out
      have hcw:=HV2.out _ (below_drew1 HBv2.out)
      refine value_ (w1:=?_) (v:=?_) (by rfl) rfl ?_ ?_
      rotate_left 2
      · go_simp
        constructor
        · rfl
        · rfl
      clear hcv hcw
      refine hK.out _ _ ⟨B3.out,B7.out⟩ (fun hHeld=>?_)
      clear hK K
      refine nm 33 (h:=?_)
      refine pu 8 (h:=?_)
      refine pu 9 (h:=?_)
      refine pu 10 (h:=?_)
      refine tl 11 (.agg #[.int .i64 a0,.int .i64 a1,.int .i64 a2,.int .i64 t3,.int .i64 t4,.string ts]) hHeld (by rintro _ ⟨⟩;rintro w' ⟨s0,s1⟩;exact load_run 35 _ rfl g7 0 rfl s1 [.int .i64 a0,.int .i64 a1,.int .i64 a2,.int .i64 t3,.int .i64 t4,.string ts] rfl _ Tryz.underlying35 rfl (by kernel_rfl)) (h:=?_)
      refine tl 13 (.agg #[.int .i64 a0,.int .i64 a1,.int .i64 a2,.int .i64 t3,.int .i64 t4,.string ts]) hHeld (by rintro _ ⟨⟩;rintro w' ⟨s0,s1⟩;exact load_run 35 _ rfl g7 0 rfl s1 [.int .i64 a0,.int .i64 a1,.int .i64 a2,.int .i64 t3,.int .i64 t4,.string ts] rfl _ Tryz.underlying35 rfl (by kernel_rfl)) (h:=?_)
      refine oS 12 (h:=fun K hK=>?_)
      refine gc Tryz.func14 (HTB.out _) (h:=?_)
      rintro e w9 ⟨rfl,hb⟩
      refine ⟨_,rfl,?_⟩
      replace B2:=kb B2 hb
      clear q2
      have q2:=cells2 B2.out
      replace B3:=kb B3 hb
      clear q3
      have q3:=cells6 B3.out
      replace B7:=kb B7 hb
      clear q7
      have q7:=cells6 B7.out
      replace HB:=bh HB hb
      replace HBv1:=bh HBv1 hb
      replace HBv2:=bh HBv2 hb
      clear hb
      refine hK.out _ _ ⟨B3.out,B7.out⟩ (fun hHeld=>?_)
      clear hK K
      refine nm 38 (h:=?_)
      refine pu 14 (h:=?_)
      refine pu 15 (h:=?_)
      refine pu 16 (h:=?_)
      refine oS 17 (h:=fun K hK=>?_)
      refine gc Tryz.func5 (lives_calls _ (HPW.out.below (by first | exact HB.out | exact below_drew1 HB.out))) (h:=?_)
      rintro e w10 ⟨rfl,hb⟩
      refine ⟨_,rfl,?_⟩
      replace B2:=kb B2 hb
      clear q2
      have q2:=cells2 B2.out
      replace B3:=kb B3 hb
      clear q3
      have q3:=cells6 B3.out
      replace B7:=kb B7 hb
      clear q7
      have q7:=cells6 B7.out
      replace HB:=bh HB hb
      replace HBv1:=bh HBv1 hb
      replace HBv2:=bh HBv2 hb
      clear hb
      refine hK.out _ _ ⟨B3.out,B7.out⟩ (fun hHeld=>?_)
      clear hK K
      refine nm 43 (h:=?_)
      refine pu 18 (h:=?_)
      refine pu 19 (h:=?_)
      refine done_ (by kernel_rfl) ?_
      clear hHeld
      go_wp2
      go_ret
      exact ⟨rfl,HB.out⟩
    · skip
      have hcv:=HV2.out _ HBv2.out
      have hcw:=HV2.out _ (below_drew1 HBv2.out)
      refine value_ (w1:=?_) (v:=?_) (by rfl) rfl ?_ ?_
      rotate_left 2
      · go_simp
        constructor
        · rfl
        · rfl
      clear hcv hcw
      refine hK.out _ _ ⟨B3.out,B7.out⟩ (fun hHeld=>?_)
      clear hK K
      refine nm 33 (h:=?_)
      refine oS 3 (h:=fun K hK=>?_)
      have hcv:=HV1.out _ HBv1.out
      have hcw:=HV1.out _ (below_drew1 HBv1.out)
      refine value_ (w1:=?_) (v:=?_) (by rfl) rfl ?_ ?_
      rotate_left 2
      · go_simp
        constructor
        · rfl
        · rfl
      clear hcv hcw
      refine hK.out _ _ ⟨B3.out,B7.out⟩ (fun hHeld=>?_)
      clear hK K
      refine nm 29 (h:=?_)
      refine pu 8 (h:=?_)
      refine pu 9 (h:=?_)
      refine pu 10 (h:=?_)
      refine tl 11 (.agg #[.int .i64 a0,.int .i64 a1,.int .i64 a2,.int .i64 t3,.int .i64 t4,.string ts]) hHeld (by rintro _ ⟨⟩;rintro w' ⟨s0,s1⟩;exact load_run 35 _ rfl g7 0 rfl s1 [.int .i64 a0,.int .i64 a1,.int .i64 a2,.int .i64 t3,.int .i64 t4,.string ts] rfl _ Tryz.underlying35 rfl (by kernel_rfl)) (h:=?_)
      refine tl 13 (.agg #[.int .i64 a0,.int .i64 a1,.int .i64 a2,.int .i64 t3,.int .i64 t4,.string ts]) hHeld (by rintro _ ⟨⟩;rintro w' ⟨s0,s1⟩;exact load_run 35 _ rfl g7 0 rfl s1 [.int .i64 a0,.int .i64 a1,.int .i64 a2,.int .i64 t3,.int .i64 t4,.string ts] rfl _ Tryz.underlying35 rfl (by kernel_rfl)) (h:=?_)
      refine oS 12 (h:=fun K hK=>?_)
      refine gc Tryz.func14 (HTB.out _) (h:=?_)
      rintro e w9 ⟨rfl,hb⟩
      refine ⟨_,rfl,?_⟩
      replace B2:=kb B2 hb
      clear q2
      have q2:=cells2 B2.out
      replace B3:=kb B3 hb
      clear q3
      have q3:=cells6 B3.out
      replace B7:=kb B7 hb
      clear q7
      have q7:=cells6 B7.out
      replace HB:=bh HB hb
      replace HBv1:=bh HBv1 hb
      replace HBv2:=bh HBv2 hb
      clear hb
      refine hK.out _ _ ⟨B3.out,B7.out⟩ (fun hHeld=>?_)
      clear hK K
      refine nm 38 (h:=?_)
      refine pu 14 (h:=?_)
      refine pu 15 (h:=?_)
      refine pu 16 (h:=?_)
      refine oS 17 (h:=fun K hK=>?_)
      refine gc Tryz.func5 (lives_calls _ (HPW.out.below (by first | exact HB.out | exact below_drew1 HB.out))) (h:=?_)
      rintro e w10 ⟨rfl,hb⟩
      refine ⟨_,rfl,?_⟩
      replace B2:=kb B2 hb
      clear q2
      have q2:=cells2 B2.out
      replace B3:=kb B3 hb
      clear q3
      have q3:=cells6 B3.out
      replace B7:=kb B7 hb
      clear q7
      have q7:=cells6 B7.out
      replace HB:=bh HB hb
      replace HBv1:=bh HBv1 hb
      replace HBv2:=bh HBv2 hb
      clear hb
      refine hK.out _ _ ⟨B3.out,B7.out⟩ (fun hHeld=>?_)
      clear hK K
      refine nm 43 (h:=?_)
      refine pu 18 (h:=?_)
      refine pu 19 (h:=?_)
      refine done_ (by kernel_rfl) ?_
      clear hHeld
      go_wp2
      go_ret
      exact ⟨rfl,HB.out⟩
end Go.Proofs.YthjacokachgmfaaGreatDoor.H
end
