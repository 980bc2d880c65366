import Derived.Test.YthjacokachgmfaaGreatDoorT04
import Derived.Test.YthjacokachgmfaaGreatDoorT37
set_option linter.unusedVariables false
set_option linter.unusedSimpArgs false
section
namespace Go.Proofs.YthjacokachgmfaaGreatDoor.H
open Go Go.RowKit YthjacokachgmfaaGreatDoorW.PrintWords YthjacokachgmfaaGreatDoorW.PrintLast YthjacokachgmfaaGreatDoorW.PrintMore
open Ev SeqK
set_option maxRecDepth 100000
theorem cell_same {W W':World} {a:Addr} (h:W'.heap[a.block]?=W.heap[a.block]?):W'.cell? a=W.cell? a:=by
  unfold World.cell?
  rw [h]
theorem conv_step2 {ops:Array Oper} {o:Oper} {a:Act} {Q:Exit→Act→World→Prop} {Kc:Act→World→Prop} {E:Prop} {W:World} {s:ByteArray} {x:Operand} (hw:Region.wanted o (yielded ops a.tmps)=true) (ho:o.op=.convert 9 22 x) (hx:a.eval x=.string s) (l:List Int) (n:Nat) (hl:numsS s=l) (hn:l.length=n) (hs:s.size≤2000000)
    (h:∀ g c w1,(∀ W',W'.heap[g]?=w1.heap[g]?→Kd.C (Kd.int .u8) W' (some ⟨g,0,none⟩) n l)→n≤c→W.heap.size≤g→g < w1.heap.size→Below W.heap.size W w1→Kc (a.put o.dst (.slice (some ⟨g,0,none⟩) n c)) w1):if Region.wanted o (yielded ops a.tmps)=true then Oper.wp Tryz.prog o a W Kc Q else E:=by
  rw [if_pos hw]
  subst hl
  subst hn
  unfold Oper.wp execOp
  simp only [ho,hx,Sem.run_bind,conv_run,Result.andThen_ok,Sem.run_pure]
  refine h _ _ _ (fun W' hW'=>?_) (by rw [numsS_len];exact cap_le _ _ _) (Nat.le_refl _) (by rw [Lib.bytesWorld_size];omega) (conv_below W s)
  obtain ⟨h1,h2,h3⟩:=conv_c W s hs
  refine ⟨h1,h2,fun hp=>?_⟩
  obtain ⟨ad,e,hc⟩:=h3 hp
  injection e with e
  subst e
  refine ⟨_,rfl,fun j p hj=>?_⟩
  obtain ⟨cs,k1,k2,k3⟩:=hc j p hj
  refine ⟨cs,k1,k2,fun i u hu=>?_⟩
  exact (cell_same (by unfold Addr.add;split<;>exact hW')).trans (k3 i u hu)
theorem QuE.keptP {w w':World} {base q p:Nat} {x:QS} {cp:Array Value} (h:QuE w base q x) (hk:Kept w w' (fun k=>False∨k=p)) (hp:w.heap[p]?=some (.cells cp 117 (0,0))):QuE w' base q x:=by
  obtain ⟨P,hP,h0,sl,h1,h2⟩:=h
  refine QuE.of (Qu.kept ⟨h0,sl,h1,h2⟩ hk ?_ ?_)
  · rintro (h | rfl)
    · exact h
    · exact blk_ne h1 hp (by decide) rfl
  · rintro k hk2 (h | rfl)
    · exact h
    · obtain ⟨_,cells,hc⟩:=hP k hk2
      exact blk_ne hc hp (by decide) rfl
theorem QuE.grown {w w':World} {base q g t:Nat} {x:QS} {cg:Array Value} (h:QuE w base q x) (hp:w.heap[g]?=some (.cells cg t (0,0))) (t1:5≠t) (t2:110≠t) (hg:w.grownBy w' (some g)):QuE w' base q x:=by
  obtain ⟨P,hP,h0,sl,h1,h2⟩:=h
  exact QuE.of (P:=P) ⟨h0,sl,blk_grown h1 hg (fun e=>blk_ne h1 hp t2 (by injection e)),Kd.R_grown h2 hg (fun k hk e=>by
    obtain ⟨_,cells,hc⟩:=hP k hk
    exact blk_ne hc hp t1 (by injection e))⟩
theorem R_keepT {w w':World} {base:Nat} {PO:Nat→Prop} {v:Value} {xs:List S44} (h:k44.R 44 w base PO v xs) (hk:KeepT w w'):k44.R 44 w' base PO v xs :=
  Kd.R_mono (Kd.R_step (Kd.R_bound h) (fun k hk1 hlt=>by
    obtain ⟨_,_,_,q,hq,cells,hc⟩:=hk1
    have hq':q∈[44,66,3]:=hq
    refine (hk.2 k cells q hc (fun e=>?_) (fun e=>?_)).trans hc.symm
    · subst e
      exact absurd hq' (by decide)
    · subst e
      exact absurd hq' (by decide))) (fun _ h=>h.1)
theorem plainAns:Plain 1 63 121 [36] []:=⟨.inl ⟨rfl,rfl⟩,.inr (by decide),by decide,⟨by decide,by simp⟩,by simp⟩
theorem listAns:listedT [[2004],[1]]=true:=by kernel_rfl
theorem ansT:csiT 63 [[2004],[1]] [36] 121=[27,91,63,50,48,48,52,59,49,36,121]:=by kernel_rfl
def sIdle:PSt:=⟨0,0,0,[],[],false,[]⟩
def outsD:List S44:=[⟨1,63,[[2004]],⟨#[]⟩,104,⟨#[]⟩⟩,⟨1,63,[[2004]],⟨#[36]⟩,112,⟨#[]⟩⟩,⟨1,62,[[11]],⟨#[]⟩,117,⟨#[]⟩⟩]
def sDone:PSt:=⟨0,0,0,[],[],false,outsD⟩
theorem runDone:runF sIdle [27,91,63,50,48,48,52,104,27,91,63,50,48,48,52,36,112,27,91,62,49,49,117]=some sDone:=by kernel_rfl
theorem parser_PaO {w:World} {base p:Nat} (hp:base≤p) (h:w.heap[p]?=some (.cells #[.nilFunc,.int .i64 0,.int .u8 0,.slice none 0 0,.string ⟨#[]⟩,.int .u8 0,.string ⟨#[]⟩,.slice none 0 0,.slice none 0 0,.bool false,.bool false,.bool false,.slice none 0 0] 117 (0,0))):PaO w base p (fun _=>False) (modeV sIdle.mode) sIdle :=
  ⟨fun _=>False,fun _=>False,none,0,0,⟨hp,.slice none 0 0,h,Kd.R_nil _ _ _ _ _⟩,Kd.R_nil _ _ _ _ _,fun _ h=>h,fun _ h=>h⟩
theorem feedD (w0 w:World) (gp gd cd:Nat) (hB:Below w0.heap.size w0 w) (hp:w0.heap.size≤gp) (h:w.heap[gp]?=some (.cells #[.nilFunc,.int .i64 0,.int .u8 0,.slice none 0 0,.string ⟨#[]⟩,.int .u8 0,.string ⟨#[]⟩,.slice none 0 0,.slice none 0 0,.bool false,.bool false,.bool false,.slice none 0 0] 117 (0,0)))
    (hr:∀ W,Kept w W (fun k=>False∨k=gp)→Kd.C (Kd.int .u8) W (some ⟨gd,0,none⟩) ([27,91,63,50,48,48,52,104,27,91,63,50,48,48,52,36,112,27,91,62,49,49,117]:List Int).length [27,91,63,50,48,48,52,104,27,91,63,50,48,48,52,36,112,27,91,62,49,49,117]) :
    Calls Tryz.prog 54 #[.pointer (some ⟨gp,0,none⟩),.slice (some ⟨gd,0,none⟩) ([27,91,63,50,48,48,52,104,27,91,63,50,48,48,52,36,112,27,91,62,49,49,117]:List Int).length cd] w fun e w'=>∃ oA oc PO,e=.returned (.slice oA 3 oc)∧k44.R 44 w' w0.heap.size PO (.slice oA 3 oc) outsD∧Below w0.heap.size w0 w'∧Kept w w' (fun k=>False∨k=gp):=by
  refine (feed_calls w0 w gp (fun _=>False) sIdle sDone (some ⟨gd,0,none⟩) cd [27,91,63,50,48,48,52,104,27,91,63,50,48,48,52,36,112,27,91,62,49,49,117] hB (parser_PaO hp h) hr (by decide) runDone).mono ?_
  rintro e w' ⟨oA,oc,PO,he,hO,_,_,hb,hk⟩
  exact ⟨oA,oc,PO,he,hO,hb,hk⟩
set_option maxHeartbeats 16000000 in
theorem ehost_calls (k0 k1 k2 k3 k4:Int) (kt:ByteArray) (m0 m1 m2 m3 m4:Int) (sin:Bool) (sn:Int) (ge gq gp:Nat) (w0 w:World) (hB0:Below w0.heap.size w0 w) (hp:Pow w0) (hge:w0.heap.size≤ge) (hgp:w0.heap.size≤gp) (he:w.heap[ge]?=some (.cells #[.pointer (some ⟨gq,0,none⟩),.pointer (some ⟨gp,0,none⟩),.bool false,.bool false,.bool false,.bool false,.bool false,.bool false,.bool false,.int .i64 0,.int .i64 0,.int .i64 0,.int .u8 0,.int .u8 0,.int .u8 0,.int .u8 0,.int .u8 0,.int .u8 0,.int .u8 0,.int .u8 0,.int .u8 0,.int .u8 0,.int .u8 0,.int .u8 0,.int .i64 0,.slice none 0 0,.int .i64 0,.int .i64 0,.int .i64 0,.int .i64 0,.int .i64 0,.int .i64 0,.int .i64 0,.int .i64 0,.int .i64 0,.bool false,.bool false,.bool false,.bool false,.bool false,.bool false,.bool false,.int .i64 0,.int .i64 0,.int .i64 0,.int .i64 0,.int .i64 0] 74 (0,0))) (hpa:w.heap[gp]?=some (.cells #[.nilFunc,.int .i64 0,.int .u8 0,.slice none 0 0,.string ⟨#[]⟩,.int .u8 0,.string ⟨#[]⟩,.slice none 0 0,.slice none 0 0,.bool false,.bool false,.bool false,.slice none 0 0] 117 (0,0)))
    (hq:QuE w w0.heap.size gq ⟨[],200,0⟩) :
    Calls Tryz.prog 23 #[.pointer (some ⟨ge,0,none⟩),.agg #[.int .i64 5,.int .i64 k0,.int .i64 k1,.int .i64 k2,.int .i64 k3,.int .i64 k4,.string kt,.int .i64 m0,.int .i64 m1,.int .i64 m2,.int .i64 m3,.int .i64 m4,.bool sin,.string ⟨#[27,91,63,50,48,48,52,104,27,91,63,50,48,48,52,36,112,27,91,62,49,49,117]⟩,.int .i64 0,.int .i64 0,.int .i64 0,.int .i64 0,.int .i64 0,.int .i64 0,.int .i64 0,.int .i64 0,.int .i64 0,.bool false,.bool false,.bool false,.bool false,.bool false,.bool false,.bool false,.int .i64 0,.int .i64 0,.int .i64 0,.int .i64 sn]] w fun e w'=>∃ kp,e=.returned (.slice none 0 0)∧w'.heap[ge]?=some (.cells #[.pointer (some ⟨gq,0,none⟩),.pointer (some ⟨gp,0,none⟩),.bool false,.bool false,.bool false,.bool false,.bool true,.bool false,.bool false,.int .i64 0,.int .i64 0,.int .i64 0,.int .u8 0,.int .u8 0,.int .u8 0,.int .u8 0,.int .u8 0,.int .u8 0,.int .u8 0,.int .u8 0,.int .u8 0,.int .u8 0,.int .u8 0,.int .u8 0,.int .i64 (pushF 11),kp,.int .i64 0,.int .i64 0,.int .i64 0,.int .i64 0,.int .i64 0,.int .i64 0,.int .i64 0,.int .i64 0,.int .i64 0,.bool false,.bool false,.bool false,.bool false,.bool false,.bool false,.bool false,.int .i64 0,.int .i64 0,.int .i64 0,.int .i64 0,.int .i64 0] 74 (0,0))∧QuE w' w0.heap.size gq ⟨[]++nat8 [27,91,63,50,48,48,52,59,49,36,121],200,0⟩∧Below w0.heap.size w0 w':=by
  have HP:=Aside0.mk hp
  have HQ:=Aside0.mk hq
  have Be:=Aside0.mk he
  have Bp:=Aside0.mk hpa
  have BpO:=Aside0.mk hpa
  have HGE:=Aside0.mk hge
  have HGP:=Aside0.mk hgp
  have HB:=Aside0.mk hB0
  have HLP:=Aside0.mk (Nat.le_refl w.heap.size)
  clear hp hq he hpa hge hgp hB0
  have qe:=cells47 Be.out
  go_enter Tryz.func23,Tryz.ntmps23
  go_wp2_with (first|(refine bx 3 #[.int .i64 5,.int .i64 k0,.int .i64 k1,.int .i64 k2,.int .i64 k3,.int .i64 k4,.string kt,.int .i64 m0,.int .i64 m1,.int .i64 m2,.int .i64 m3,.int .i64 m4,.bool sin,.string ⟨#[27,91,63,50,48,48,52,104,27,91,63,50,48,48,52,36,112,27,91,62,49,49,117]⟩,.int .i64 0,.int .i64 0,.int .i64 0,.int .i64 0,.int .i64 0,.int .i64 0,.int .i64 0,.int .i64 0,.int .i64 0,.bool false,.bool false,.bool false,.bool false,.bool false,.bool false,.bool false,.int .i64 0,.int .i64 0,.int .i64 0,.int .i64 sn] 39 (h:=?_);intro g3 hg w1 hbox hb;have HBo:=HB;replace Be:=kb Be hb;clear qe;have qe:=cells47 Be.out;replace HB:=bh HB hb;replace HQ:=Aside0.mk (HQ.out.below (by first | exact hb | exact below_step (below_drew1 (Below.refl _ _)) hb));replace Bp:=kb Bp hb;have B3:=Aside0.mk hbox;have q3:=cells34 B3.out;have G3:=gG HBo hg;clear hbox hb hg HBo))
  refine st 10 (fun w'=>w'.cell? ⟨ge,1,none⟩=some (.pointer (some ⟨gp,0,none⟩))∧w'.cell? ⟨g3,13,none⟩=some (.string ⟨#[27,91,63,50,48,48,52,104,27,91,63,50,48,48,52,36,112,27,91,62,49,49,117]⟩)) [] (hS:=⟨qe.2.1,q3.2.2.2.2.2.2.2.2.2.2.2.2.2.1⟩) (h:=fun hHeld=>?_)
  refine pu 0 (h:=?_)
  refine pu 1 (h:=?_)
  refine pu 2 (h:=?_)
  refine pu 4 (h:=?_)
  refine pu 9 (h:=?_)
  refine tk 3 hHeld (h:=?_)
  refine tk 5 hHeld (h:=?_)
  refine oS 6 (h:=fun K hK=>?_)
  refine conv_step2 (by rfl) rfl rfl [27,91,63,50,48,48,52,104,27,91,63,50,48,48,52,36,112,27,91,62,49,49,117] 23 (by kernel_rfl) rfl (by decide) ?_
  intro gd cd w2 hcv hlc hgd hgd2 hb
  have HNE:=Aside0.mk (show gd≠gp from fun e=>absurd (blk_lt (blk_drew Bp.out)) (by rw [← e];exact Nat.not_lt.2 hgd))
  replace Be:=kb Be hb
  clear qe
  have qe:=cells47 Be.out
  replace B3:=kb B3 hb
  clear q3
  have q3:=cells34 B3.out
  replace HB:=bh HB hb
  replace HQ:=Aside0.mk (HQ.out.below (by first | exact hb | exact below_step (below_drew1 (Below.refl _ _)) hb))
  replace Bp:=kb Bp hb
  have HCV:=Aside0.mk (show ∀ W',W'.heap[gd]?=w2.heap[gd]?→Kd.C (Kd.int .u8) W' (some ⟨gd,0,none⟩) ([27,91,63,50,48,48,52,104,27,91,63,50,48,48,52,36,112,27,91,62,49,49,117]:List Int).length [27,91,63,50,48,48,52,104,27,91,63,50,48,48,52,36,112,27,91,62,49,49,117] from hcv)
  have HGD:=Aside0.mk hgd2
  clear hcv hlc hgd hgd2 hb
  refine hK.out _ _ ⟨qe.2.1,q3.2.2.2.2.2.2.2.2.2.2.2.2.2.1⟩ (fun hHeld=>?_)
  clear hK K
  refine nm 20 (h:=?_)
  refine oS 7 (h:=fun K hK=>?_)
  have HCVK:=Aside0.mk (show ∀ W,Kept w2 W (fun k=>False∨k=gp)→Kd.C (Kd.int .u8) W (some ⟨gd,0,none⟩) ([27,91,63,50,48,48,52,104,27,91,63,50,48,48,52,36,112,27,91,62,49,49,117]:List Int).length [27,91,63,50,48,48,52,104,27,91,63,50,48,48,52,36,112,27,91,62,49,49,117] from fun W hk=>HCV.out W (hk.2 gd HGD.out (by rintro (h | h);exact h;exact HNE.out h)))
  refine gc Tryz.func54 (feedD w0 _ gp gd cd HB.out HGP.out Bp.out HCVK.out) (h:=?_)
  rintro e w3 ⟨oA,oc,PO,rfl,hO,hb2,hk⟩
  refine ⟨_,rfl,?_⟩
  replace HQ:=Aside0.mk (HQ.out.keptP hk Bp.out)
  replace Be:=Aside0.mk ((hk.2 _ (blk_lt Be.out) (by rintro (h | h);exact h;exact blk_ne Be.out Bp.out (by decide) h)).trans Be.out)
  clear qe
  have qe:=cells47 Be.out
  replace B3:=Aside0.mk ((hk.2 _ (blk_lt B3.out) (by rintro (h | h);exact h;exact blk_ne B3.out Bp.out (by decide) h)).trans B3.out)
  clear q3
  have q3:=cells34 B3.out
  have HB_:=Aside0.mk hb2
  clear HB
  have HB:=HB_
  clear HB_
  have HO:=Aside0.mk hO
  clear hb2 hk hO Bp
  refine hK.out _ _ ⟨qe.2.1,q3.2.2.2.2.2.2.2.2.2.2.2.2.2.1⟩ (fun hHeld=>?_)
  clear hK K
  refine nm 21 (h:=?_)
  refine pu 8 (h:=?_)
  refine done_ (by kernel_rfl) ?_
  clear hHeld
  go_wp2
  show Code.wp _ _ _ _ _
  go_loopg [23] 4 (fun kq v23 W=>Aside0 (Below w0.heap.size w0 W)∧((v23=.int .i64 0∧4≤kq∧Aside0 (W.heap[ge]?=some (.cells #[.pointer (some ⟨gq,0,none⟩),.pointer (some ⟨gp,0,none⟩),.bool false,.bool false,.bool false,.bool false,.bool false,.bool false,.bool false,.int .i64 0,.int .i64 0,.int .i64 0,.int .u8 0,.int .u8 0,.int .u8 0,.int .u8 0,.int .u8 0,.int .u8 0,.int .u8 0,.int .u8 0,.int .u8 0,.int .u8 0,.int .u8 0,.int .u8 0,.int .i64 0,.slice none 0 0,.int .i64 0,.int .i64 0,.int .i64 0,.int .i64 0,.int .i64 0,.int .i64 0,.int .i64 0,.int .i64 0,.int .i64 0,.bool false,.bool false,.bool false,.bool false,.bool false,.bool false,.bool false,.int .i64 0,.int .i64 0,.int .i64 0,.int .i64 0,.int .i64 0] 74 (0,0)))∧Aside0 (QuE W w0.heap.size gq ⟨[],200,0⟩)∧Aside0 (k44.R 44 W w0.heap.size PO (.slice oA 3 oc) outsD))∨(v23=.int .i64 1∧3≤kq∧Aside0 (W.heap[ge]?=some (.cells #[.pointer (some ⟨gq,0,none⟩),.pointer (some ⟨gp,0,none⟩),.bool false,.bool false,.bool false,.bool false,.bool true,.bool false,.bool false,.int .i64 0,.int .i64 0,.int .i64 0,.int .u8 0,.int .u8 0,.int .u8 0,.int .u8 0,.int .u8 0,.int .u8 0,.int .u8 0,.int .u8 0,.int .u8 0,.int .u8 0,.int .u8 0,.int .u8 0,.int .i64 0,.slice none 0 0,.int .i64 0,.int .i64 0,.int .i64 0,.int .i64 0,.int .i64 0,.int .i64 0,.int .i64 0,.int .i64 0,.int .i64 0,.bool false,.bool false,.bool false,.bool false,.bool false,.bool false,.bool false,.int .i64 0,.int .i64 0,.int .i64 0,.int .i64 0,.int .i64 0] 74 (0,0)))∧Aside0 (QuE W w0.heap.size gq ⟨[],200,0⟩)∧Aside0 (k44.R 44 W w0.heap.size PO (.slice oA 3 oc) outsD))∨(v23=.int .i64 2∧2≤kq∧Aside0 (W.heap[ge]?=some (.cells #[.pointer (some ⟨gq,0,none⟩),.pointer (some ⟨gp,0,none⟩),.bool false,.bool false,.bool false,.bool false,.bool true,.bool false,.bool false,.int .i64 0,.int .i64 0,.int .i64 0,.int .u8 0,.int .u8 0,.int .u8 0,.int .u8 0,.int .u8 0,.int .u8 0,.int .u8 0,.int .u8 0,.int .u8 0,.int .u8 0,.int .u8 0,.int .u8 0,.int .i64 0,.slice none 0 0,.int .i64 0,.int .i64 0,.int .i64 0,.int .i64 0,.int .i64 0,.int .i64 0,.int .i64 0,.int .i64 0,.int .i64 0,.bool false,.bool false,.bool false,.bool false,.bool false,.bool false,.bool false,.int .i64 0,.int .i64 0,.int .i64 0,.int .i64 0,.int .i64 0] 74 (0,0)))∧Aside0 (QuE W w0.heap.size gq ⟨[]++nat8 [27,91,63,50,48,48,52,59,49,36,121],200,0⟩)∧Aside0 (k44.R 44 W w0.heap.size PO (.slice oA 3 oc) outsD))∨(v23=.int .i64 3∧1≤kq∧∃ kp,Aside0 (W.heap[ge]?=some (.cells #[.pointer (some ⟨gq,0,none⟩),.pointer (some ⟨gp,0,none⟩),.bool false,.bool false,.bool false,.bool false,.bool true,.bool false,.bool false,.int .i64 0,.int .i64 0,.int .i64 0,.int .u8 0,.int .u8 0,.int .u8 0,.int .u8 0,.int .u8 0,.int .u8 0,.int .u8 0,.int .u8 0,.int .u8 0,.int .u8 0,.int .u8 0,.int .u8 0,.int .i64 (pushF 11),kp,.int .i64 0,.int .i64 0,.int .i64 0,.int .i64 0,.int .i64 0,.int .i64 0,.int .i64 0,.int .i64 0,.int .i64 0,.bool false,.bool false,.bool false,.bool false,.bool false,.bool false,.bool false,.int .i64 0,.int .i64 0,.int .i64 0,.int .i64 0,.int .i64 0] 74 (0,0)))∧Aside0 (QuE W w0.heap.size gq ⟨[]++nat8 [27,91,63,50,48,48,52,59,49,36,121],200,0⟩))))
  case atStart=>exact ⟨HB,.inl ⟨rfl,by omega,Be,HQ,HO⟩⟩
  case round =>
    clear Be HQ HB HO B3 qe q3
    obtain ⟨HBr,hrel⟩:=hrel
    rcases hrel with ⟨hv,hk,Be,HQ,HO⟩ | ⟨hv,hk,Be,HQ,HO⟩ | ⟨hv,hk,Be,HQ,HO⟩ | ⟨rfl,hk,kp,Be,HQ⟩
    · obtain ⟨k1,rfl⟩:∃ k1,gk=k1+1:=⟨gk - 1,by omega⟩
      obtain ⟨kk,hkk,rfl⟩:∃ kk:Int,kk=0∧u23=.int .i64 kk:=⟨_,rfl,hv⟩
      obtain ⟨ad,A2,c2,eA,z0,z1,z2,z3,z4,z5,hc2,hC2⟩:=at_T44 (Kd.R_reads' HO.out).2.2 kk (by omega) (by rw [hkk];decide)
      have hrd:rd_T44 outsD kk=(⟨1,63,[[2004]],⟨#[]⟩,104,⟨#[]⟩⟩:S44):=by rw [hkk];rfl
      rw [hrd] at z0 z1 z2 z3 z4 z5 hC2
      have HC2:=Aside0.mk (show Kd.C kli wr A2 1 [[2004]] from hC2)
      have z0:wr.cell? (ad.add (kk.toNat * 6))=some (.int .i64 1):=z0
      have z1:wr.cell? ⟨(ad.add (kk.toNat * 6)).block,(ad.add (kk.toNat * 6)).off+1,none⟩=some (.int .u8 63):=z1
      have z2:wr.cell? ⟨(ad.add (kk.toNat * 6)).block,(ad.add (kk.toNat * 6)).off+2,none⟩=some (.slice A2 1 c2):=z2
      have z3:wr.cell? ⟨(ad.add (kk.toNat * 6)).block,(ad.add (kk.toNat * 6)).off+3,none⟩=some (.string ⟨#[]⟩):=z3
      have z4:wr.cell? ⟨(ad.add (kk.toNat * 6)).block,(ad.add (kk.toNat * 6)).off+4,none⟩=some (.int .u8 104):=z4
      have z5:wr.cell? ⟨(ad.add (kk.toNat * 6)).block,(ad.add (kk.toNat * 6)).off+5,none⟩=some (.string ⟨#[]⟩):=z5
      subst eA
      have p1:(0:Int)≤kk:=by omega
      have p2:kk < 3:=by omega
      have c1:decide (kk < 3)=true:=decide_eq_true p2
      have E4:=Aside0.mk (show kk+1=1 by omega)
      have HB:=Aside0.mk (Below.refl wr.heap.size wr)
      clear hkk hC2 hc2 hrd hv
      have qe:=cells47 Be.out
      go_wp2_with (first|(refine bx 6 #[.int .i64 0,.int .u8 0,.slice none 0 0,.string ⟨#[]⟩,.int .u8 0,.string ⟨#[]⟩] 44 (h:=?_);intro g6 hg w1 hbox hb;have HBo:=HB;replace Be:=kb Be hb;clear qe;have qe:=cells47 Be.out;replace HB:=bh HB hb;have B6:=Aside0.mk hbox;have q6:=cells6 B6.out;have G6:=gG HBo hg;clear hbox hb hg HBo)|((with_reducible refine gate_store (t:=44) rfl ?_);refine sx 44 0 B6 (h:=?_);intro w2 hS hg;replace Be:=gnx Be hg B6;clear qe;have qe:=cells47 Be.out;replace HB:=gb HB hg G6;clear B6 q6 hg;have B6:=hS;clear hS;have q6:=cells6 B6.out))
      refine st 18 (fun w'=>w'.heap[ge]?=some (.cells #[.pointer (some ⟨gq,0,none⟩),.pointer (some ⟨gp,0,none⟩),.bool false,.bool false,.bool false,.bool false,.bool false,.bool false,.bool false,.int .i64 0,.int .i64 0,.int .i64 0,.int .u8 0,.int .u8 0,.int .u8 0,.int .u8 0,.int .u8 0,.int .u8 0,.int .u8 0,.int .u8 0,.int .u8 0,.int .u8 0,.int .u8 0,.int .u8 0,.int .i64 0,.slice none 0 0,.int .i64 0,.int .i64 0,.int .i64 0,.int .i64 0,.int .i64 0,.int .i64 0,.int .i64 0,.int .i64 0,.int .i64 0,.bool false,.bool false,.bool false,.bool false,.bool false,.bool false,.bool false,.int .i64 0,.int .i64 0,.int .i64 0,.int .i64 0,.int .i64 0] 74 (0,0))∧w'.heap[g6]?=some (.cells #[.int .i64 1,.int .u8 63,.slice A2 1 c2,.string ⟨#[]⟩,.int .u8 104,.string ⟨#[]⟩] 44 (0,0))) [] (hS:=⟨Be.out,B6.out⟩) (h:=fun hHeld=>?_)
      refine pu 0 (h:=?_)
      refine pu 1 (h:=?_)
      refine pu 2 (h:=?_)
      refine pu 4 (h:=?_)
      refine pu 5 (h:=?_)
      refine pu 6 (h:=?_)
      refine tl 3 (.agg #[.bool false,.bool false,.bool false,.bool false,.bool false,.bool false,.bool false,.int .i64 0,.int .i64 0,.int .i64 0,.int .u8 0,.int .u8 0,.int .u8 0,.int .u8 0,.int .u8 0,.int .u8 0,.int .u8 0,.int .u8 0,.int .u8 0,.int .u8 0,.int .u8 0,.int .u8 0,.int .i64 0,.slice none 0 0]) hHeld (by rintro _ ⟨⟩;rintro w' ⟨s0,s1⟩;exact load_run 70 _ rfl ge 2 rfl s0 [.bool false,.bool false,.bool false,.bool false,.bool false,.bool false,.bool false,.int .i64 0,.int .i64 0,.int .i64 0,.int .u8 0,.int .u8 0,.int .u8 0,.int .u8 0,.int .u8 0,.int .u8 0,.int .u8 0,.int .u8 0,.int .u8 0,.int .u8 0,.int .u8 0,.int .u8 0,.int .i64 0,.slice none 0 0] rfl _ Tryz.underlying70 rfl (by kernel_rfl)) (h:=?_)
      refine tl 7 (.agg #[.int .i64 0,.int .i64 0,.int .i64 0,.int .i64 0,.int .i64 0,.int .i64 0,.int .i64 0,.int .i64 0,.int .i64 0,.bool false,.bool false,.bool false,.bool false,.bool false,.bool false,.bool false,.int .i64 0,.int .i64 0,.int .i64 0]) hHeld (by rintro _ ⟨⟩;rintro w' ⟨s0,s1⟩;exact load_run 26 _ rfl ge 26 rfl s0 [.int .i64 0,.int .i64 0,.int .i64 0,.int .i64 0,.int .i64 0,.int .i64 0,.int .i64 0,.int .i64 0,.int .i64 0,.bool false,.bool false,.bool false,.bool false,.bool false,.bool false,.bool false,.int .i64 0,.int .i64 0,.int .i64 0] rfl _ Tryz.underlying26 rfl (by kernel_rfl)) (h:=?_)
      refine tl 8 (.agg #[.int .i64 1,.int .u8 63,.slice A2 1 c2,.string ⟨#[]⟩,.int .u8 104,.string ⟨#[]⟩]) hHeld (by rintro _ ⟨⟩;rintro w' ⟨s0,s1⟩;exact load_run 44 _ rfl g6 0 rfl s1 [.int .i64 1,.int .u8 63,.slice A2 1 c2,.string ⟨#[]⟩,.int .u8 104,.string ⟨#[]⟩] rfl _ Tryz.underlying44 rfl (by kernel_rfl)) (h:=?_)
      refine tw 9 14 (h1:=fun K hK=>?_) (h2:=fun K hK=>?_)
      · skip
        refine gc Tryz.func55 (do_set false false false false false false false 0 0 0 0 none 0 0 A2 c2 _ (Kd.C_below HC2.out (by first | exact HB.out | exact below_drew1 HB.out))) (h:=?_)
        rintro e w3 ⟨_,rfl,hb⟩
        refine ⟨_,rfl,?_⟩
        replace Be:=kb Be hb
        clear qe
        have qe:=cells47 Be.out
        replace B6:=kb B6 hb
        clear q6
        have q6:=cells6 B6.out
        replace HB:=bh HB hb
        clear hb
        refine hK.out _ _ ⟨Be.out,B6.out⟩ (fun hHeld=>?_)
        clear hK K
        refine nm 37 (h:=?_)
        refine pu 10 (h:=?_)
        refine pu 11 (h:=?_)
        refine pu 12 (h:=?_)
        refine pu 13 (h:=?_)
        refine oS 14 (h:=fun K hK=>?_)
        refine box_step 7 (by rfl) (by rfl) (cs:=#[.bool false,.bool false,.bool false,.bool false,.bool false,.bool false,.bool false,.int .i64 0,.int .i64 0,.int .i64 0,.int .u8 0,.int .u8 0,.int .u8 0,.int .u8 0,.int .u8 0,.int .u8 0,.int .u8 0,.int .u8 0,.int .u8 0,.int .u8 0,.int .u8 0,.int .u8 0,.int .i64 0,.slice none 0 0]) (t:=70) (by first|(go_simp;done)|(go_simp;rfl)) ?_
        intro g7 hg w4 hbox hb
        have HBo:=HB
        replace Be:=kb Be hb
        clear qe
        have qe:=cells47 Be.out
        replace B6:=kb B6 hb
        clear q6
        have q6:=cells6 B6.out
        replace HB:=bh HB hb
        have B7:=Aside0.mk hbox
        have q7:=cells24 B7.out
        have G7:=Aside0.mk (show wr.heap.size≤g7 by rw [hg];first | exact below_size HBo.out | exact below_size (below_drew1 HBo.out))
        clear hbox hb hg HBo
        refine hK.out _ _ ⟨Be.out,B6.out⟩ (fun hHeld=>?_)
        clear hK K
        refine nm 7 (h:=?_)
        refine oN 15 (h:=fun K hK=>?_)
        refine store_step (by rfl) (by rfl) 70 (.tmp 7) (.tmp 38) (by rfl) g7 0 70 _ B7.out (by rfl) _ (by rfl) [.bool false,.bool false,.bool false,.bool false,.bool true,.bool false,.bool false,.int .i64 0,.int .i64 0,.int .i64 0,.int .u8 0,.int .u8 0,.int .u8 0,.int .u8 0,.int .u8 0,.int .u8 0,.int .u8 0,.int .u8 0,.int .u8 0,.int .u8 0,.int .u8 0,.int .u8 0,.int .i64 0,.slice none 0 0] rfl (by kernel_rfl) (by show 0+24≤24;decide) (by simp [Value.oneCell']) #[.bool false,.bool false,.bool false,.bool false,.bool true,.bool false,.bool false,.int .i64 0,.int .i64 0,.int .i64 0,.int .u8 0,.int .u8 0,.int .u8 0,.int .u8 0,.int .u8 0,.int .u8 0,.int .u8 0,.int .u8 0,.int .u8 0,.int .u8 0,.int .u8 0,.int .u8 0,.int .i64 0,.slice none 0 0] rfl ?_
        intro w5 hS hg
        replace Be:=gnx Be hg B7
        clear qe
        have qe:=cells47 Be.out
        replace B6:=gnx B6 hg B7
        clear q6
        have q6:=cells6 B6.out
        replace HB:=gb HB hg G7
        clear B7 q7 hg
        have B7:=Aside0.mk hS
        clear hS
        have q7:=cells24 B7.out
        refine hK.out _ _ ⟨Be.out,B6.out⟩ (fun hHeld=>?_)
        clear hK K
        refine pu 16 (h:=?_)
        refine pu 17 (h:=?_)
        refine done_ (by kernel_rfl) ?_
        clear hHeld
        go_wp2_with (first|((with_reducible refine gate_dst (N:=42) rfl ?_);refine lx 70 0 24 B7 Tryz.underlying70 (h:=?_))|((with_reducible refine gate_store (t:=70) rfl ?_);refine sx 70 2 Be (h:=?_);intro w7 hS hg;have HW0:=Aside0.mk ((below_step HBr.out HB.out).grown hg (below_size (below_step HBr.out HB.out)) (fun k hk=>by injection hk with hk;rw [← hk];exact HGE.out));have HQ7:=Aside0.mk (QuE.grown (HQ.out.below HB.out) Be.out (by decide) (by decide) hg);have HO7:=Aside0.mk (R_grownT (Kd.R_below HO.out HB.out) Be.out (by decide) hg);clear Be B6 B7 HB qe q6 q7 hg;have Be:=hS;clear hS))
        show Code.wp _ _ _ _ _
        go_loopg [47] 1 (fun kq v47 W=>v47=.int .i64 0∧Aside0 (W=w7))
        case atStart=>exact ⟨rfl,⟨rfl⟩⟩
        case round =>
          obtain ⟨rfl,hw7⟩:=hrel
          obtain rfl:w7=wr:=hw7.out.symm
          go_wp2
          go_roundg k1
          case measure=>omega
          case rel=>exact ⟨HW0,.inr (.inl ⟨by rw [E4.out],by omega,Be,HQ7,HO7⟩)⟩
      · skip
        refine box_step 7 (by rfl) (by rfl) (cs:=#[.bool false,.bool false,.bool false,.bool false,.bool false,.bool false,.bool false,.int .i64 0,.int .i64 0,.int .i64 0,.int .u8 0,.int .u8 0,.int .u8 0,.int .u8 0,.int .u8 0,.int .u8 0,.int .u8 0,.int .u8 0,.int .u8 0,.int .u8 0,.int .u8 0,.int .u8 0,.int .i64 0,.slice none 0 0]) (t:=70) (by first|(go_simp;done)|(go_simp;rfl)) ?_
        intro g7 hg w4 hbox hb
        have HBo:=HB
        replace Be:=kb Be hb
        clear qe
        have qe:=cells47 Be.out
        replace B6:=kb B6 hb
        clear q6
        have q6:=cells6 B6.out
        replace HB:=bh HB hb
        have B7:=Aside0.mk hbox
        have q7:=cells24 B7.out
        have G7:=Aside0.mk (show wr.heap.size≤g7 by rw [hg];first | exact below_size HBo.out | exact below_size (below_drew1 HBo.out))
        clear hbox hb hg HBo
        refine hK.out _ _ ⟨Be.out,B6.out⟩ (fun hHeld=>?_)
        clear hK K
        refine nm 7 (h:=?_)
        refine oS 9 (h:=fun K hK=>?_)
        refine gc Tryz.func55 (do_set false false false false false false false 0 0 0 0 none 0 0 A2 c2 _ (Kd.C_below HC2.out (by first | exact HB.out | exact below_drew1 HB.out))) (h:=?_)
        rintro e w3 ⟨_,rfl,hb⟩
        refine ⟨_,rfl,?_⟩
        replace Be:=kb Be hb
        clear qe
        have qe:=cells47 Be.out
        replace B6:=kb B6 hb
        clear q6
        have q6:=cells6 B6.out
        replace B7:=kb B7 hb
        clear q7
        have q7:=cells24 B7.out
        replace HB:=bh HB hb
        clear hb
        refine hK.out _ _ ⟨Be.out,B6.out⟩ (fun hHeld=>?_)
        clear hK K
        refine nm 37 (h:=?_)
        refine pu 10 (h:=?_)
        refine pu 11 (h:=?_)
        refine pu 12 (h:=?_)
        refine pu 13 (h:=?_)
        refine oN 15 (h:=fun K hK=>?_)
        refine store_step (by rfl) (by rfl) 70 (.tmp 7) (.tmp 38) (by rfl) g7 0 70 _ B7.out (by rfl) _ (by rfl) [.bool false,.bool false,.bool false,.bool false,.bool true,.bool false,.bool false,.int .i64 0,.int .i64 0,.int .i64 0,.int .u8 0,.int .u8 0,.int .u8 0,.int .u8 0,.int .u8 0,.int .u8 0,.int .u8 0,.int .u8 0,.int .u8 0,.int .u8 0,.int .u8 0,.int .u8 0,.int .i64 0,.slice none 0 0] rfl (by kernel_rfl) (by show 0+24≤24;decide) (by simp [Value.oneCell']) #[.bool false,.bool false,.bool false,.bool false,.bool true,.bool false,.bool false,.int .i64 0,.int .i64 0,.int .i64 0,.int .u8 0,.int .u8 0,.int .u8 0,.int .u8 0,.int .u8 0,.int .u8 0,.int .u8 0,.int .u8 0,.int .u8 0,.int .u8 0,.int .u8 0,.int .u8 0,.int .i64 0,.slice none 0 0] rfl ?_
        intro w5 hS hg
        replace Be:=gnx Be hg B7
        clear qe
        have qe:=cells47 Be.out
        replace B6:=gnx B6 hg B7
        clear q6
        have q6:=cells6 B6.out
        replace HB:=gb HB hg G7
        clear B7 q7 hg
        have B7:=Aside0.mk hS
        clear hS
        have q7:=cells24 B7.out
        refine hK.out _ _ ⟨Be.out,B6.out⟩ (fun hHeld=>?_)
        clear hK K
        refine pu 16 (h:=?_)
        refine pu 17 (h:=?_)
        refine done_ (by kernel_rfl) ?_
        clear hHeld
        go_wp2_with (first|((with_reducible refine gate_dst (N:=42) rfl ?_);refine lx 70 0 24 B7 Tryz.underlying70 (h:=?_))|((with_reducible refine gate_store (t:=70) rfl ?_);refine sx 70 2 Be (h:=?_);intro w7 hS hg;have HW0:=Aside0.mk ((below_step HBr.out HB.out).grown hg (below_size (below_step HBr.out HB.out)) (fun k hk=>by injection hk with hk;rw [← hk];exact HGE.out));have HQ7:=Aside0.mk (QuE.grown (HQ.out.below HB.out) Be.out (by decide) (by decide) hg);have HO7:=Aside0.mk (R_grownT (Kd.R_below HO.out HB.out) Be.out (by decide) hg);clear Be B6 B7 HB qe q6 q7 hg;have Be:=hS;clear hS))
        show Code.wp _ _ _ _ _
        go_loopg [47] 1 (fun kq v47 W=>v47=.int .i64 0∧Aside0 (W=w7))
        case atStart=>exact ⟨rfl,⟨rfl⟩⟩
        case round =>
          obtain ⟨rfl,hw7⟩:=hrel
          obtain rfl:w7=wr:=hw7.out.symm
          go_wp2
          go_roundg k1
          case measure=>omega
          case rel=>exact ⟨HW0,.inr (.inl ⟨by rw [E4.out],by omega,Be,HQ7,HO7⟩)⟩
    · obtain ⟨k1,rfl⟩:∃ k1,gk=k1+1:=⟨gk - 1,by omega⟩
      obtain ⟨kk,hkk,rfl⟩:∃ kk:Int,kk=1∧u23=.int .i64 kk:=⟨_,rfl,hv⟩
      obtain ⟨ad,A2,c2,eA,z0,z1,z2,z3,z4,z5,hc2,hC2⟩:=at_T44 (Kd.R_reads' HO.out).2.2 kk (by omega) (by rw [hkk];decide)
      have hrd:rd_T44 outsD kk=(⟨1,63,[[2004]],⟨#[36]⟩,112,⟨#[]⟩⟩:S44):=by rw [hkk];rfl
      rw [hrd] at z0 z1 z2 z3 z4 z5 hC2
      have HC2:=Aside0.mk (show Kd.C kli wr A2 1 [[2004]] from hC2)
      have z0:wr.cell? (ad.add (kk.toNat * 6))=some (.int .i64 1):=z0
      have z1:wr.cell? ⟨(ad.add (kk.toNat * 6)).block,(ad.add (kk.toNat * 6)).off+1,none⟩=some (.int .u8 63):=z1
      have z2:wr.cell? ⟨(ad.add (kk.toNat * 6)).block,(ad.add (kk.toNat * 6)).off+2,none⟩=some (.slice A2 1 c2):=z2
      have z3:wr.cell? ⟨(ad.add (kk.toNat * 6)).block,(ad.add (kk.toNat * 6)).off+3,none⟩=some (.string ⟨#[36]⟩):=z3
      have z4:wr.cell? ⟨(ad.add (kk.toNat * 6)).block,(ad.add (kk.toNat * 6)).off+4,none⟩=some (.int .u8 112):=z4
      have z5:wr.cell? ⟨(ad.add (kk.toNat * 6)).block,(ad.add (kk.toNat * 6)).off+5,none⟩=some (.string ⟨#[]⟩):=z5
      subst eA
      have p1:(0:Int)≤kk:=by omega
      have p2:kk < 3:=by omega
      have c1:decide (kk < 3)=true:=decide_eq_true p2
      have E4:=Aside0.mk (show kk+1=2 by omega)
      have HB:=Aside0.mk (Below.refl wr.heap.size wr)
      clear hkk hC2 hc2 hrd hv
      have qe:=cells47 Be.out
      go_wp2_with (first|(refine bx 6 #[.int .i64 0,.int .u8 0,.slice none 0 0,.string ⟨#[]⟩,.int .u8 0,.string ⟨#[]⟩] 44 (h:=?_);intro g6 hg w1 hbox hb;have HBo:=HB;replace Be:=kb Be hb;clear qe;have qe:=cells47 Be.out;replace HB:=bh HB hb;have B6:=Aside0.mk hbox;have q6:=cells6 B6.out;have G6:=gG HBo hg;clear hbox hb hg HBo)|((with_reducible refine gate_store (t:=44) rfl ?_);refine sx 44 0 B6 (h:=?_);intro w2 hS hg;replace Be:=gnx Be hg B6;clear qe;have qe:=cells47 Be.out;replace HB:=gb HB hg G6;clear B6 q6 hg;have B6:=hS;clear hS;have q6:=cells6 B6.out))
      refine st 18 (fun w'=>w'.heap[ge]?=some (.cells #[.pointer (some ⟨gq,0,none⟩),.pointer (some ⟨gp,0,none⟩),.bool false,.bool false,.bool false,.bool false,.bool true,.bool false,.bool false,.int .i64 0,.int .i64 0,.int .i64 0,.int .u8 0,.int .u8 0,.int .u8 0,.int .u8 0,.int .u8 0,.int .u8 0,.int .u8 0,.int .u8 0,.int .u8 0,.int .u8 0,.int .u8 0,.int .u8 0,.int .i64 0,.slice none 0 0,.int .i64 0,.int .i64 0,.int .i64 0,.int .i64 0,.int .i64 0,.int .i64 0,.int .i64 0,.int .i64 0,.int .i64 0,.bool false,.bool false,.bool false,.bool false,.bool false,.bool false,.bool false,.int .i64 0,.int .i64 0,.int .i64 0,.int .i64 0,.int .i64 0] 74 (0,0))∧w'.heap[g6]?=some (.cells #[.int .i64 1,.int .u8 63,.slice A2 1 c2,.string ⟨#[36]⟩,.int .u8 112,.string ⟨#[]⟩] 44 (0,0))) [] (hS:=⟨Be.out,B6.out⟩) (h:=fun hHeld=>?_)
      refine pu 0 (h:=?_)
      refine pu 1 (h:=?_)
      refine pu 2 (h:=?_)
      refine pu 4 (h:=?_)
      refine pu 5 (h:=?_)
      refine pu 6 (h:=?_)
      refine tl 3 (.agg #[.bool false,.bool false,.bool false,.bool false,.bool true,.bool false,.bool false,.int .i64 0,.int .i64 0,.int .i64 0,.int .u8 0,.int .u8 0,.int .u8 0,.int .u8 0,.int .u8 0,.int .u8 0,.int .u8 0,.int .u8 0,.int .u8 0,.int .u8 0,.int .u8 0,.int .u8 0,.int .i64 0,.slice none 0 0]) hHeld (by rintro _ ⟨⟩;rintro w' ⟨s0,s1⟩;exact load_run 70 _ rfl ge 2 rfl s0 [.bool false,.bool false,.bool false,.bool false,.bool true,.bool false,.bool false,.int .i64 0,.int .i64 0,.int .i64 0,.int .u8 0,.int .u8 0,.int .u8 0,.int .u8 0,.int .u8 0,.int .u8 0,.int .u8 0,.int .u8 0,.int .u8 0,.int .u8 0,.int .u8 0,.int .u8 0,.int .i64 0,.slice none 0 0] rfl _ Tryz.underlying70 rfl (by kernel_rfl)) (h:=?_)
      refine tl 7 (.agg #[.int .i64 0,.int .i64 0,.int .i64 0,.int .i64 0,.int .i64 0,.int .i64 0,.int .i64 0,.int .i64 0,.int .i64 0,.bool false,.bool false,.bool false,.bool false,.bool false,.bool false,.bool false,.int .i64 0,.int .i64 0,.int .i64 0]) hHeld (by rintro _ ⟨⟩;rintro w' ⟨s0,s1⟩;exact load_run 26 _ rfl ge 26 rfl s0 [.int .i64 0,.int .i64 0,.int .i64 0,.int .i64 0,.int .i64 0,.int .i64 0,.int .i64 0,.int .i64 0,.int .i64 0,.bool false,.bool false,.bool false,.bool false,.bool false,.bool false,.bool false,.int .i64 0,.int .i64 0,.int .i64 0] rfl _ Tryz.underlying26 rfl (by kernel_rfl)) (h:=?_)
      refine tl 8 (.agg #[.int .i64 1,.int .u8 63,.slice A2 1 c2,.string ⟨#[36]⟩,.int .u8 112,.string ⟨#[]⟩]) hHeld (by rintro _ ⟨⟩;rintro w' ⟨s0,s1⟩;exact load_run 44 _ rfl g6 0 rfl s1 [.int .i64 1,.int .u8 63,.slice A2 1 c2,.string ⟨#[36]⟩,.int .u8 112,.string ⟨#[]⟩] rfl _ Tryz.underlying44 rfl (by kernel_rfl)) (h:=?_)
      refine tw 9 14 (h1:=fun K hK=>?_) (h2:=fun K hK=>?_)
      · skip
        have HBs:=Aside0.mk (show wr.heap.size≤_ from by first | exact HB.out.size | exact (below_drew1 HB.out).size)
        refine gc Tryz.func55 (do_mode false false false false false false 0 0 0 0 none 0 0 A2 c2 _ (Kd.C_below HC2.out (by first | exact HB.out | exact below_drew1 HB.out))) (h:=?_)
        rintro e w3 ⟨ga,Av,cv,rfl,hga,hba,hkl,hb⟩
        refine ⟨_,rfl,?_⟩
        replace Be:=kb Be hb
        clear qe
        have qe:=cells47 Be.out
        replace B6:=kb B6 hb
        clear q6
        have q6:=cells6 B6.out
        replace HB:=bh HB hb
        have HGA:=Aside0.mk (Nat.le_trans HBs.out hga)
        have HKL:=Aside0.mk (Kd.R_lower hkl HBs.out)
        have Bn:=Aside0.mk hba
        clear hga hba hkl HBs
        clear hb
        have qn:=cells6 Bn.out
        refine hK.out _ _ ⟨Be.out,B6.out⟩ (fun hHeld=>?_)
        clear hK K
        refine nm 37 (h:=?_)
        refine pu 10 (h:=?_)
        refine pu 11 (h:=?_)
        refine pu 12 (h:=?_)
        refine pu 13 (h:=?_)
        refine oS 14 (h:=fun K hK=>?_)
        refine box_step 7 (by rfl) (by rfl) (cs:=#[.bool false,.bool false,.bool false,.bool false,.bool false,.bool false,.bool false,.int .i64 0,.int .i64 0,.int .i64 0,.int .u8 0,.int .u8 0,.int .u8 0,.int .u8 0,.int .u8 0,.int .u8 0,.int .u8 0,.int .u8 0,.int .u8 0,.int .u8 0,.int .u8 0,.int .u8 0,.int .i64 0,.slice none 0 0]) (t:=70) (by first|(go_simp;done)|(go_simp;rfl)) ?_
        intro g7 hg w4 hbox hb
        have HBo:=HB
        replace Be:=kb Be hb
        clear qe
        have qe:=cells47 Be.out
        replace B6:=kb B6 hb
        clear q6
        have q6:=cells6 B6.out
        replace Bn:=kb Bn hb
        clear qn
        have qn:=cells6 Bn.out
        replace HB:=bh HB hb
        replace HKL:=Aside0.mk (Kd.R_below HKL.out hb)
        have B7:=Aside0.mk hbox
        have q7:=cells24 B7.out
        have G7:=Aside0.mk (show wr.heap.size≤g7 by rw [hg];first | exact below_size HBo.out | exact below_size (below_drew1 HBo.out))
        clear hbox hb hg HBo
        refine hK.out _ _ ⟨Be.out,B6.out⟩ (fun hHeld=>?_)
        clear hK K
        refine nm 7 (h:=?_)
        refine oN 15 (h:=fun K hK=>?_)
        refine store_step (by rfl) (by rfl) 70 (.tmp 7) (.tmp 38) (by rfl) g7 0 70 _ B7.out (by rfl) _ (by rfl) [.bool false,.bool false,.bool false,.bool false,.bool true,.bool false,.bool false,.int .i64 0,.int .i64 0,.int .i64 0,.int .u8 0,.int .u8 0,.int .u8 0,.int .u8 0,.int .u8 0,.int .u8 0,.int .u8 0,.int .u8 0,.int .u8 0,.int .u8 0,.int .u8 0,.int .u8 0,.int .i64 0,.slice none 0 0] rfl (by kernel_rfl) (by show 0+24≤24;decide) (by simp [Value.oneCell']) #[.bool false,.bool false,.bool false,.bool false,.bool true,.bool false,.bool false,.int .i64 0,.int .i64 0,.int .i64 0,.int .u8 0,.int .u8 0,.int .u8 0,.int .u8 0,.int .u8 0,.int .u8 0,.int .u8 0,.int .u8 0,.int .u8 0,.int .u8 0,.int .u8 0,.int .u8 0,.int .i64 0,.slice none 0 0] rfl ?_
        intro w5 hS hg
        replace Be:=gnx Be hg B7
        clear qe
        have qe:=cells47 Be.out
        replace B6:=gnx B6 hg B7
        clear q6
        have q6:=cells6 B6.out
        replace Bn:=gnx Bn hg B7
        clear qn
        have qn:=cells6 Bn.out
        replace HB:=gb HB hg G7
        replace HKL:=Aside0.mk (R_grownT HKL.out B7.out (by decide) hg)
        clear B7 q7 hg
        have B7:=Aside0.mk hS
        clear hS
        have q7:=cells24 B7.out
        refine hK.out _ _ ⟨Be.out,B6.out⟩ (fun hHeld=>?_)
        clear hK K
        refine pu 16 (h:=?_)
        refine pu 17 (h:=?_)
        refine done_ (by kernel_rfl) ?_
        clear hHeld
        go_wp2_with (first|((with_reducible refine gate_dst (N:=42) rfl ?_);refine lx 70 0 24 B7 Tryz.underlying70 (h:=?_))|((with_reducible refine gate_store (t:=70) rfl ?_);refine sx 70 2 Be (h:=?_);intro w7 hS hg;have HW0:=Aside0.mk ((below_step HBr.out HB.out).grown hg (below_size (below_step HBr.out HB.out)) (fun k hk=>by injection hk with hk;rw [← hk];exact HGE.out));have HQ7:=Aside0.mk (QuE.grown (HQ.out.below HB.out) Be.out (by decide) (by decide) hg);have HO7:=Aside0.mk (R_grownT (Kd.R_below HO.out HB.out) Be.out (by decide) hg);have Bn_:=Aside0.mk (blk_grown Bn.out hg (fun e=>blk_ne Bn.out Be.out (by decide) (by injection e)));have HKL_:=Aside0.mk (R_grownT HKL.out Be.out (by decide) hg);clear Bn HKL qn;have Bn:=Bn_;have HKL:=HKL_;clear Bn_ HKL_;have qn:=cells6 Bn.out;clear Be B6 B7 HB qe q6 q7 hg;have Be:=hS;clear hS))
        show Code.wp _ _ _ _ _
        go_loopg [47] 2 (fun kq v47 W=>(v47=.int .i64 0∧2≤kq∧Aside0 (W=w7))∨(v47=.int .i64 1∧1≤kq∧Aside0 (Below w0.heap.size w0 W)∧Aside0 (W.heap[ge]?=some (.cells #[.pointer (some ⟨gq,0,none⟩),.pointer (some ⟨gp,0,none⟩),.bool false,.bool false,.bool false,.bool false,.bool true,.bool false,.bool false,.int .i64 0,.int .i64 0,.int .i64 0,.int .u8 0,.int .u8 0,.int .u8 0,.int .u8 0,.int .u8 0,.int .u8 0,.int .u8 0,.int .u8 0,.int .u8 0,.int .u8 0,.int .u8 0,.int .u8 0,.int .i64 0,.slice none 0 0,.int .i64 0,.int .i64 0,.int .i64 0,.int .i64 0,.int .i64 0,.int .i64 0,.int .i64 0,.int .i64 0,.int .i64 0,.bool false,.bool false,.bool false,.bool false,.bool false,.bool false,.bool false,.int .i64 0,.int .i64 0,.int .i64 0,.int .i64 0,.int .i64 0] 74 (0,0)))∧Aside0 (QuE W w0.heap.size gq ⟨[]++nat8 [27,91,63,50,48,48,52,59,49,36,121],200,0⟩)∧Aside0 (k44.R 44 W w0.heap.size PO (.slice (some ad) 3 oc) outsD)))
        case atStart=>exact .inl ⟨rfl,by omega,⟨rfl⟩⟩
        case round =>
          rcases hrel with ⟨rfl,hk2,hw7⟩ | ⟨rfl,hk2,HB9,Be9,HQ9,HO9⟩
          · obtain rfl:w7=wr:=hw7.out.symm
            obtain ⟨k3,rfl⟩:∃ k3,gk=k3+1:=⟨gk - 1,by omega⟩
            have HB:=Aside0.mk (Below.refl w7.heap.size w7)
            have qe:=cells47 Be.out
            have qn:=cells6 Bn.out
            go_wp2_with (first|((with_reducible refine gate_dst (N:=50) rfl ?_);refine load_ev rfl 44 _ rfl ga 0 rfl Bn.out [.int .i64 1,.int .u8 63,.slice Av 2 cv,.string ⟨#[36]⟩,.int .u8 121,.string ⟨#[]⟩] rfl _ Tryz.underlying44 rfl (by kernel_rfl) ?_)|(refine bx 11 #[.int .i64 0,.int .u8 0,.slice none 0 0,.string ⟨#[]⟩,.int .u8 0,.string ⟨#[]⟩] 44 (h:=?_);intro g11 hg w8 hbox hb;have HBo:=HB;have Ln_:=blk_lt Bn.out;replace Be:=kb Be hb;clear qe;have qe:=cells47 Be.out;replace Bn:=kb Bn hb;clear qn;have qn:=cells6 Bn.out;replace HB:=bh HB hb;have B11:=Aside0.mk hbox;have q11:=cells6 B11.out;have G11:=gG HBo hg;have NE11_n:=Aside0.mk (show g11≠ga by omega);have NEn_11:=Aside0.mk (Ne.symm NE11_n.out);clear Ln_;clear hbox hb hg HBo)|((with_reducible refine gate_store (t:=44) rfl ?_);refine sx 44 0 B11 (h:=?_);intro w8 hS hg;replace Be:=gnx Be hg B11;clear qe;have qe:=cells47 Be.out;replace Bn:=gk Bn hg NEn_11.out;clear qn;have qn:=cells6 Bn.out;replace HB:=gb HB hg G11;clear B11 q11 hg;have B11:=hS;clear hS;have q11:=cells6 B11.out)|((with_reducible refine gate_dst (N:=52) rfl ?_);refine load_ev rfl 44 _ rfl g11 0 rfl B11.out [.int .i64 1,.int .u8 63,.slice Av 2 cv,.string ⟨#[36]⟩,.int .u8 121,.string ⟨#[]⟩] rfl _ Tryz.underlying44 rfl (by kernel_rfl) ?_)|(go_at_call 27;refine (put_calls 63 121 [36] Av [[2004],[1]] cv _ plainAns (Kd.R_reads' (Kd.R_below HKL.out HB.out)).2.2 (by simp) (by simp) (HP.out.below (below_step HW0.out HB.out))).mono ?_;rintro e w8 ⟨he,hb⟩;rw [if_pos listAns,ansT] at he;obtain ⟨v,rfl,hv⟩:=he;have HBp:=Aside0.mk (below_step HW0.out HB.out);have HQp:=Aside0.mk (HQ7.out.below HB.out);have HVp:=Aside0.mk hv;have HBx:=Aside0.mk hb;replace Be:=kb Be hb;clear qe;have qe:=cells47 Be.out;replace Bn:=kb Bn hb;clear qn;have qn:=cells6 Bn.out;replace B11:=kb B11 hb;clear q11;have q11:=cells6 B11.out;replace HB:=bh HB hb;clear hb hv)|(go_at_call 48;refine (send_own w0 _ _ ge gq _ ⟨[],200,0⟩ v [27,91,63,50,48,48,52,59,49,36,121] HBp.out HBx.out Be.out HQp.out HVp.out (by decide) (by decide) (by decide)).mono ?_;rintro e w9 ⟨rfl,hq,hk,hb⟩;have Be9:=Aside0.mk (hk.blk Be.out (by decide) (by decide));have HO9:=Aside0.mk (R_keepT (Kd.R_below HO7.out HB.out) hk);have HQ9:=Aside0.mk hq;have HB9:=Aside0.mk hb;clear hq hk hb Be Bn B11 HB qe qn q11))
            go_roundg k3
            case measure=>omega
            case rel=>exact .inr ⟨rfl,by omega,HB9,Be9,HQ9,HO9⟩
          · go_wp2
            go_roundg k1
            case measure=>omega
            case rel=>exact ⟨HB9,.inr (.inr (.inl ⟨by rw [E4.out],by omega,Be9,HQ9,HO9⟩))⟩
      · skip
        refine box_step 7 (by rfl) (by rfl) (cs:=#[.bool false,.bool false,.bool false,.bool false,.bool false,.bool false,.bool false,.int .i64 0,.int .i64 0,.int .i64 0,.int .u8 0,.int .u8 0,.int .u8 0,.int .u8 0,.int .u8 0,.int .u8 0,.int .u8 0,.int .u8 0,.int .u8 0,.int .u8 0,.int .u8 0,.int .u8 0,.int .i64 0,.slice none 0 0]) (t:=70) (by first|(go_simp;done)|(go_simp;rfl)) ?_
        intro g7 hg w4 hbox hb
        have HBo:=HB
        replace Be:=kb Be hb
        clear qe
        have qe:=cells47 Be.out
        replace B6:=kb B6 hb
        clear q6
        have q6:=cells6 B6.out
        replace HB:=bh HB hb
        have B7:=Aside0.mk hbox
        have q7:=cells24 B7.out
        have G7:=Aside0.mk (show wr.heap.size≤g7 by rw [hg];first | exact below_size HBo.out | exact below_size (below_drew1 HBo.out))
        clear hbox hb hg HBo
        refine hK.out _ _ ⟨Be.out,B6.out⟩ (fun hHeld=>?_)
        clear hK K
        refine nm 7 (h:=?_)
        refine oS 9 (h:=fun K hK=>?_)
        have HBs:=Aside0.mk (show wr.heap.size≤_ from by first | exact HB.out.size | exact (below_drew1 HB.out).size)
        refine gc Tryz.func55 (do_mode false false false false false false 0 0 0 0 none 0 0 A2 c2 _ (Kd.C_below HC2.out (by first | exact HB.out | exact below_drew1 HB.out))) (h:=?_)
        rintro e w3 ⟨ga,Av,cv,rfl,hga,hba,hkl,hb⟩
        refine ⟨_,rfl,?_⟩
        replace Be:=kb Be hb
        clear qe
        have qe:=cells47 Be.out
        replace B6:=kb B6 hb
        clear q6
        have q6:=cells6 B6.out
        replace B7:=kb B7 hb
        clear q7
        have q7:=cells24 B7.out
        replace HB:=bh HB hb
        have HGA:=Aside0.mk (Nat.le_trans HBs.out hga)
        have HKL:=Aside0.mk (Kd.R_lower hkl HBs.out)
        have Bn:=Aside0.mk hba
        clear hga hba hkl HBs
        clear hb
        have qn:=cells6 Bn.out
        refine hK.out _ _ ⟨Be.out,B6.out⟩ (fun hHeld=>?_)
        clear hK K
        refine nm 37 (h:=?_)
        refine pu 10 (h:=?_)
        refine pu 11 (h:=?_)
        refine pu 12 (h:=?_)
        refine pu 13 (h:=?_)
        refine oN 15 (h:=fun K hK=>?_)
        refine store_step (by rfl) (by rfl) 70 (.tmp 7) (.tmp 38) (by rfl) g7 0 70 _ B7.out (by rfl) _ (by rfl) [.bool false,.bool false,.bool false,.bool false,.bool true,.bool false,.bool false,.int .i64 0,.int .i64 0,.int .i64 0,.int .u8 0,.int .u8 0,.int .u8 0,.int .u8 0,.int .u8 0,.int .u8 0,.int .u8 0,.int .u8 0,.int .u8 0,.int .u8 0,.int .u8 0,.int .u8 0,.int .i64 0,.slice none 0 0] rfl (by kernel_rfl) (by show 0+24≤24;decide) (by simp [Value.oneCell']) #[.bool false,.bool false,.bool false,.bool false,.bool true,.bool false,.bool false,.int .i64 0,.int .i64 0,.int .i64 0,.int .u8 0,.int .u8 0,.int .u8 0,.int .u8 0,.int .u8 0,.int .u8 0,.int .u8 0,.int .u8 0,.int .u8 0,.int .u8 0,.int .u8 0,.int .u8 0,.int .i64 0,.slice none 0 0] rfl ?_
        intro w5 hS hg
        replace Be:=gnx Be hg B7
        clear qe
        have qe:=cells47 Be.out
        replace B6:=gnx B6 hg B7
        clear q6
        have q6:=cells6 B6.out
        replace Bn:=gnx Bn hg B7
        clear qn
        have qn:=cells6 Bn.out
        replace HB:=gb HB hg G7
        replace HKL:=Aside0.mk (R_grownT HKL.out B7.out (by decide) hg)
        clear B7 q7 hg
        have B7:=Aside0.mk hS
        clear hS
        have q7:=cells24 B7.out
        refine hK.out _ _ ⟨Be.out,B6.out⟩ (fun hHeld=>?_)
        clear hK K
        refine pu 16 (h:=?_)
        refine pu 17 (h:=?_)
        refine done_ (by kernel_rfl) ?_
        clear hHeld
        go_wp2_with (first|((with_reducible refine gate_dst (N:=42) rfl ?_);refine lx 70 0 24 B7 Tryz.underlying70 (h:=?_))|((with_reducible refine gate_store (t:=70) rfl ?_);refine sx 70 2 Be (h:=?_);intro w7 hS hg;have HW0:=Aside0.mk ((below_step HBr.out HB.out).grown hg (below_size (below_step HBr.out HB.out)) (fun k hk=>by injection hk with hk;rw [← hk];exact HGE.out));have HQ7:=Aside0.mk (QuE.grown (HQ.out.below HB.out) Be.out (by decide) (by decide) hg);have HO7:=Aside0.mk (R_grownT (Kd.R_below HO.out HB.out) Be.out (by decide) hg);have Bn_:=Aside0.mk (blk_grown Bn.out hg (fun e=>blk_ne Bn.out Be.out (by decide) (by injection e)));have HKL_:=Aside0.mk (R_grownT HKL.out Be.out (by decide) hg);clear Bn HKL qn;have Bn:=Bn_;have HKL:=HKL_;clear Bn_ HKL_;have qn:=cells6 Bn.out;clear Be B6 B7 HB qe q6 q7 hg;have Be:=hS;clear hS))
        show Code.wp _ _ _ _ _
        go_loopg [47] 2 (fun kq v47 W=>(v47=.int .i64 0∧2≤kq∧Aside0 (W=w7))∨(v47=.int .i64 1∧1≤kq∧Aside0 (Below w0.heap.size w0 W)∧Aside0 (W.heap[ge]?=some (.cells #[.pointer (some ⟨gq,0,none⟩),.pointer (some ⟨gp,0,none⟩),.bool false,.bool false,.bool false,.bool false,.bool true,.bool false,.bool false,.int .i64 0,.int .i64 0,.int .i64 0,.int .u8 0,.int .u8 0,.int .u8 0,.int .u8 0,.int .u8 0,.int .u8 0,.int .u8 0,.int .u8 0,.int .u8 0,.int .u8 0,.int .u8 0,.int .u8 0,.int .i64 0,.slice none 0 0,.int .i64 0,.int .i64 0,.int .i64 0,.int .i64 0,.int .i64 0,.int .i64 0,.int .i64 0,.int .i64 0,.int .i64 0,.bool false,.bool false,.bool false,.bool false,.bool false,.bool false,.bool false,.int .i64 0,.int .i64 0,.int .i64 0,.int .i64 0,.int .i64 0] 74 (0,0)))∧Aside0 (QuE W w0.heap.size gq ⟨[]++nat8 [27,91,63,50,48,48,52,59,49,36,121],200,0⟩)∧Aside0 (k44.R 44 W w0.heap.size PO (.slice (some ad) 3 oc) outsD)))
        case atStart=>exact .inl ⟨rfl,by omega,⟨rfl⟩⟩
        case round =>
          rcases hrel with ⟨rfl,hk2,hw7⟩ | ⟨rfl,hk2,HB9,Be9,HQ9,HO9⟩
          · obtain rfl:w7=wr:=hw7.out.symm
            obtain ⟨k3,rfl⟩:∃ k3,gk=k3+1:=⟨gk - 1,by omega⟩
            have HB:=Aside0.mk (Below.refl w7.heap.size w7)
            have qe:=cells47 Be.out
            have qn:=cells6 Bn.out
            go_wp2_with (first|((with_reducible refine gate_dst (N:=50) rfl ?_);refine load_ev rfl 44 _ rfl ga 0 rfl Bn.out [.int .i64 1,.int .u8 63,.slice Av 2 cv,.string ⟨#[36]⟩,.int .u8 121,.string ⟨#[]⟩] rfl _ Tryz.underlying44 rfl (by kernel_rfl) ?_)|(refine bx 11 #[.int .i64 0,.int .u8 0,.slice none 0 0,.string ⟨#[]⟩,.int .u8 0,.string ⟨#[]⟩] 44 (h:=?_);intro g11 hg w8 hbox hb;have HBo:=HB;have Ln_:=blk_lt Bn.out;replace Be:=kb Be hb;clear qe;have qe:=cells47 Be.out;replace Bn:=kb Bn hb;clear qn;have qn:=cells6 Bn.out;replace HB:=bh HB hb;have B11:=Aside0.mk hbox;have q11:=cells6 B11.out;have G11:=gG HBo hg;have NE11_n:=Aside0.mk (show g11≠ga by omega);have NEn_11:=Aside0.mk (Ne.symm NE11_n.out);clear Ln_;clear hbox hb hg HBo)|((with_reducible refine gate_store (t:=44) rfl ?_);refine sx 44 0 B11 (h:=?_);intro w8 hS hg;replace Be:=gnx Be hg B11;clear qe;have qe:=cells47 Be.out;replace Bn:=gk Bn hg NEn_11.out;clear qn;have qn:=cells6 Bn.out;replace HB:=gb HB hg G11;clear B11 q11 hg;have B11:=hS;clear hS;have q11:=cells6 B11.out)|((with_reducible refine gate_dst (N:=52) rfl ?_);refine load_ev rfl 44 _ rfl g11 0 rfl B11.out [.int .i64 1,.int .u8 63,.slice Av 2 cv,.string ⟨#[36]⟩,.int .u8 121,.string ⟨#[]⟩] rfl _ Tryz.underlying44 rfl (by kernel_rfl) ?_)|(go_at_call 27;refine (put_calls 63 121 [36] Av [[2004],[1]] cv _ plainAns (Kd.R_reads' (Kd.R_below HKL.out HB.out)).2.2 (by simp) (by simp) (HP.out.below (below_step HW0.out HB.out))).mono ?_;rintro e w8 ⟨he,hb⟩;rw [if_pos listAns,ansT] at he;obtain ⟨v,rfl,hv⟩:=he;have HBp:=Aside0.mk (below_step HW0.out HB.out);have HQp:=Aside0.mk (HQ7.out.below HB.out);have HVp:=Aside0.mk hv;have HBx:=Aside0.mk hb;replace Be:=kb Be hb;clear qe;have qe:=cells47 Be.out;replace Bn:=kb Bn hb;clear qn;have qn:=cells6 Bn.out;replace B11:=kb B11 hb;clear q11;have q11:=cells6 B11.out;replace HB:=bh HB hb;clear hb hv)|(go_at_call 48;refine (send_own w0 _ _ ge gq _ ⟨[],200,0⟩ v [27,91,63,50,48,48,52,59,49,36,121] HBp.out HBx.out Be.out HQp.out HVp.out (by decide) (by decide) (by decide)).mono ?_;rintro e w9 ⟨rfl,hq,hk,hb⟩;have Be9:=Aside0.mk (hk.blk Be.out (by decide) (by decide));have HO9:=Aside0.mk (R_keepT (Kd.R_below HO7.out HB.out) hk);have HQ9:=Aside0.mk hq;have HB9:=Aside0.mk hb;clear hq hk hb Be Bn B11 HB qe qn q11))
            go_roundg k3
            case measure=>omega
            case rel=>exact .inr ⟨rfl,by omega,HB9,Be9,HQ9,HO9⟩
          · go_wp2
            go_roundg k1
            case measure=>omega
            case rel=>exact ⟨HB9,.inr (.inr (.inl ⟨by rw [E4.out],by omega,Be9,HQ9,HO9⟩))⟩
    · obtain ⟨k1,rfl⟩:∃ k1,gk=k1+1:=⟨gk - 1,by omega⟩
      obtain ⟨kk,hkk,rfl⟩:∃ kk:Int,kk=2∧u23=.int .i64 kk:=⟨_,rfl,hv⟩
      obtain ⟨ad,A2,c2,eA,z0,z1,z2,z3,z4,z5,hc2,hC2⟩:=at_T44 (Kd.R_reads' HO.out).2.2 kk (by omega) (by rw [hkk];decide)
      have hrd:rd_T44 outsD kk=(⟨1,62,[[11]],⟨#[]⟩,117,⟨#[]⟩⟩:S44):=by rw [hkk];rfl
      rw [hrd] at z0 z1 z2 z3 z4 z5 hC2
      have HC2:=Aside0.mk (show Kd.C kli wr A2 1 [[11]] from hC2)
      have z0:wr.cell? (ad.add (kk.toNat * 6))=some (.int .i64 1):=z0
      have z1:wr.cell? ⟨(ad.add (kk.toNat * 6)).block,(ad.add (kk.toNat * 6)).off+1,none⟩=some (.int .u8 62):=z1
      have z2:wr.cell? ⟨(ad.add (kk.toNat * 6)).block,(ad.add (kk.toNat * 6)).off+2,none⟩=some (.slice A2 1 c2):=z2
      have z3:wr.cell? ⟨(ad.add (kk.toNat * 6)).block,(ad.add (kk.toNat * 6)).off+3,none⟩=some (.string ⟨#[]⟩):=z3
      have z4:wr.cell? ⟨(ad.add (kk.toNat * 6)).block,(ad.add (kk.toNat * 6)).off+4,none⟩=some (.int .u8 117):=z4
      have z5:wr.cell? ⟨(ad.add (kk.toNat * 6)).block,(ad.add (kk.toNat * 6)).off+5,none⟩=some (.string ⟨#[]⟩):=z5
      subst eA
      have p1:(0:Int)≤kk:=by omega
      have p2:kk < 3:=by omega
      have c1:decide (kk < 3)=true:=decide_eq_true p2
      have E4:=Aside0.mk (show kk+1=3 by omega)
      have HB:=Aside0.mk (Below.refl wr.heap.size wr)
      clear hkk hC2 hc2 hrd hv
      have qe:=cells47 Be.out
      go_wp2_with (first|(refine bx 6 #[.int .i64 0,.int .u8 0,.slice none 0 0,.string ⟨#[]⟩,.int .u8 0,.string ⟨#[]⟩] 44 (h:=?_);intro g6 hg w1 hbox hb;have HBo:=HB;replace Be:=kb Be hb;clear qe;have qe:=cells47 Be.out;replace HB:=bh HB hb;have B6:=Aside0.mk hbox;have q6:=cells6 B6.out;have G6:=gG HBo hg;clear hbox hb hg HBo)|((with_reducible refine gate_store (t:=44) rfl ?_);refine sx 44 0 B6 (h:=?_);intro w2 hS hg;replace Be:=gnx Be hg B6;clear qe;have qe:=cells47 Be.out;replace HB:=gb HB hg G6;clear B6 q6 hg;have B6:=hS;clear hS;have q6:=cells6 B6.out))
      refine st 18 (fun w'=>w'.heap[ge]?=some (.cells #[.pointer (some ⟨gq,0,none⟩),.pointer (some ⟨gp,0,none⟩),.bool false,.bool false,.bool false,.bool false,.bool true,.bool false,.bool false,.int .i64 0,.int .i64 0,.int .i64 0,.int .u8 0,.int .u8 0,.int .u8 0,.int .u8 0,.int .u8 0,.int .u8 0,.int .u8 0,.int .u8 0,.int .u8 0,.int .u8 0,.int .u8 0,.int .u8 0,.int .i64 0,.slice none 0 0,.int .i64 0,.int .i64 0,.int .i64 0,.int .i64 0,.int .i64 0,.int .i64 0,.int .i64 0,.int .i64 0,.int .i64 0,.bool false,.bool false,.bool false,.bool false,.bool false,.bool false,.bool false,.int .i64 0,.int .i64 0,.int .i64 0,.int .i64 0,.int .i64 0] 74 (0,0))∧w'.heap[g6]?=some (.cells #[.int .i64 1,.int .u8 62,.slice A2 1 c2,.string ⟨#[]⟩,.int .u8 117,.string ⟨#[]⟩] 44 (0,0))) [] (hS:=⟨Be.out,B6.out⟩) (h:=fun hHeld=>?_)
      refine pu 0 (h:=?_)
      refine pu 1 (h:=?_)
      refine pu 2 (h:=?_)
      refine pu 4 (h:=?_)
      refine pu 5 (h:=?_)
      refine pu 6 (h:=?_)
      refine tl 3 (.agg #[.bool false,.bool false,.bool false,.bool false,.bool true,.bool false,.bool false,.int .i64 0,.int .i64 0,.int .i64 0,.int .u8 0,.int .u8 0,.int .u8 0,.int .u8 0,.int .u8 0,.int .u8 0,.int .u8 0,.int .u8 0,.int .u8 0,.int .u8 0,.int .u8 0,.int .u8 0,.int .i64 0,.slice none 0 0]) hHeld (by rintro _ ⟨⟩;rintro w' ⟨s0,s1⟩;exact load_run 70 _ rfl ge 2 rfl s0 [.bool false,.bool false,.bool false,.bool false,.bool true,.bool false,.bool false,.int .i64 0,.int .i64 0,.int .i64 0,.int .u8 0,.int .u8 0,.int .u8 0,.int .u8 0,.int .u8 0,.int .u8 0,.int .u8 0,.int .u8 0,.int .u8 0,.int .u8 0,.int .u8 0,.int .u8 0,.int .i64 0,.slice none 0 0] rfl _ Tryz.underlying70 rfl (by kernel_rfl)) (h:=?_)
      refine tl 7 (.agg #[.int .i64 0,.int .i64 0,.int .i64 0,.int .i64 0,.int .i64 0,.int .i64 0,.int .i64 0,.int .i64 0,.int .i64 0,.bool false,.bool false,.bool false,.bool false,.bool false,.bool false,.bool false,.int .i64 0,.int .i64 0,.int .i64 0]) hHeld (by rintro _ ⟨⟩;rintro w' ⟨s0,s1⟩;exact load_run 26 _ rfl ge 26 rfl s0 [.int .i64 0,.int .i64 0,.int .i64 0,.int .i64 0,.int .i64 0,.int .i64 0,.int .i64 0,.int .i64 0,.int .i64 0,.bool false,.bool false,.bool false,.bool false,.bool false,.bool false,.bool false,.int .i64 0,.int .i64 0,.int .i64 0] rfl _ Tryz.underlying26 rfl (by kernel_rfl)) (h:=?_)
      refine tl 8 (.agg #[.int .i64 1,.int .u8 62,.slice A2 1 c2,.string ⟨#[]⟩,.int .u8 117,.string ⟨#[]⟩]) hHeld (by rintro _ ⟨⟩;rintro w' ⟨s0,s1⟩;exact load_run 44 _ rfl g6 0 rfl s1 [.int .i64 1,.int .u8 62,.slice A2 1 c2,.string ⟨#[]⟩,.int .u8 117,.string ⟨#[]⟩] rfl _ Tryz.underlying44 rfl (by kernel_rfl)) (h:=?_)
      refine tw 9 14 (h1:=fun K hK=>?_) (h2:=fun K hK=>?_)
      · skip
        refine gc Tryz.func55 (do_kept false false false false true false false 0 0 0 0 11 A2 c2 _ (Kd.C_below HC2.out (by first | exact HB.out | exact below_drew1 HB.out)) (by decide)) (h:=?_)
        rintro e w3 ⟨kA2,kn2,kc2,rfl,hb⟩
        refine ⟨_,rfl,?_⟩
        replace Be:=kb Be hb
        clear qe
        have qe:=cells47 Be.out
        replace B6:=kb B6 hb
        clear q6
        have q6:=cells6 B6.out
        replace HB:=bh HB hb
        clear hb
        refine hK.out _ _ ⟨Be.out,B6.out⟩ (fun hHeld=>?_)
        clear hK K
        refine nm 37 (h:=?_)
        refine pu 10 (h:=?_)
        refine pu 11 (h:=?_)
        refine pu 12 (h:=?_)
        refine pu 13 (h:=?_)
        refine oS 14 (h:=fun K hK=>?_)
        refine box_step 7 (by rfl) (by rfl) (cs:=#[.bool false,.bool false,.bool false,.bool false,.bool false,.bool false,.bool false,.int .i64 0,.int .i64 0,.int .i64 0,.int .u8 0,.int .u8 0,.int .u8 0,.int .u8 0,.int .u8 0,.int .u8 0,.int .u8 0,.int .u8 0,.int .u8 0,.int .u8 0,.int .u8 0,.int .u8 0,.int .i64 0,.slice none 0 0]) (t:=70) (by first|(go_simp;done)|(go_simp;rfl)) ?_
        intro g7 hg w4 hbox hb
        have HBo:=HB
        replace Be:=kb Be hb
        clear qe
        have qe:=cells47 Be.out
        replace B6:=kb B6 hb
        clear q6
        have q6:=cells6 B6.out
        replace HB:=bh HB hb
        have B7:=Aside0.mk hbox
        have q7:=cells24 B7.out
        have G7:=Aside0.mk (show wr.heap.size≤g7 by rw [hg];first | exact below_size HBo.out | exact below_size (below_drew1 HBo.out))
        clear hbox hb hg HBo
        refine hK.out _ _ ⟨Be.out,B6.out⟩ (fun hHeld=>?_)
        clear hK K
        refine nm 7 (h:=?_)
        refine oN 15 (h:=fun K hK=>?_)
        refine store_step (by rfl) (by rfl) 70 (.tmp 7) (.tmp 38) (by rfl) g7 0 70 _ B7.out (by rfl) _ (by rfl) [.bool false,.bool false,.bool false,.bool false,.bool true,.bool false,.bool false,.int .i64 0,.int .i64 0,.int .i64 0,.int .u8 0,.int .u8 0,.int .u8 0,.int .u8 0,.int .u8 0,.int .u8 0,.int .u8 0,.int .u8 0,.int .u8 0,.int .u8 0,.int .u8 0,.int .u8 0,.int .i64 (pushF 11),.slice kA2 kn2 kc2] rfl (by kernel_rfl) (by show 0+24≤24;decide) (by simp [Value.oneCell']) #[.bool false,.bool false,.bool false,.bool false,.bool true,.bool false,.bool false,.int .i64 0,.int .i64 0,.int .i64 0,.int .u8 0,.int .u8 0,.int .u8 0,.int .u8 0,.int .u8 0,.int .u8 0,.int .u8 0,.int .u8 0,.int .u8 0,.int .u8 0,.int .u8 0,.int .u8 0,.int .i64 (pushF 11),.slice kA2 kn2 kc2] rfl ?_
        intro w5 hS hg
        replace Be:=gnx Be hg B7
        clear qe
        have qe:=cells47 Be.out
        replace B6:=gnx B6 hg B7
        clear q6
        have q6:=cells6 B6.out
        replace HB:=gb HB hg G7
        clear B7 q7 hg
        have B7:=Aside0.mk hS
        clear hS
        have q7:=cells24 B7.out
        refine hK.out _ _ ⟨Be.out,B6.out⟩ (fun hHeld=>?_)
        clear hK K
        refine pu 16 (h:=?_)
        refine pu 17 (h:=?_)
        refine done_ (by kernel_rfl) ?_
        clear hHeld
        go_wp2_with (first|((with_reducible refine gate_dst (N:=42) rfl ?_);refine lx 70 0 24 B7 Tryz.underlying70 (h:=?_))|((with_reducible refine gate_store (t:=70) rfl ?_);refine sx 70 2 Be (h:=?_);intro w7 hS hg;have HW0:=Aside0.mk ((below_step HBr.out HB.out).grown hg (below_size (below_step HBr.out HB.out)) (fun k hk=>by injection hk with hk;rw [← hk];exact HGE.out));have HQ7:=Aside0.mk (QuE.grown (HQ.out.below HB.out) Be.out (by decide) (by decide) hg);have HO7:=Aside0.mk (R_grownT (Kd.R_below HO.out HB.out) Be.out (by decide) hg);clear Be B6 B7 HB qe q6 q7 hg;have Be:=hS;clear hS))
        show Code.wp _ _ _ _ _
        go_loopg [47] 1 (fun kq v47 W=>v47=.int .i64 0∧Aside0 (W=w7))
        case atStart=>exact ⟨rfl,⟨rfl⟩⟩
        case round =>
          obtain ⟨rfl,hw7⟩:=hrel
          obtain rfl:w7=wr:=hw7.out.symm
          go_wp2
          go_roundg k1
          case measure=>omega
          case rel=>exact ⟨HW0,.inr (.inr (.inr ⟨by rw [E4.out],by omega,_,Be,HQ7⟩))⟩
      · skip
        refine box_step 7 (by rfl) (by rfl) (cs:=#[.bool false,.bool false,.bool false,.bool false,.bool false,.bool false,.bool false,.int .i64 0,.int .i64 0,.int .i64 0,.int .u8 0,.int .u8 0,.int .u8 0,.int .u8 0,.int .u8 0,.int .u8 0,.int .u8 0,.int .u8 0,.int .u8 0,.int .u8 0,.int .u8 0,.int .u8 0,.int .i64 0,.slice none 0 0]) (t:=70) (by first|(go_simp;done)|(go_simp;rfl)) ?_
        intro g7 hg w4 hbox hb
        have HBo:=HB
        replace Be:=kb Be hb
        clear qe
        have qe:=cells47 Be.out
        replace B6:=kb B6 hb
        clear q6
        have q6:=cells6 B6.out
        replace HB:=bh HB hb
        have B7:=Aside0.mk hbox
        have q7:=cells24 B7.out
        have G7:=Aside0.mk (show wr.heap.size≤g7 by rw [hg];first | exact below_size HBo.out | exact below_size (below_drew1 HBo.out))
        clear hbox hb hg HBo
        refine hK.out _ _ ⟨Be.out,B6.out⟩ (fun hHeld=>?_)
        clear hK K
        refine nm 7 (h:=?_)
        refine oS 9 (h:=fun K hK=>?_)
        refine gc Tryz.func55 (do_kept false false false false true false false 0 0 0 0 11 A2 c2 _ (Kd.C_below HC2.out (by first | exact HB.out | exact below_drew1 HB.out)) (by decide)) (h:=?_)
        rintro e w3 ⟨kA2,kn2,kc2,rfl,hb⟩
        refine ⟨_,rfl,?_⟩
        replace Be:=kb Be hb
        clear qe
        have qe:=cells47 Be.out
        replace B6:=kb B6 hb
        clear q6
        have q6:=cells6 B6.out
        replace B7:=kb B7 hb
        clear q7
        have q7:=cells24 B7.out
        replace HB:=bh HB hb
        clear hb
        refine hK.out _ _ ⟨Be.out,B6.out⟩ (fun hHeld=>?_)
        clear hK K
        refine nm 37 (h:=?_)
        refine pu 10 (h:=?_)
        refine pu 11 (h:=?_)
        refine pu 12 (h:=?_)
        refine pu 13 (h:=?_)
        refine oN 15 (h:=fun K hK=>?_)
        refine store_step (by rfl) (by rfl) 70 (.tmp 7) (.tmp 38) (by rfl) g7 0 70 _ B7.out (by rfl) _ (by rfl) [.bool false,.bool false,.bool false,.bool false,.bool true,.bool false,.bool false,.int .i64 0,.int .i64 0,.int .i64 0,.int .u8 0,.int .u8 0,.int .u8 0,.int .u8 0,.int .u8 0,.int .u8 0,.int .u8 0,.int .u8 0,.int .u8 0,.int .u8 0,.int .u8 0,.int .u8 0,.int .i64 (pushF 11),.slice kA2 kn2 kc2] rfl (by kernel_rfl) (by show 0+24≤24;decide) (by simp [Value.oneCell']) #[.bool false,.bool false,.bool false,.bool false,.bool true,.bool false,.bool false,.int .i64 0,.int .i64 0,.int .i64 0,.int .u8 0,.int .u8 0,.int .u8 0,.int .u8 0,.int .u8 0,.int .u8 0,.int .u8 0,.int .u8 0,.int .u8 0,.int .u8 0,.int .u8 0,.int .u8 0,.int .i64 (pushF 11),.slice kA2 kn2 kc2] rfl ?_
        intro w5 hS hg
        replace Be:=gnx Be hg B7
        clear qe
        have qe:=cells47 Be.out
        replace B6:=gnx B6 hg B7
        clear q6
        have q6:=cells6 B6.out
        replace HB:=gb HB hg G7
        clear B7 q7 hg
        have B7:=Aside0.mk hS
        clear hS
        have q7:=cells24 B7.out
        refine hK.out _ _ ⟨Be.out,B6.out⟩ (fun hHeld=>?_)
        clear hK K
        refine pu 16 (h:=?_)
        refine pu 17 (h:=?_)
        refine done_ (by kernel_rfl) ?_
        clear hHeld
        go_wp2_with (first|((with_reducible refine gate_dst (N:=42) rfl ?_);refine lx 70 0 24 B7 Tryz.underlying70 (h:=?_))|((with_reducible refine gate_store (t:=70) rfl ?_);refine sx 70 2 Be (h:=?_);intro w7 hS hg;have HW0:=Aside0.mk ((below_step HBr.out HB.out).grown hg (below_size (below_step HBr.out HB.out)) (fun k hk=>by injection hk with hk;rw [← hk];exact HGE.out));have HQ7:=Aside0.mk (QuE.grown (HQ.out.below HB.out) Be.out (by decide) (by decide) hg);have HO7:=Aside0.mk (R_grownT (Kd.R_below HO.out HB.out) Be.out (by decide) hg);clear Be B6 B7 HB qe q6 q7 hg;have Be:=hS;clear hS))
        show Code.wp _ _ _ _ _
        go_loopg [47] 1 (fun kq v47 W=>v47=.int .i64 0∧Aside0 (W=w7))
        case atStart=>exact ⟨rfl,⟨rfl⟩⟩
        case round =>
          obtain ⟨rfl,hw7⟩:=hrel
          obtain rfl:w7=wr:=hw7.out.symm
          go_wp2
          go_roundg k1
          case measure=>omega
          case rel=>exact ⟨HW0,.inr (.inr (.inr ⟨by rw [E4.out],by omega,_,Be,HQ7⟩))⟩
    · go_wp2
      go_ret
      exact ⟨rfl,⟨kp,Be.out⟩,HQ.out,HBr.out⟩
end Go.Proofs.YthjacokachgmfaaGreatDoor.H
end
