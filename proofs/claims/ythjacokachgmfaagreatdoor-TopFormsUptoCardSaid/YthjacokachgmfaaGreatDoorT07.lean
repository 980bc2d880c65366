import Derived.Test.YthjacokachgmfaaGreatDoorProg
import Derived.BigRegion
import Derived.Maps.Own
import Derived.Maps.Keyed
import Derived.Deep.RegionHeld3
import Derived.Test.YthjacokachgmfaaGreatDoorT01
import Derived.Test.YthjacokachgmfaaGreatDoorT02
import Derived.Test.YthjacokachgmfaaGreatDoorT03
import Derived.Test.YthjacokachgmfaaGreatDoorT05
import Derived.Test.YthjacokachgmfaaGreatDoorT06
set_option linter.unusedVariables false
set_option linter.unusedSimpArgs false
section
namespace Go.Proofs.YthjacokachgmfaaGreatDoor.H
open Go Go.RowKit YthjacokachgmfaaGreatDoorW.PrintWords YthjacokachgmfaaGreatDoorW.PrintLast YthjacokachgmfaaGreatDoorW.PrintMore
set_option maxRecDepth 100000
theorem store_event {P:Program} {ops:Array Oper} {rest:List Oper} {o:Oper} {a:Act} {Q:Exit→Act→World→Prop} {W:World} (hgd:o.guard=none) (hN:o.dst=none) (t:TypeId) (p x:Operand) (ho:o.op=.store t p x) (g off:Nat) (e:TypeId) (cur:Array Value)
    (hh:W.heap[g]?=some (.cells cur e (0,0))) (hp:a.eval p=.pointer (some ⟨g,off,none⟩)) (u:Value) (hx:a.eval x=u) (seg:List Value) (hu:u.cells.toList=seg) (ht:(P.info? t).map (·.size)=some seg.length) (hfit:off+seg.length≤cur.size)
    (h1:∀ q∈seg,q.oneCell'=true) (cs':Array Value) (hcs:cs'.toList=cur.toList.take off++seg++cur.toList.drop (off+seg.length))
    (h:∀ w',w'.heap[g]?=some (.cells cs' e (0,0))→W.grownBy w' (some g)→wpList P ops Q rest a w'):wpList P ops Q (o :: rest) a W:=by
  refine wpList_plain hgd fun K hK=>?_
  have hrun:=run_store_run (P:=P) t u seg hh hu ht hfit h1
  unfold Oper.wp execOp
  simp only [ho,hp,hx,Sem.run_bind,Sem.run_pure,Result.andThen_ok,hrun]
  show K (a.put o.dst undef) _
  rw [hN]
  obtain ⟨cur',k1,k2,k3⟩:=setCells_row seg off W cur hh hfit
  obtain ⟨s1,s2,s3,s4⟩:=setCells_same g seg off W
  have ec:cur'=cs':=by
    have h2:cur'.toList=cs'.toList:=by rw [k3,hcs]
    exact Array.toList_inj.1 h2
  subst ec
  exact hK a _ (h _ k1 ⟨s1,s2,s3,by rw [s4];exact Nat.le_refl _,fun k _ hk=>setCells_far seg off k (fun he=>hk (by rw [he]))⟩)
theorem R_grownT {α:Type} {d:Kd α} {e:Nat} {w w1:World} {base:Nat} {ok:Nat→Prop} {v:Value} {xs:List α} (h:d.R e w base ok v xs) {g t:Nat} {cells:Array Value} (hb:w.heap[g]?=some (.cells cells t (0,0))) (ht:∀ q,q∈e :: d.E→q≠t) (hg:w.grownBy w1 (some g)):d.R e w1 base ok v xs :=
  Kd.R_mono (Kd.R_grown (Kd.R_types h hb ht) hg (fun k hk e=>hk.2 (by injection e))) (fun _ hk=>hk.1)
structure PS where
  nx:Value
  kind:Int
  priv:Int
  inter:ByteArray
  fin:Int
  text:List Int
  first:Bool
  oA:Option Addr
  on:Nat
  oc:Nat
def PS.cells (x:PS) (tx:Value):Array Value:=#[x.nx,.int .i64 x.kind,.int .u8 x.priv,.slice none 0 0,.string x.inter,.int .u8 x.fin,.string ⟨#[]⟩,tx,.slice none 0 0,.bool x.first,.bool false,.bool false,.slice x.oA x.on x.oc]
def Pa (w:World) (base p:Nat) (P:Nat→Prop) (x:PS):Prop :=
  base≤p∧∃ tx,w.heap[p]?=some (.cells (x.cells tx) 117 (0,0))∧Kd.R (Kd.int .u8) 5 w base P tx x.text
theorem cells13 {w:World} {g:Nat} {t:TypeId} {a0 a1 a2 a3 a4 a5 a6 a7 a8 a9 a10 a11 a12:Value} (h:w.heap[g]?=some (.cells #[a0,a1,a2,a3,a4,a5,a6,a7,a8,a9,a10,a11,a12] t (0,0))) :
    w.cell? ⟨g,0,none⟩=some a0∧w.cell? ⟨g,1,none⟩=some a1∧w.cell? ⟨g,2,none⟩=some a2∧w.cell? ⟨g,3,none⟩=some a3∧w.cell? ⟨g,4,none⟩=some a4∧w.cell? ⟨g,5,none⟩=some a5∧w.cell? ⟨g,6,none⟩=some a6∧w.cell? ⟨g,7,none⟩=some a7∧w.cell? ⟨g,8,none⟩=some a8∧w.cell? ⟨g,9,none⟩=some a9∧w.cell? ⟨g,10,none⟩=some a10∧w.cell? ⟨g,11,none⟩=some a11∧w.cell? ⟨g,12,none⟩=some a12 :=
  ⟨(blk_cell h 0).trans rfl,(blk_cell h 1).trans rfl,(blk_cell h 2).trans rfl,(blk_cell h 3).trans rfl,(blk_cell h 4).trans rfl,(blk_cell h 5).trans rfl,(blk_cell h 6).trans rfl,(blk_cell h 7).trans rfl,(blk_cell h 8).trans rfl,(blk_cell h 9).trans rfl,(blk_cell h 10).trans rfl,(blk_cell h 11).trans rfl,(blk_cell h 12).trans rfl⟩
theorem infoU8p:(Tryz.prog.info? 5).map (fun i=>(i.zero,i.size,i.bytes))=some (some (.int .u8 0),1,1):=by kernel_rfl
theorem ownK {w0 w w1:World} {P:Nat→Prop} {v:Value} {xs:List Int} {p:Nat} (h:Kd.R (Kd.int .u8) 5 w1 w0.heap.size (fun k=>P k∨w.heap.size≤k) v xs) (k:Nat) (hk:v.ownBlock=some k):(P k∨k=p)∨w.heap.size≤k:=by
  rcases h.1 k hk with h | h
  · exact .inl (.inl h)
  · exact .inr h
theorem conv_p (W:World) (g:Nat) (n:Int) (h:W.cell? ⟨g,0,none⟩=some (.int .u8 n)):(convert 22 9 (.slice (some ⟨g,0,none⟩) 1 1)).run Tryz.prog W=.ok (.string ⟨[n.toNat.toUInt8].toArray⟩) W:=by
  have hC:(Kd.int .u8).C W (some ⟨g,0,none⟩) 1 [n]:=Kd.C_of_reads (d:=(0:Int)) ⟨rfl,by omega,fun _=>⟨⟨g,0,none⟩,rfl,fun j hj=>by
    obtain rfl:j=0:=by omega
    exact h⟩⟩
  rw [Kd.C_string (c:=1) Tryz.underlying22 Tryz.underlying5 Tryz.underlying9 hC]
  simp [strOfNums]
theorem contains_open (w:World):Calls Tryz.prog 175 #[.string ⟨#[91,80,93,88,94,95]⟩,.int .i32 91] w fun e w'=>e=.returned (.bool true)∧w'=w :=
  (Tryz.strings_ContainsRune_ascii ⟨#[91,80,93,88,94,95]⟩ 91 w (by decide) (by decide)).mono (fun e w' h=>⟨h.1.trans (by rw [show decide (0≤Lib.indexByte (⟨#[91,80,93,88,94,95]⟩:ByteArray).data.toList (91:Int).toNat.toUInt8)=true by decide]),h.2⟩)
def PS.none (x:PS):PS:=⟨.nilFunc,0,0,⟨#[]⟩,0,[],false,x.oA,x.on,x.oc⟩
set_option maxHeartbeats 8000000 in
theorem drop_calls (w0 w:World) (p:Nat) (P:Nat→Prop) (x:PS) (hB:Below w0.heap.size w0 w) (h:Pa w w0.heap.size p P x) :
    Calls Tryz.prog 146 #[.pointer (some ⟨p,0,none⟩)] w fun e w'=>e=.returned (.tuple #[])∧Pa w' w0.heap.size p P x.none∧Below w0.heap.size w0 w'∧Kept w w' (fun k=>P k∨k=p):=by
  obtain ⟨h0,tx,h1,h2⟩:=h
  obtain ⟨nx,kind,priv,inter,fin,text,first,oA,on,oc⟩:=x
  obtain ⟨A2,c2,rfl⟩:=Kd.R_slice h2
  obtain ⟨q0,q1,q2,q3,q4,q5,q6,q7,q8,q9,q10,q11,q12⟩:=cells13 h1
  have H1:=Aside0.mk h1
  have HB:=Aside0.mk hB
  have HR:=Aside0.mk h2
  have HK:Aside0 (Kept w w (fun k=>P k∨k=p)):=⟨Kept.refl _ _⟩
  clear hB h2 h1
  go_enter Tryz.func146,Tryz.ntmps146
  go_wp2_with (first|((with_reducible refine gate_store (t:=117) rfl ?_);refine store_event rfl rfl 117 _ _ rfl p 0 117 _ H1.out rfl _ rfl [.nilFunc,.int .i64 0,.int .u8 0,.slice none 0 0,.string ⟨#[]⟩,.int .u8 0,.string ⟨#[]⟩,.slice none 0 0,.slice none 0 0,.bool false,.bool false,.bool false,.slice oA on oc] rfl (by kernel_rfl) (by show 0+13≤13;decide) (by simp [Value.oneCell']) #[.nilFunc,.int .i64 0,.int .u8 0,.slice none 0 0,.string ⟨#[]⟩,.int .u8 0,.string ⟨#[]⟩,.slice none 0 0,.slice none 0 0,.bool false,.bool false,.bool false,.slice oA on oc] rfl ?_;intro w1 hS hg;have H1_:=Aside0.mk hS;have HR_:=Aside0.mk (R_grownT HR.out H1.out (by decide) hg);have HB_:=Aside0.mk (HB.out.grown hg (below_size HB.out) (fun k hk=>by injection hk with hk;rw [← hk];exact h0));have HK_:=Aside0.mk (Kept.of_grown hg HK.out (fun k hk=>.inl (.inr (by injection hk with hk;exact hk.symm))));clear H1 HR HB HK hS hg;have H1:=H1_;have HR:=HR_;have HB:=HB_;have HK:=HK_;clear H1_ HR_ HB_ HK_;obtain ⟨q0,q1,q2,q3,q4,q5,q6,q7,q8,q9,q10,q11,q12⟩:=cells13 H1.out))
  (try simp only [Exit.inBlock,Exit.then]);refine bodyPost_end (results_none rfl _ _ _) rfl ?_
  exact ⟨rfl,⟨h0,_,H1.out,Kd.R_nil _ _ _ _ _⟩,HB.out,HK.out⟩
set_option maxHeartbeats 8000000 in
theorem opened_calls (w0 w:World) (p:Nat) (P:Nat→Prop) (x:PS) (hB:Below w0.heap.size w0 w) (h:Pa w w0.heap.size p P x) :
    Calls Tryz.prog 200 #[.pointer (some ⟨p,0,none⟩),.int .u8 91] w fun e w'=>e=.returned (.func (.func 243) #[] #[])∧Pa w' w0.heap.size p P { x with kind:=1,first:=true }∧Below w0.heap.size w0 w'∧Kept w w' (fun k=>P k∨k=p):=by
  obtain ⟨h0,tx,h1,h2⟩:=h
  obtain ⟨nx,kind,priv,inter,fin,text,first,oA,on,oc⟩:=x
  obtain ⟨A2,c2,rfl⟩:=Kd.R_slice h2
  obtain ⟨q0,q1,q2,q3,q4,q5,q6,q7,q8,q9,q10,q11,q12⟩:=cells13 h1
  have H1:=Aside0.mk h1
  have HB:=Aside0.mk hB
  have HR:=Aside0.mk h2
  have HK:Aside0 (Kept w w (fun k=>P k∨k=p)):=⟨Kept.refl _ _⟩
  clear hB h2 h1
  go_enter Tryz.func200,Tryz.ntmps200
  go_wp2_with (first|((with_reducible refine gate_store (t:=3) rfl ?_);refine store_event rfl rfl 3 _ _ rfl p 1 117 _ H1.out rfl _ rfl [.int .i64 1] rfl (by kernel_rfl) (by show 1+1≤13;decide) (by simp [Value.oneCell']) #[nx,.int .i64 1,.int .u8 priv,.slice none 0 0,.string inter,.int .u8 fin,.string ⟨#[]⟩,.slice A2 text.length c2,.slice none 0 0,.bool first,.bool false,.bool false,.slice oA on oc] rfl ?_;intro w1 hS hg;have H1_:=Aside0.mk hS;have HR_:=Aside0.mk (R_grownT HR.out H1.out (by decide) hg);have HB_:=Aside0.mk (HB.out.grown hg (below_size HB.out) (fun k hk=>by injection hk with hk;rw [← hk];exact h0));have HK_:=Aside0.mk (Kept.of_grown hg HK.out (fun k hk=>.inl (.inr (by injection hk with hk;exact hk.symm))));clear H1 HR HB HK hS hg;have H1:=H1_;have HR:=HR_;have HB:=HB_;have HK:=HK_;clear H1_ HR_ HB_ HK_;obtain ⟨q0,q1,q2,q3,q4,q5,q6,q7,q8,q9,q10,q11,q12⟩:=cells13 H1.out)|((with_reducible refine gate_store (t:=4) rfl ?_);refine store_event rfl rfl 4 _ _ rfl p 9 117 _ H1.out rfl _ rfl [.bool true] rfl (by kernel_rfl) (by show 9+1≤13;decide) (by simp [Value.oneCell']) #[nx,.int .i64 1,.int .u8 priv,.slice none 0 0,.string inter,.int .u8 fin,.string ⟨#[]⟩,.slice A2 text.length c2,.slice none 0 0,.bool true,.bool false,.bool false,.slice oA on oc] rfl ?_;intro w2 hS hg;have H1_:=Aside0.mk hS;have HR_:=Aside0.mk (R_grownT HR.out H1.out (by decide) hg);have HB_:=Aside0.mk (HB.out.grown hg (below_size HB.out) (fun k hk=>by injection hk with hk;rw [← hk];exact h0));have HK_:=Aside0.mk (Kept.of_grown hg HK.out (fun k hk=>.inl (.inr (by injection hk with hk;exact hk.symm))));clear H1 HR HB HK hS hg;have H1:=H1_;have HR:=HR_;have HB:=HB_;have HK:=HK_;clear H1_ HR_ HB_ HK_;obtain ⟨q0,q1,q2,q3,q4,q5,q6,q7,q8,q9,q10,q11,q12⟩:=cells13 H1.out))
  go_ret
  exact ⟨rfl,⟨h0,_,H1.out,HR.out⟩,HB.out,HK.out⟩
set_option maxHeartbeats 8000000 in
theorem head_figure (w0 w:World) (p:Nat) (P:Nat→Prop) (x:PS) (c:Int) (hB:Below w0.heap.size w0 w) (h:Pa w w0.heap.size p P x) (hi:x.inter=⟨#[]⟩) (hc:48≤c∧c≤59) (hl:x.text.length < 1000) :
    Calls Tryz.prog 243 #[.pointer (some ⟨p,0,none⟩),.int .u8 c] w fun e w'=>e=.returned (.func (.func 243) #[] #[])∧Pa w' w0.heap.size p (fun k=>P k∨w.heap.size≤k) { x with text:=x.text++[c],first:=false }∧Below w0.heap.size w0 w'∧Kept w w' (fun k=>P k∨k=p):=by
  obtain ⟨h0,tx,h1,h2⟩:=h
  obtain ⟨nx,kind,priv,inter,fin,text,first,oA,on,oc⟩:=x
  obtain ⟨A2,c2,rfl⟩:=Kd.R_slice h2
  obtain ⟨q0,q1,q2,q3,q4,q5,q6,q7,q8,q9,q10,q11,q12⟩:=cells13 h1
  have H1:=Aside0.mk h1
  have HB:=Aside0.mk hB
  have HR:=Aside0.mk h2
  have HK:Aside0 (Kept w w (fun k=>P k∨k=p)):=⟨Kept.refl _ _⟩
  clear hB h2 h1
  subst hi
  have HL:Aside0 (text.length < 1000):=⟨hl⟩
  clear hl
  replace HR:=Aside0.mk (Kd.R_mono (ok':=fun k=>P k∨w.heap.size≤k) HR.out (fun _ h=>.inl h))
  obtain ⟨hc1,hc2⟩:=hc
  have e127:(c == 127)=false:=beq_eq_false_iff_ne.2 (by omega)
  go_enter Tryz.func243,Tryz.ntmps243
  go_wp2_with (first|((with_reducible refine gate_store (t:=4) rfl ?_);refine store_event rfl rfl 4 _ _ rfl p 10 117 _ H1.out rfl _ rfl [.bool false] rfl (by kernel_rfl) (by show 10+1≤13;decide) (by simp [Value.oneCell']) #[nx,.int .i64 kind,.int .u8 priv,.slice none 0 0,.string ⟨#[]⟩,.int .u8 fin,.string ⟨#[]⟩,.slice A2 text.length c2,.slice none 0 0,.bool first,.bool false,.bool false,.slice oA on oc] rfl ?_;intro w1 hS hg;have H1_:=Aside0.mk hS;have HR_:=Aside0.mk (R_grownT HR.out H1.out (by decide) hg);have HB_:=Aside0.mk (HB.out.grown hg (below_size HB.out) (fun k hk=>by injection hk with hk;rw [← hk];exact h0));have HK_:=Aside0.mk (Kept.of_grown hg HK.out (fun k hk=>.inl (.inr (by injection hk with hk;exact hk.symm))));clear H1 HR HB HK hS hg;have H1:=H1_;have HR:=HR_;have HB:=HB_;have HK:=HK_;clear H1_ HR_ HB_ HK_;obtain ⟨q0,q1,q2,q3,q4,q5,q6,q7,q8,q9,q10,q11,q12⟩:=cells13 H1.out)|((with_reducible refine gate_builtin (b:=.append) (xs:=#[.tmp 66,.tmp 68]) rfl ?_);at_builtin;refine Kd.R_append (Kd.int .u8) (w0:=w0) w0.heap.size rfl (.tmp 66) (.tmp 68) 22 5 (.int .u8 0) 1 rfl Tryz.underlying22 infoU8p rfl (by decide) (by omega) (.slice A2 text.length c2) text c [.int .u8 c] (fun k=>P k∨w.heap.size≤k) (fun _=>False) rfl rfl ?aP (fun _ hk=>hk.elim) ?aF ?aO ?aB ?aS ?aL ?_;(case aP=>exact rfl);(case aB=>exact HB.out);(case aF=>exact (fun k hk=>.inr (Nat.le_trans HK.out.1 hk)));(case aO=>exact HR.out);(case aS=>exact below_size HB.out);(case aL=>have:=HL.out;omega);intro v1 w2 ho hb hg hat;obtain ⟨A3,c3,rfl⟩:=Kd.R_slice ho;simp only [List.length_append,List.length_cons,List.length_nil,Nat.zero_add] at ho;have H1_:=Aside0.mk (blk_grown H1.out hg (Kd.R_ne HR.out H1.out (by decide)));have HK_:=Aside0.mk (Kept.of_grown hg HK.out (fun k hk=>ownK HR.out k hk));clear H1 HR HB HK hg;have H1:=H1_;have HK:=HK_;have HB:=Aside0.mk hb;have HR:=Aside0.mk ho;clear H1_ HK_ hb ho hat;obtain ⟨q0,q1,q2,q3,q4,q5,q6,q7,q8,q9,q10,q11,q12⟩:=cells13 H1.out)|((with_reducible refine gate_store (t:=22) rfl ?_);refine store_event rfl rfl 22 _ _ rfl p 7 117 _ H1.out rfl _ rfl [.slice A3 (text.length+1) c3] rfl (by kernel_rfl) (by show 7+1≤13;decide) (by simp [Value.oneCell']) #[nx,.int .i64 kind,.int .u8 priv,.slice none 0 0,.string ⟨#[]⟩,.int .u8 fin,.string ⟨#[]⟩,.slice A3 (text.length+1) c3,.slice none 0 0,.bool first,.bool false,.bool false,.slice oA on oc] rfl ?_;intro w3 hS hg;have H1_:=Aside0.mk hS;have HR_:=Aside0.mk (R_grownT HR.out H1.out (by decide) hg);have HB_:=Aside0.mk (HB.out.grown hg (below_size HB.out) (fun k hk=>by injection hk with hk;rw [← hk];exact h0));have HK_:=Aside0.mk (Kept.of_grown hg HK.out (fun k hk=>.inl (.inr (by injection hk with hk;exact hk.symm))));clear H1 HR HB HK hS hg;have H1:=H1_;have HR:=HR_;have HB:=HB_;have HK:=HK_;clear H1_ HR_ HB_ HK_;obtain ⟨q0,q1,q2,q3,q4,q5,q6,q7,q8,q9,q10,q11,q12⟩:=cells13 H1.out)|((with_reducible refine gate_store (t:=4) rfl ?_);refine store_event rfl rfl 4 _ _ rfl p 9 117 _ H1.out rfl _ rfl [.bool false] rfl (by kernel_rfl) (by show 9+1≤13;decide) (by simp [Value.oneCell']) #[nx,.int .i64 kind,.int .u8 priv,.slice none 0 0,.string ⟨#[]⟩,.int .u8 fin,.string ⟨#[]⟩,.slice A3 (text.length+1) c3,.slice none 0 0,.bool false,.bool false,.bool false,.slice oA on oc] rfl ?_;intro w4 hS hg;have H1_:=Aside0.mk hS;have HR_:=Aside0.mk (R_grownT HR.out H1.out (by decide) hg);have HB_:=Aside0.mk (HB.out.grown hg (below_size HB.out) (fun k hk=>by injection hk with hk;rw [← hk];exact h0));have HK_:=Aside0.mk (Kept.of_grown hg HK.out (fun k hk=>.inl (.inr (by injection hk with hk;exact hk.symm))));clear H1 HR HB HK hS hg;have H1:=H1_;have HR:=HR_;have HB:=HB_;have HK:=HK_;clear H1_ HR_ HB_ HK_;obtain ⟨q0,q1,q2,q3,q4,q5,q6,q7,q8,q9,q10,q11,q12⟩:=cells13 H1.out))
  go_ret
  exact ⟨rfl,⟨h0,_,H1.out,HR.out⟩,HB.out,HK.out⟩
set_option maxHeartbeats 8000000 in
theorem head_mark (w0 w:World) (p:Nat) (P:Nat→Prop) (x:PS) (c:Int) (hB:Below w0.heap.size w0 w) (h:Pa w w0.heap.size p P x) (hf:x.first=true) (hc:60≤c∧c≤63) :
    Calls Tryz.prog 243 #[.pointer (some ⟨p,0,none⟩),.int .u8 c] w fun e w'=>e=.returned (.func (.func 243) #[] #[])∧Pa w' w0.heap.size p P { x with priv:=c,first:=false }∧Below w0.heap.size w0 w'∧Kept w w' (fun k=>P k∨k=p):=by
  obtain ⟨h0,tx,h1,h2⟩:=h
  obtain ⟨nx,kind,priv,inter,fin,text,first,oA,on,oc⟩:=x
  obtain ⟨A2,c2,rfl⟩:=Kd.R_slice h2
  obtain ⟨q0,q1,q2,q3,q4,q5,q6,q7,q8,q9,q10,q11,q12⟩:=cells13 h1
  have H1:=Aside0.mk h1
  have HB:=Aside0.mk hB
  have HR:=Aside0.mk h2
  have HK:Aside0 (Kept w w (fun k=>P k∨k=p)):=⟨Kept.refl _ _⟩
  clear hB h2 h1
  subst hf
  obtain ⟨hc1,hc2⟩:=hc
  have e127:(c == 127)=false:=beq_eq_false_iff_ne.2 (by omega)
  go_enter Tryz.func243,Tryz.ntmps243
  go_wp2_with (first|((with_reducible refine gate_store (t:=4) rfl ?_);refine store_event rfl rfl 4 _ _ rfl p 10 117 _ H1.out rfl _ rfl [.bool false] rfl (by kernel_rfl) (by show 10+1≤13;decide) (by simp [Value.oneCell']) #[nx,.int .i64 kind,.int .u8 priv,.slice none 0 0,.string inter,.int .u8 fin,.string ⟨#[]⟩,.slice A2 text.length c2,.slice none 0 0,.bool true,.bool false,.bool false,.slice oA on oc] rfl ?_;intro w1 hS hg;have H1_:=Aside0.mk hS;have HR_:=Aside0.mk (R_grownT HR.out H1.out (by decide) hg);have HB_:=Aside0.mk (HB.out.grown hg (below_size HB.out) (fun k hk=>by injection hk with hk;rw [← hk];exact h0));have HK_:=Aside0.mk (Kept.of_grown hg HK.out (fun k hk=>.inl (.inr (by injection hk with hk;exact hk.symm))));clear H1 HR HB HK hS hg;have H1:=H1_;have HR:=HR_;have HB:=HB_;have HK:=HK_;clear H1_ HR_ HB_ HK_;obtain ⟨q0,q1,q2,q3,q4,q5,q6,q7,q8,q9,q10,q11,q12⟩:=cells13 H1.out)|((with_reducible refine gate_store (t:=5) rfl ?_);refine store_event rfl rfl 5 _ _ rfl p 2 117 _ H1.out rfl _ rfl [.int .u8 c] rfl (by kernel_rfl) (by show 2+1≤13;decide) (by simp [Value.oneCell']) #[nx,.int .i64 kind,.int .u8 c,.slice none 0 0,.string inter,.int .u8 fin,.string ⟨#[]⟩,.slice A2 text.length c2,.slice none 0 0,.bool true,.bool false,.bool false,.slice oA on oc] rfl ?_;intro w2 hS hg;have H1_:=Aside0.mk hS;have HR_:=Aside0.mk (R_grownT HR.out H1.out (by decide) hg);have HB_:=Aside0.mk (HB.out.grown hg (below_size HB.out) (fun k hk=>by injection hk with hk;rw [← hk];exact h0));have HK_:=Aside0.mk (Kept.of_grown hg HK.out (fun k hk=>.inl (.inr (by injection hk with hk;exact hk.symm))));clear H1 HR HB HK hS hg;have H1:=H1_;have HR:=HR_;have HB:=HB_;have HK:=HK_;clear H1_ HR_ HB_ HK_;obtain ⟨q0,q1,q2,q3,q4,q5,q6,q7,q8,q9,q10,q11,q12⟩:=cells13 H1.out)|((with_reducible refine gate_store (t:=4) rfl ?_);refine store_event rfl rfl 4 _ _ rfl p 9 117 _ H1.out rfl _ rfl [.bool false] rfl (by kernel_rfl) (by show 9+1≤13;decide) (by simp [Value.oneCell']) #[nx,.int .i64 kind,.int .u8 c,.slice none 0 0,.string inter,.int .u8 fin,.string ⟨#[]⟩,.slice A2 text.length c2,.slice none 0 0,.bool false,.bool false,.bool false,.slice oA on oc] rfl ?_;intro w3 hS hg;have H1_:=Aside0.mk hS;have HR_:=Aside0.mk (R_grownT HR.out H1.out (by decide) hg);have HB_:=Aside0.mk (HB.out.grown hg (below_size HB.out) (fun k hk=>by injection hk with hk;rw [← hk];exact h0));have HK_:=Aside0.mk (Kept.of_grown hg HK.out (fun k hk=>.inl (.inr (by injection hk with hk;exact hk.symm))));clear H1 HR HB HK hS hg;have H1:=H1_;have HR:=HR_;have HB:=HB_;have HK:=HK_;clear H1_ HR_ HB_ HK_;obtain ⟨q0,q1,q2,q3,q4,q5,q6,q7,q8,q9,q10,q11,q12⟩:=cells13 H1.out))
  go_ret
  exact ⟨rfl,⟨h0,_,H1.out,HR.out⟩,HB.out,HK.out⟩
set_option maxHeartbeats 8000000 in
theorem inter_dollar (w0 w:World) (p:Nat) (P:Nat→Prop) (x:PS) (hB:Below w0.heap.size w0 w) (h:Pa w w0.heap.size p P x) (hi:x.inter=⟨#[]⟩) :
    Calls Tryz.prog 199 #[.pointer (some ⟨p,0,none⟩),.int .u8 36] w fun e w'=>e=.returned (.tuple #[])∧Pa w' w0.heap.size p P { x with inter:=⟨#[36]⟩ }∧Below w0.heap.size w0 w'∧Kept w w' (fun k=>P k∨k=p):=by
  obtain ⟨h0,tx,h1,h2⟩:=h
  obtain ⟨nx,kind,priv,inter,fin,text,first,oA,on,oc⟩:=x
  obtain ⟨A2,c2,rfl⟩:=Kd.R_slice h2
  obtain ⟨q0,q1,q2,q3,q4,q5,q6,q7,q8,q9,q10,q11,q12⟩:=cells13 h1
  have H1:=Aside0.mk h1
  have HB:=Aside0.mk hB
  have HR:=Aside0.mk h2
  have HK:Aside0 (Kept w w (fun k=>P k∨k=p)):=⟨Kept.refl _ _⟩
  clear hB h2 h1
  subst hi
  have hconv:∀ (W:World) (g:Nat),W.cell? ⟨g,0,none⟩=some (.int .u8 36)→(convert 22 9 (.slice (some ⟨g,0,none⟩) 1 1)).run Tryz.prog W=.ok (.string ⟨#[36]⟩) W:=fun W g h=>conv_p W g 36 h
  go_enter Tryz.func199,Tryz.ntmps199
  go_wp2_with (first|((with_reducible refine gate_store (t:=4) rfl ?_);refine store_event rfl rfl 4 _ _ rfl p 10 117 _ H1.out rfl _ rfl [.bool false] rfl (by kernel_rfl) (by show 10+1≤13;decide) (by simp [Value.oneCell']) #[nx,.int .i64 kind,.int .u8 priv,.slice none 0 0,.string ⟨#[]⟩,.int .u8 fin,.string ⟨#[]⟩,.slice A2 text.length c2,.slice none 0 0,.bool first,.bool false,.bool false,.slice oA on oc] rfl ?_;intro w1 hS hg;have H1_:=Aside0.mk hS;have HR_:=Aside0.mk (R_grownT HR.out H1.out (by decide) hg);have HB_:=Aside0.mk (HB.out.grown hg (below_size HB.out) (fun k hk=>by injection hk with hk;rw [← hk];exact h0));have HK_:=Aside0.mk (Kept.of_grown hg HK.out (fun k hk=>.inl (.inr (by injection hk with hk;exact hk.symm))));clear H1 HR HB HK hS hg;have H1:=H1_;have HR:=HR_;have HB:=HB_;have HK:=HK_;clear H1_ HR_ HB_ HK_;obtain ⟨q0,q1,q2,q3,q4,q5,q6,q7,q8,q9,q10,q11,q12⟩:=cells13 H1.out))
  have hlp:=blk_lt H1.out
  have z4:=blk_frozen H1.out 4
  go_region
  all_goals go_end0
  exact ⟨rfl, ⟨h0, _, by have he:(⟨#[]⟩:ByteArray)++⟨#[36]⟩=⟨#[36]⟩:=by decide
                         rw [he];exact blk_drew (blk_alloc (blk_put H1.out 4 _ rfl) _),Kd.R_drew (Kd.R_alloc (Kd.R_set HR.out H1.out (by decide) 4 _) _)⟩,below_drew1 (below_alloc (below_set HB.out h0) _),Kept.drew (Kept.alloc (Kept.setCell HK.out (.inl (.inr rfl)) _) _)⟩
set_option maxHeartbeats 8000000 in
theorem head_dollar (w0 w:World) (p:Nat) (P:Nat→Prop) (x:PS) (hB:Below w0.heap.size w0 w) (h:Pa w w0.heap.size p P x) (hi:x.inter=⟨#[]⟩) :
    Calls Tryz.prog 243 #[.pointer (some ⟨p,0,none⟩),.int .u8 36] w fun e w'=>e=.returned (.func (.func 243) #[] #[])∧Pa w' w0.heap.size p P { x with inter:=⟨#[36]⟩,first:=false }∧Below w0.heap.size w0 w'∧Kept w w' (fun k=>P k∨k=p):=by
  obtain ⟨h0,tx,h1,h2⟩:=h
  obtain ⟨nx,kind,priv,inter,fin,text,first,oA,on,oc⟩:=x
  obtain ⟨A2,c2,rfl⟩:=Kd.R_slice h2
  obtain ⟨q0,q1,q2,q3,q4,q5,q6,q7,q8,q9,q10,q11,q12⟩:=cells13 h1
  have H1:=Aside0.mk h1
  have HB:=Aside0.mk hB
  have HR:=Aside0.mk h2
  have HK:Aside0 (Kept w w (fun k=>P k∨k=p)):=⟨Kept.refl _ _⟩
  clear hB h2 h1
  subst hi
  go_enter Tryz.func243,Tryz.ntmps243
  go_wp2_with (first|(go_at_call 199;refine (inter_dollar w0 _ p P ⟨nx,kind,priv,⟨#[]⟩,fin,text,first,oA,on,oc⟩ HB.out ⟨h0,_,H1.out,HR.out⟩ rfl).mono ?_;rintro e w1 ⟨rfl,hP_,hb,hk⟩;obtain ⟨_,tx,hS,h2⟩:=hP_;obtain ⟨A2,c2,rfl⟩:=Kd.R_slice h2;have H1_:=Aside0.mk hS;have HR_:=Aside0.mk h2;have HB_:=Aside0.mk hb;have HK_:=Aside0.mk (Kept.then_ HK.out hk (fun _ h=>.inl h));clear H1 HR HB HK hS h2 hb hk;have H1:=H1_;have HR:=HR_;have HB:=HB_;have HK:=HK_;clear H1_ HR_ HB_ HK_;obtain ⟨q0,q1,q2,q3,q4,q5,q6,q7,q8,q9,q10,q11,q12⟩:=cells13 H1.out)|((with_reducible refine gate_store (t:=4) rfl ?_);refine store_event rfl rfl 4 _ _ rfl p 9 117 _ H1.out rfl _ rfl [.bool false] rfl (by kernel_rfl) (by show 9+1≤13;decide) (by simp [Value.oneCell']) #[nx,.int .i64 kind,.int .u8 priv,.slice none 0 0,.string ⟨#[36]⟩,.int .u8 fin,.string ⟨#[]⟩,.slice A2 text.length c2,.slice none 0 0,.bool false,.bool false,.bool false,.slice oA on oc] rfl ?_;intro w2 hS hg;have H1_:=Aside0.mk hS;have HR_:=Aside0.mk (R_grownT HR.out H1.out (by decide) hg);have HB_:=Aside0.mk (HB.out.grown hg (below_size HB.out) (fun k hk=>by injection hk with hk;rw [← hk];exact h0));have HK_:=Aside0.mk (Kept.of_grown hg HK.out (fun k hk=>.inl (.inr (by injection hk with hk;exact hk.symm))));clear H1 HR HB HK hS hg;have H1:=H1_;have HR:=HR_;have HB:=HB_;have HK:=HK_;clear H1_ HR_ HB_ HK_;obtain ⟨q0,q1,q2,q3,q4,q5,q6,q7,q8,q9,q10,q11,q12⟩:=cells13 H1.out))
  go_ret
  exact ⟨rfl,⟨h0,_,H1.out,HR.out⟩,HB.out,HK.out⟩
set_option maxHeartbeats 8000000 in
theorem behind_open (w0 w:World) (p:Nat) (P:Nat→Prop) (x:PS) (hB:Below w0.heap.size w0 w) (h:Pa w w0.heap.size p P x) (hi:x.inter=⟨#[]⟩) :
    Calls Tryz.prog 148 #[.pointer (some ⟨p,0,none⟩),.int .u8 91] w fun e w'=>e=.returned (.func (.func 243) #[] #[])∧Pa w' w0.heap.size p P { x with kind:=1,first:=true }∧Below w0.heap.size w0 w'∧Kept w w' (fun k=>P k∨k=p):=by
  obtain ⟨h0,tx,h1,h2⟩:=h
  obtain ⟨nx,kind,priv,inter,fin,text,first,oA,on,oc⟩:=x
  obtain ⟨A2,c2,rfl⟩:=Kd.R_slice h2
  obtain ⟨q0,q1,q2,q3,q4,q5,q6,q7,q8,q9,q10,q11,q12⟩:=cells13 h1
  have H1:=Aside0.mk h1
  have HB:=Aside0.mk hB
  have HR:=Aside0.mk h2
  have HK:Aside0 (Kept w w (fun k=>P k∨k=p)):=⟨Kept.refl _ _⟩
  clear hB h2 h1
  subst hi
  go_enter Tryz.func148,Tryz.ntmps148
  go_wp2_with (first|(go_at_call 175;refine (contains_open _).mono ?_;rintro e w1 ⟨rfl,rfl⟩)|(go_at_call 200;refine (opened_calls w0 _ p P ⟨nx,kind,priv,⟨#[]⟩,fin,text,first,oA,on,oc⟩ HB.out ⟨h0,_,H1.out,HR.out⟩).mono ?_;rintro e w1 ⟨rfl,hP_,hb,hk⟩;obtain ⟨_,tx,hS,h2⟩:=hP_;obtain ⟨A2,c2,rfl⟩:=Kd.R_slice h2;have H1_:=Aside0.mk hS;have HR_:=Aside0.mk h2;have HB_:=Aside0.mk hb;have HK_:=Aside0.mk (Kept.then_ HK.out hk (fun _ h=>.inl h));clear H1 HR HB HK hS h2 hb hk;have H1:=H1_;have HR:=HR_;have HB:=HB_;have HK:=HK_;clear H1_ HR_ HB_ HK_;obtain ⟨q0,q1,q2,q3,q4,q5,q6,q7,q8,q9,q10,q11,q12⟩:=cells13 H1.out))
  go_ret
  exact ⟨rfl,⟨h0,_,H1.out,HR.out⟩,HB.out,HK.out⟩
set_option maxHeartbeats 8000000 in
theorem one_escape (w0 w:World) (p:Nat) (P:Nat→Prop) (x:PS) (hB:Below w0.heap.size w0 w) (h:Pa w w0.heap.size p P x) :
    Calls Tryz.prog 108 #[.pointer (some ⟨p,0,none⟩),.int .u8 27] w fun e w'=>e=.returned (.func (.func 148) #[] #[])∧Pa w' w0.heap.size p P x.none∧Below w0.heap.size w0 w'∧Kept w w' (fun k=>P k∨k=p):=by
  obtain ⟨h0,tx,h1,h2⟩:=h
  obtain ⟨nx,kind,priv,inter,fin,text,first,oA,on,oc⟩:=x
  obtain ⟨A2,c2,rfl⟩:=Kd.R_slice h2
  obtain ⟨q0,q1,q2,q3,q4,q5,q6,q7,q8,q9,q10,q11,q12⟩:=cells13 h1
  have H1:=Aside0.mk h1
  have HB:=Aside0.mk hB
  have HR:=Aside0.mk h2
  have HK:Aside0 (Kept w w (fun k=>P k∨k=p)):=⟨Kept.refl _ _⟩
  clear hB h2 h1
  go_enter Tryz.func108,Tryz.ntmps108
  go_wp2_with (first|(go_at_call 146;refine (drop_calls w0 _ p P ⟨nx,kind,priv,inter,fin,text,first,oA,on,oc⟩ HB.out ⟨h0,_,H1.out,HR.out⟩).mono ?_;rintro e w1 ⟨rfl,hP_,hb,hk⟩;obtain ⟨_,tx,hS,h2⟩:=hP_;obtain ⟨A2,c2,rfl⟩:=Kd.R_slice h2;have H1_:=Aside0.mk hS;have HR_:=Aside0.mk h2;have HB_:=Aside0.mk hb;have HK_:=Aside0.mk (Kept.then_ HK.out hk (fun _ h=>.inl h));clear H1 HR HB HK hS h2 hb hk;have H1:=H1_;have HR:=HR_;have HB:=HB_;have HK:=HK_;clear H1_ HR_ HB_ HK_;obtain ⟨q0,q1,q2,q3,q4,q5,q6,q7,q8,q9,q10,q11,q12⟩:=cells13 H1.out))
  go_ret
  exact ⟨rfl,⟨h0,_,H1.out,HR.out⟩,HB.out,HK.out⟩
set_option maxHeartbeats 8000000 in
theorem one_behind (w0 w:World) (p:Nat) (P:Nat→Prop) (x:PS) (c:Int) (R:Ending→World→Prop) (h:Pa w w0.heap.size p P x) (hx:x.nx=.func (.func 148) #[] #[]) (hc:c≠24∧c≠26∧c≠27)
    (hR:Calls Tryz.prog 148 #[.pointer (some ⟨p,0,none⟩),.int .u8 c] w fun e w'=>(∃ v,e=.returned v)∧R e w') :
    Calls Tryz.prog 108 #[.pointer (some ⟨p,0,none⟩),.int .u8 c] w R:=by
  obtain ⟨h0,tx,h1,h2⟩:=h
  obtain ⟨nx,kind,priv,inter,fin,text,first,oA,on,oc⟩:=x
  obtain rfl:nx=.func (.func 148) #[] #[]:=hx
  obtain ⟨A2,c2,rfl⟩:=Kd.R_slice h2
  obtain ⟨q0,q1,q2,q3,q4,q5,q6,q7,q8,q9,q10,q11,q12⟩:=cells13 h1
  obtain ⟨n1,n2,n3⟩:=hc
  have e1:(c == 24)=false:=beq_eq_false_iff_ne.2 n1
  have e2:(c == 26)=false:=beq_eq_false_iff_ne.2 n2
  have e3:(c == 27)=false:=beq_eq_false_iff_ne.2 n3
  have hfe:∀ (fn:Fn) (first cap:Array Value) (w:World),(binOp .eql 114 (.func fn first cap) .nilFunc).run Tryz.prog w=.ok (.bool false) w:=fun _ _ _ _=>by rfl
  have HR:=Aside0.mk hR
  clear hR h2 h1 n1 n2 n3
  go_enter Tryz.func108,Tryz.ntmps108
  go_wp2_with (first|(go_at_call 148;refine (HR.out).mono ?_;rintro e w1 ⟨⟨v,rfl⟩,hr⟩))
  exact hr
set_option maxHeartbeats 8000000 in
theorem one_head (w0 w:World) (p:Nat) (P:Nat→Prop) (x:PS) (c:Int) (R:Ending→World→Prop) (h:Pa w w0.heap.size p P x) (hx:x.nx=.func (.func 243) #[] #[]) (hc:c≠24∧c≠26∧c≠27)
    (hR:Calls Tryz.prog 243 #[.pointer (some ⟨p,0,none⟩),.int .u8 c] w fun e w'=>(∃ v,e=.returned v)∧R e w') :
    Calls Tryz.prog 108 #[.pointer (some ⟨p,0,none⟩),.int .u8 c] w R:=by
  obtain ⟨h0,tx,h1,h2⟩:=h
  obtain ⟨nx,kind,priv,inter,fin,text,first,oA,on,oc⟩:=x
  obtain rfl:nx=.func (.func 243) #[] #[]:=hx
  obtain ⟨A2,c2,rfl⟩:=Kd.R_slice h2
  obtain ⟨q0,q1,q2,q3,q4,q5,q6,q7,q8,q9,q10,q11,q12⟩:=cells13 h1
  obtain ⟨n1,n2,n3⟩:=hc
  have e1:(c == 24)=false:=beq_eq_false_iff_ne.2 n1
  have e2:(c == 26)=false:=beq_eq_false_iff_ne.2 n2
  have e3:(c == 27)=false:=beq_eq_false_iff_ne.2 n3
  have hfe:∀ (fn:Fn) (first cap:Array Value) (w:World),(binOp .eql 114 (.func fn first cap) .nilFunc).run Tryz.prog w=.ok (.bool false) w:=fun _ _ _ _=>by rfl
  have HR:=Aside0.mk hR
  clear hR h2 h1 n1 n2 n3
  go_enter Tryz.func108,Tryz.ntmps108
  go_wp2_with (first|(go_at_call 243;refine (HR.out).mono ?_;rintro e w1 ⟨⟨v,rfl⟩,hr⟩))
  exact hr
end Go.Proofs.YthjacokachgmfaaGreatDoor.H
end
section
namespace Go.Proofs.YthjacokachgmfaaGreatDoor.H
open Go Go.RowKit Go.Maps Go.ChangeMaps YthjacokachgmfaaGreatDoorW.PrintWords YthjacokachgmfaaGreatDoorW.PrintLast YthjacokachgmfaaGreatDoorW.PrintMore
def MapAt (P:Program) (k:TypeId) (w:World) (g:Nat) (L:List (Value × Value)):Prop :=
  ∃ es c,w.heap[g]?=some (.map es c)∧es.toList.map (fun e=>(e.key,e.val))=L∧∀ p∈L,∃ l,keyOf P k p.1=some l
section
variable {P:Program} {k e t:TypeId} {w w1:World} {g:Nat} {L:List (Value × Value)}
theorem MapAt.kept {S:Nat→Prop} (h:MapAt P k w g L) (hk:Kept w w1 S) (hg:¬ S g):MapAt P k w1 g L:=by
  obtain ⟨es,c,hb,hL,hK⟩:=h
  exact ⟨es,c,blk_kept hb hk hg,hL,hK⟩
theorem MapAt.below (h:MapAt P k w g L) (hb:Below w.heap.size w w1):MapAt P k w1 g L:=h.kept (Kept.of_below hb (fun _=>False)) (fun h=>h)
theorem MapAt.new (w:World):MapAt P k (w.alloc (.map #[] 0)) w.heap.size []:=⟨#[],0,blk_new w _,rfl,fun p hp=>by cases hp⟩
theorem find_of (K:Keyed P k) {es:Array MapEntry} (hL:es.toList.map (fun e=>(e.key,e.val))=L) (hK:∀ p∈L,∃ l,keyOf P k p.1=some l) {x:Value} {lx:Lit} (hx:keyOf P k x=some lx) (W:World) :
    ((Instr.findKey k x es.toList).run P W=.ok none W∧∀ p∈L,p.1≠x)∨∃ j v,(Instr.findKey k x es.toList).run P W=.ok (some (j,v)) W∧(x,v)∈L:=by
  rcases K.find W hx es.toList (fun y hy=>hK (y.key,y.val) (by rw [← hL];exact List.mem_map.2 ⟨y,hy,rfl⟩)) with ⟨h1,h2⟩ | ⟨j,y,h1,h2,h3⟩
  · refine .inl ⟨h1,fun p hp=>?_⟩
    rw [← hL] at hp
    obtain ⟨y,hy,rfl⟩:=List.mem_map.1 hp
    exact h2 y hy
  · refine .inr ⟨j,y.val,h1,?_⟩
    rw [← hL,← h3]
    exact List.mem_map.2 ⟨y,List.mem_of_getElem? h2,rfl⟩
theorem MapAt.put (K:Keyed P k) (ht:P.underlying t=some (.map k e)) (h:MapAt P k w g L) {x:Value} {lx:Lit} (hx:keyOf P k x=some lx) (v:Value) (hn:∀ p∈L,p.1≠x) :
    ∃ w',(Instr.mapUpdate t (.map (some g)) x v).run P w=.ok () w'∧MapAt P k w' g (L++[(x,v)])∧w.grownBy w' (some g):=by
  obtain ⟨es,c,hb,hL,hK⟩:=h
  have hf:(Instr.findKey k x es.toList).run P w=.ok none w:=by
    rcases find_of K hL hK hx w with ⟨h1,_⟩ | ⟨j,v',_,h2⟩
    · exact h1
    · exact absurd rfl (hn _ h2)
  refine ⟨{ w with heap:=w.heap.setIfInBounds g (.map (es.push { key:=x,val:=v,born:=c }) (c+1)) },?_,⟨es.push { key:=x,val:=v,born:=c },c+1,?_,?_,?_⟩,⟨rfl,rfl,rfl,by simp,fun j hj hne=>?_⟩⟩
  · unfold Instr.mapUpdate
    simp only [Sem.run_bind,run_underlying ht,Result.andThen,MapKept.run_getObj_map hb,K.check w false hx,hf,MapKept.run_setObj_map _ hb]
  · show (w.heap.setIfInBounds g _)[g]?=_
    rw [Array.getElem?_setIfInBounds_self_of_lt (blk_lt hb)]
  · simp [hL]
  · intro p hp
    rcases List.mem_append.1 hp with hp | hp
    · exact hK p hp
    · simp only [List.mem_singleton] at hp
      subst hp
      exact ⟨lx,hx⟩
  · show (w.heap.setIfInBounds g _)[j]?=_
    rw [Array.getElem?_setIfInBounds_ne (fun he=>hne (by rw [he]))]
theorem MapAt.look (K:Keyed P k) (ht:P.underlying t=some (.map k e)) (h:MapAt P k w g L) {x v:Value} {lx:Lit} (hx:keyOf P k x=some lx) (hv:(x,v)∈L) (hu:∀ p∈L,p.1=x→p.2=v) :
    (Instr.lookup t (.map (some g)) x false).run P w=.ok v w:=by
  obtain ⟨es,c,hb,hL,hK⟩:=h
  unfold Instr.lookup
  rcases find_of K hL hK hx w with ⟨h1,h2⟩ | ⟨j,v',h1,h2⟩
  · exact absurd rfl (h2 _ hv)
  · have:v'=v:=hu _ h2 rfl
    subst this
    simp only [Sem.run_bind,run_underlying ht,Result.andThen,MapKept.run_getObj_map hb,K.check w _ hx,h1,Sem.run_pure]
    rfl
end
theorem wpAny_inv {P:Program} {md:Region.Mode} {ops:Array Oper} {Q:Exit→Act→World→Prop} (I:Array Bool→Act→World→Prop)
    (hstep:∀ listed a w i,I listed a w→i∈Region.ready md ops listed→wpOp P ops Q i (I (listed.setIfInBounds i true)) a w)
    (hend:∀ listed a w,I listed a w→Region.ready md ops listed=[]→Q .normal a w) :
    ∀ (fuel:Nat) (listed:Array Bool) (a:Act) (w:World),(listed.toList.filter (fun b=>!b)).length≤fuel→listed.size=ops.size→I listed a w→wpAny P md ops Q fuel listed a w:=by
  have key:∀ (l:List Bool) (i:Nat),l[i]?=some false→((l.set i true).filter (fun b=>!b)).length+1=(l.filter (fun b=>!b)).length:=by
    intro l
    induction l with
    | nil=>intro i h;simp at h
    | cons b l ih =>
      intro i h
      cases i with
      | zero=>simp at h;subst h;simp
      | succ i =>
        simp only [List.getElem?_cons_succ] at h
        have:=ih i h
        cases b<;>simp [List.filter_cons]<;>omega
  have hun:∀ (listed:Array Bool) (i:Nat),listed.size=ops.size→i∈Region.ready md ops listed→listed.toList[i]?=some false:=by
    intro listed i hs hi
    simp only [Region.ready,List.mem_filter,List.mem_range,Bool.and_eq_true,Bool.not_eq_true'] at hi
    obtain ⟨h1,h2,_⟩:=hi
    have hlt:i < listed.size:=by omega
    simp only [Array.getD_eq_getD_getElem?,Array.getElem?_eq_getElem hlt,Option.getD_some] at h2
    rw [Array.getElem?_toList,Array.getElem?_eq_getElem hlt,h2]
  intro fuel
  induction fuel with
  | zero =>
    intro listed a w hf hs hI
    have hr:Region.ready md ops listed=[]:=by
      cases hc:Region.ready md ops listed with
      | nil=>rfl
      | cons i r =>
        have h1:=hun listed i hs (by rw [hc];exact List.mem_cons_self)
        have h2:=key _ i h1
        omega
    exact ⟨hr,hend listed a w hI hr⟩
  | succ fuel ih =>
    intro listed a w hf hs hI
    refine ⟨hend listed a w hI,fun i hi=>?_⟩
    have h1:=hun listed i hs hi
    have h2:=key _ i h1
    have h3:=hstep listed a w i hI hi
    refine wpOp_mono (fun a' w' h=>ih _ a' w' ?_ (by simp [hs]) h) h3
    rw [Array.toList_setIfInBounds]
    omega
end Go.Proofs.YthjacokachgmfaaGreatDoor.H
end
section
namespace Go.Proofs.YthjacokachgmfaaGreatDoorW.PrintWords
theorem Reps.one {α:Type} {R:α→List Value→Prop} {ps:List α} {cs:List Value} {p:α} {v:Value} (hp:R p [v]) (h:Reps R 1 ps cs):Reps R 1 (p :: ps) (v :: cs):=by
  refine ⟨by simp [h.1],fun j q hq=>?_⟩
  cases j with
  | zero =>
    simp only [List.getElem?_cons_zero,Option.some.injEq] at hq
    subst hq
    simpa using hp
  | succ j =>
    simp only [List.getElem?_cons_succ] at hq
    have h1:=h.2 j q hq
    simpa [Nat.mul_one] using h1
end Go.Proofs.YthjacokachgmfaaGreatDoorW.PrintWords
end
