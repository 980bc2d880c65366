import Derived.Outline
import Derived.Maps.AppendAt
import Derived.Test.YthjacokachgmfaaGreatDoorProg
import Derived.WalkSpells
import Derived.Below
import Derived.Deep.Draws
import Derived.Deep.AppendLies
import Derived.OwnWalk
import Derived.Laws.BytesArg
import Derived.Laws.MakeOwn
import Derived.Laws.OwnMore
import Derived.Deep.OwnRows
import Derived.Tactics
import Derived.Lib.ConvBytes
import Derived.Laws.Slices
import Derived.WalkKit
import Derived.KernelRfl
import Derived.RowKit3
import Derived.Deep.LoopGhost
import Derived.Deep.QuietTactic
import Derived.BigQuiet
import Derived.WideLaws
import Derived.Deep.DeepCutAuto
import Derived.Deep.CutBlock
import Derived.Deep.RegionHeld3
import Derived.Laws.Rows
import Derived.Lib.AppendStr
import Derived.ArgAppend
import Derived.Laws.IdiomCopy
import Derived.OrdersHeld
import Derived.Laws.BitsLemmas
import Derived.RowKit
import Derived.Test.YthjacokachgmfaaGreatDoorT01
import Derived.Test.YthjacokachgmfaaGreatDoorT02
import Derived.Test.YthjacokachgmfaaGreatDoorT03
import Derived.Test.YthjacokachgmfaaGreatDoorT07
import Derived.Test.YthjacokachgmfaaGreatDoorT08
import Derived.Test.YthjacokachgmfaaGreatDoorT09
import Derived.Test.YthjacokachgmfaaGreatDoorT10
set_option linter.unusedVariables false
set_option linter.unusedSimpArgs false
section
namespace Go.Proofs.YthjacokachgmfaaGreatDoor.H
open Go Go.RowKit Go.Shelf YthjacokachgmfaaGreatDoorW.PrintWords YthjacokachgmfaaGreatDoorW.PrintLast YthjacokachgmfaaGreatDoorW.PrintMore
attribute [local go_sem] Oper.semAt_some
theorem info3:(Tryz.prog.info? 3).map (fun i=>(i.zero,i.size,i.bytes))=some (some (.int .i64 0),1,8):=by kernel_rfl
theorem pts_len:∀ (k:Nat) (l:List Int),(pts k l).length≤k:=by
  intro k
  induction k with
  | zero=>intro l;exact Nat.le_refl _
  | succ k ih =>
    intro l
    rw [pts]
    repeat' split
    · simp
    · simp
    · have:=ih (l.drop (takeC l).2.toNat)
      rw [List.length_cons]
      omega
theorem points_c (A:Option Addr) (m c:Nat) (w:World):Calls Tryz.prog 124 #[.slice A m c] w fun e w'=>e=.returned (.func (.func 182) #[] #[.pointer (some ⟨w.heap.size,0,none⟩)])∧w'=w.alloc (.cells #[.slice A m c] 22 (0,0)):=by
  go_enter Tryz.func124,Tryz.ntmps124
  go_wp2
  go_ret
  exact ⟨rfl,rfl⟩
theorem results_all {tmps:Array Value} {W:World} {g0 g1:Nat} {A:Option Addr} {n c:Nat} {b:Bool} (h2:tmps.getD 2 undef=.pointer (some ⟨g0,0,none⟩)) (h3:tmps.getD 3 undef=.pointer (some ⟨g1,0,none⟩)) (k0:W.cell? ⟨g0,0,none⟩=some (.slice A n c)) (k1:W.cell? ⟨g1,0,none⟩=some (.bool b)) :
    (results Tryz.f74 tmps).run Tryz.prog W=.ok (.tuple #[.slice A n c,.bool b]) W:=by
  have hres:Tryz.f74.results=#[.cell 2 66,.cell 3 4]:=rfl
  have u30:=Tryz.underlying66
  have u4:=Tryz.underlying4
  have h2':tmps[2]?.getD undef=.pointer (some ⟨g0,0,none⟩):=by simpa using h2
  have h3':tmps[3]?.getD undef=.pointer (some ⟨g1,0,none⟩):=by simpa using h3
  simp only [results,hres]
  simp [go_sem,Sem.run_bind,Result.andThen,h2',h3',k0,k1,u30,u4]
def AllI (w:World) (pre:List (Int × Bool)) (W:World):Prop:=(∃ v,Boxed W (w.heap.size+1+1) 66 v∧W.ownsRow w.heap.size 3 1 v pre.length (pre.map (fun x=>Value.int .i64 x.1))∧(v=.slice none 0 0↔pre=[]))∧(Boxed W w.heap.size 66 (.slice none 0 0)∧Boxed W (w.heap.size+1) 4 (.bool false)∧(∃ u,Boxed W (w.heap.size+1+1+1) 22 u)∧(∀ x∈pre,x.2=true))∧Below w.heap.size w W
def AllX (w:World) (pre:List (Int × Bool)) (W:World):Prop:=(Boxed W w.heap.size 66 (.slice none 0 0)∧Boxed W (w.heap.size+1) 4 (.bool false)∧(∃ x∈pre,x.2=false))∧Below w.heap.size w W
theorem boxed_step {W W':World} {row:Option Nat} {B t:Nat} {v:Value} (h:Boxed W B t v) (hg:W.grownBy W' row) (hr:∀ r,row=some r→∃ o:Obj,W.heap[r]?=some o∧o.isCells=false):Boxed W' B t v:=by
  refine h.kept hg (fun e=>?_)
  obtain ⟨o,ho,hc⟩:=hr B e.symm
  have h':W.heap[B]?=some (.cells #[v] t (0,0)):=h
  rw [h'] at ho
  cases ho
  cases hc
theorem below_step' {w W W':World} {row:Option Nat} {B:Nat} (h:Below w.heap.size w W) (hB:w.heap.size≤B) (hg:W.grownBy W' row) (hr:∀ r,row=some r→B≤r∧∃ o:Obj,W.heap[r]?=some o∧o.isCells=false):Below w.heap.size w W' :=
  h.grown hg h.size (fun k e=>Nat.le_trans hB (hr k e).1)
theorem AllI_own (w:World) (B:Nat) (hB:w.heap.size≤B):OwnFrom B (AllI w):=by
  rintro s W W' row ⟨h1,⟨h2,h3,⟨u,h4⟩,h5⟩,h6⟩ hg hr
  have hr':=fun r e=>(hr r e).2
  exact ⟨holdsRow_own w.heap.size (w.heap.size+1+1) 66 3 1 (fun pre=>pre.length) (fun pre=>pre.map (fun x:Int × Bool=>Value.int .i64 x.1)) (fun pre v=>v=.slice none 0 0↔pre=[]) s W W' row h1 hg hr',⟨boxed_step h2 hg hr',boxed_step h3 hg hr',⟨u,boxed_step h4 hg hr'⟩,h5⟩,below_step' h6 hB hg hr⟩
theorem AllX_own (w:World) (B:Nat) (hB:w.heap.size≤B):OwnFrom B (AllX w):=by
  rintro s W W' row ⟨⟨h2,h3,h5⟩,h6⟩ hg hr
  have hr':=fun r e=>(hr r e).2
  exact ⟨⟨boxed_step h2 hg hr',boxed_step h3 hg hr',h5⟩,below_step' h6 hB hg hr⟩
theorem boxed_far {W:World} {B t p:Nat} {v u:Value} (h:Boxed W B t v) (hne:B≠p):Boxed (W.setCell ⟨p,0,none⟩ u) B t v :=
  (Below.heap_setCell W ⟨p,0,none⟩ u B hne).trans h
theorem AllX_bears (w:World):Bears (w.heap.size+1+1+1) (AllX w):=by
  rintro s W v ⟨⟨h2,h3,h5⟩,h6⟩
  exact ⟨⟨boxed_far h2 (by omega),boxed_far h3 (by omega),h5⟩,below_set h6 (by omega)⟩
theorem own_far {W:World} {B t base k:Nat} {u u' v:Value} {xs:List Value} (hrow:W.ownsRow base 3 1 v k xs) (hb:Boxed W B t u) (ht:t≠3):(W.setCell ⟨B,0,none⟩ u').ownsRow base 3 1 v k xs:=by
  refine hrow.kept (grownBy_setCell' W _ u') ?_
  have hne:=hb.not_row (e:=3) ht hrow
  first | exact .inr (fun e'=>hne e') | exact .inr (fun e'=>hne e'.symm) | exact .inr hne | exact .inr hne.symm
def AllPost (w:World) (l:List (Int × Bool)) (e:Ending) (w':World):Prop:=(∃ v,e=.returned (.tuple #[v,.bool true])∧(∀ x∈l,x.2=true)∧w'.ownsRow w.heap.size 3 1 v l.length (l.map (fun x=>Value.int .i64 x.1))∧Below w.heap.size w w')∨(e=.returned (.tuple #[.slice none 0 0,.bool false])∧(∃ x∈l,x.2=false)∧Below w.heap.size w w')
theorem AllI_bears (w:World):Bears (w.heap.size+1+1+1) (AllI w):=by
  rintro s W v ⟨⟨v0,hv,hrow,hG⟩,⟨h2,h3,⟨u,h4⟩,h5⟩,h6⟩
  refine ⟨⟨v0,boxed_far hv (by omega),hrow.kept (grownBy_setCell' W _ v) ?_,hG⟩,⟨boxed_far h2 (by omega),boxed_far h3 (by omega),⟨v,h4.set v⟩,h5⟩,below_set h6 (by omega)⟩
  have hne:=h4.not_row (e:=3) (by decide) hrow
  first | exact .inr (fun e'=>hne e') | exact .inr (fun e'=>hne e'.symm) | exact .inr hne | exact .inr hne.symm
set_option maxRecDepth 100000 in
set_option maxHeartbeats 2000000 in
theorem uall_t (A0:Option Addr) (c0:Nat) (l0:List Int) (w:World) (hr0:Kd.C (Kd.int .u8) w A0 l0.length l0) (hc0:l0.length≤c0) (hl:l0.length≤2000000) :
    Calls Tryz.prog 74 #[.slice A0 l0.length c0] w (AllPost w (pts (l0.length+1) l0)):=by
  refine (callsIn_wide (n:=6)).1 ?_
  refine callsIn_of_wp_marks Tryz.func74 rfl trivial ?_ rfl
  simp only [Tryz.ntmps74,List.size_toArray,List.length_cons,List.length_nil,Nat.reduceAdd,Nat.reduceSub,Array.replicate_succ,Array.replicate_zero,List.push_toArray,List.append_toArray,List.nil_append,List.cons_append]
  gi_wp2
  refine ⟨trivial,?_⟩
  refine (callsIn_wide.2 (points_c A0 l0.length c0 _)).mono ?_
  rintro e w1 ⟨rfl,rfl⟩
  gi_wp2
  obtain ⟨i0,hi,hz0,hz1,hz2⟩:=info_parts info3
  have b0:=Boxed.new w 66 (.slice none 0 0)
  have b1:=Boxed.new (w.alloc (.cells #[.slice none 0 0] 66)) 4 (.bool false)
  have b2:=Boxed.new ((w.alloc (.cells #[.slice none 0 0] 66)).alloc (.cells #[.bool false] 4)) 66 (.slice none 0 0)
  have b3:=Boxed.new (((w.alloc (.cells #[.slice none 0 0] 66)).alloc (.cells #[.bool false] 4)).alloc (.cells #[.slice none 0 0] 66)) 22 (.slice A0 l0.length c0)
  simp only [World.size_alloc] at b1 b2 b3
  have c0':=((b0.alloc (.cells #[.bool false] 4)).alloc (.cells #[.slice none 0 0] 66)).alloc (.cells #[.slice A0 l0.length c0] 22)
  have c1':=(b1.alloc (.cells #[.slice none 0 0] 66)).alloc (.cells #[.slice A0 l0.length c0] 22)
  have c2':=b2.alloc (.cells #[.slice A0 l0.length c0] 22)
  have hB0:Below w.heap.size w ((((w.alloc (Obj.cells #[Value.slice none 0 0] 66)).alloc (Obj.cells #[Value.bool false] 4)).alloc (Obj.cells #[Value.slice none 0 0] 66)).alloc (Obj.cells #[Value.slice A0 l0.length c0] 22)):=below_alloc (below_alloc (below_alloc (below_alloc (Below.refl _ _) _) _) _) _
  have hsz:((((w.alloc (Obj.cells #[Value.slice none 0 0] 66)).alloc (Obj.cells #[Value.bool false] 4)).alloc (Obj.cells #[Value.slice none 0 0] 66)).alloc (Obj.cells #[Value.slice A0 l0.length c0] 22)).heap.size=w.heap.size+4:=by simp only [World.size_alloc]
  generalize ((((w.alloc (Obj.cells #[Value.slice none 0 0] 66)).alloc (Obj.cells #[Value.bool false] 4)).alloc (Obj.cells #[Value.slice none 0 0] 66)).alloc (Obj.cells #[Value.slice A0 l0.length c0] 22))=W0 at b3 c0' c1' c2' hB0 hsz ⊢
  have hb3:W0.heap[w.heap.size+1+1+1]?=some (.cells #[.slice A0 l0.length c0] 22 (0,0)):=b3
  refine range_cell (F:=Fence.wide) (n:=6) (w:=W0) (b:=w.heap.size+1+1+1) (n₀:=w.heap.size) (by omega) (by omega) rfl (by decide) (gf:=182) (lb:=#[.pointer (some ⟨w.heap.size+1+1+1,0,none⟩)]) rfl trivial (enters_of Tryz.func182 (by kernel_rfl) rfl) (encs:=encP) (all:=pts (l0.length+1) l0)
    (fun W hW=>points_seq w 5 (by decide) _ A0 c0 l0 hr0 hc0 (by omega) W (below_step hB0 hW) ((hW.block _ (by omega)).trans hb3)) (fun _=>rfl) (AllI w) (AllX w) (AllI_own w _ (by omega)) (AllX_own w _ (by omega)) (AllI_bears w) (AllX_bears w)
    ⟨⟨_,c2',World.ownsRow_nil _ _ _ _,by simp⟩,⟨c0',c1',⟨_,b3⟩,by simp⟩,hB0⟩
    (fun x=>{ tmps:=#[.slice A0 l0.length c0,undef,.pointer (some ⟨w.heap.size,0,none⟩),.pointer (some ⟨w.heap.size+1,0,none⟩),.pointer (some ⟨w.heap.size+1+1,0,none⟩),.int .i64 x.1,.bool x.2,.slice A0 l0.length c0,.func (.func 182) #[] #[.pointer (some ⟨w.heap.size+1+1+1,0,none⟩)],.int .i64 x.1,.bool x.2,undef,undef,undef,undef,undef,undef,undef],defers:=[] }) ?assign ?body ?done ?stop
  case assign =>
    intro l x W K hK
    gi_wp2
    exact hK
  case body =>
    rintro l pre ⟨r,ok⟩ W ⟨⟨v,hv,hrow,hnil⟩,⟨q0,q1,⟨u,q3⟩,hall⟩,hB⟩ hpre
    cases ok
    · have f0:=q0.frozen
      have f1:=q1.frozen
      have k0:=q0.cell
      have k1:=q1.cell
      gi_wp2
      exact ⟨((KeepsOthers.setCell _ _ _).trans (KeepsOthers.setCell _ _ _)).from _,⟨boxed_far (q0.set _) (by omega),(boxed_far q1 (by omega)).set _,⟨(r,false),by simp,rfl⟩⟩,below_set (below_set hB (by omega)) (by omega)⟩
    · have hc:=hv.cell
      have hpl:pre.length+1≤2000001:=by
        have h1:=hpre.length_le
        have h2:=pts_len (l0.length+1) l0
        rw [List.length_append] at h1
        simp at h1
        omega
      have hmx:maxLen=9223372036854775807:=rfl
      gi_wp2_with (gi_at_builtin;refine wpListIn_append_own _ rfl _ _ 66 rfl w.heap.size 3 i0 (.int .i64 0) 1 8 Tryz.underlying66 hi hz0 hz1 hz2 rfl (by decide) _ _ _ rfl (hrow.alloc _) ⟨W.heap.size,0,none⟩ 1 1 [.int .i64 r] rfl rfl (cell_one_new _ _ _) (by simp [Value.oneCell']) (by omega) (by omega) (by have:=hB.size;simp;omega) ?_;intro v' w1 hown' hgrow _;obtain ⟨g',cap',rfl⟩:=ownsRow_succ hown';obtain ⟨hv1,hv2,hr2,hk2,hb2⟩:=hv.appended (by decide) hrow hB.size (by omega) hown' hgrow;have hc1:=hv1.cell;have hf1:=hv1.frozen)
      have z0:=boxed_far (p:=w.heap.size+1+1) (u:=.slice (some ⟨g',0,none⟩) (pre.length+1) cap') ((q0.alloc _).kept hgrow (q0.not_row (by decide) hrow)) (by omega)
      have z1:=boxed_far (p:=w.heap.size+1+1) (u:=.slice (some ⟨g',0,none⟩) (pre.length+1) cap') ((q1.alloc _).kept hgrow (q1.not_row (by decide) hrow)) (by omega)
      have z3:=boxed_far (p:=w.heap.size+1+1) (u:=.slice (some ⟨g',0,none⟩) (pre.length+1) cap') ((q3.alloc _).kept hgrow (q3.not_row (by decide) hrow)) (by omega)
      have hcell:(w1.setCell ⟨w.heap.size+1+1,0,none⟩ (.slice (some ⟨g',0,none⟩) (pre.length+1) cap')).heap[w.heap.size+1+1+1]?=W.heap[w.heap.size+1+1+1]?:=Eq.trans z3 (Eq.symm q3)
      refine ⟨hk2.from _,⟨hb2,hcell⟩,⟨⟨_,hv2,by simpa using hr2,by simp⟩,⟨z0,z1,⟨u,z3⟩,?_⟩,hB.trans hb2⟩⟩
      intro x hx
      rcases List.mem_append.mp hx with h | h
      · exact hall x h
      · rw [List.mem_singleton.mp h]
  case done =>
    rintro D W hD ⟨⟨v,hv,hrow,hnil⟩,⟨q0,q1,⟨u,q3⟩,hall⟩,hB⟩ hK
    obtain ⟨A',n',c',rfl⟩:∃ A n c,v=.slice A n c:=by
      rcases hrow.2 with ⟨rfl,_⟩ | ⟨g,cap,cur,rfl,_⟩
      · exact ⟨_,_,_,rfl⟩
      · exact ⟨_,_,_,rfl⟩
    have hc:=hv.cell
    have f0:=q0.frozen
    have f1:=q1.frozen
    have k0:=q0.cell
    have k1:=q1.cell
    gi_wp2
    have hK':=((KeepsOthers.setCell W ⟨w.heap.size,0,none⟩ (.slice A' n' c')).trans (KeepsOthers.setCell _ ⟨w.heap.size+1,0,none⟩ (.bool true))).same D _ hK rfl
    refine ⟨by simp,.inl ⟨_,_,rfl,run_takeDeferred hK',?_⟩⟩
    have e0:Boxed (((W.setCell ⟨w.heap.size,0,none⟩ (.slice A' n' c')).setCell ⟨w.heap.size+1,0,none⟩ (.bool true)).putObj D (Obj.deferred none)) w.heap.size 66 (.slice A' n' c'):=(World.putObj_heap_other (by omega)).trans (boxed_far (q0.set _) (by omega))
    have e1:Boxed (((W.setCell ⟨w.heap.size,0,none⟩ (.slice A' n' c')).setCell ⟨w.heap.size+1,0,none⟩ (.bool true)).putObj D (Obj.deferred none)) (w.heap.size+1) 4 (.bool true):=(World.putObj_heap_other (by omega)).trans ((boxed_far q1 (by omega)).set _)
    have r1:=own_far (u':=.slice A' n' c') hrow q0 (by decide)
    have r2:=own_far (u':=.bool true) r1 (boxed_far q1 (by omega)) (by decide)
    have r3:=ownsRow_putObj r2 (Obj.deferred none) hK' rfl
    exact ⟨_,results_all rfl rfl e0.cell e1.cell,.inl ⟨_,rfl,hall,r3,(below_set (below_set hB (by omega)) (by omega)).trans (belowK_b (w:=w) (Nat.le_refl _) _ D _ _ (by omega) hK' rfl rfl)⟩⟩
  case stop =>
    rintro D pre W hD hpre ⟨⟨q0,q1,hx⟩,hB⟩ hK
    gi_wp2
    refine ⟨by simp,.inl ⟨_,_,rfl,run_takeDeferred hK,?_⟩⟩
    have e0:Boxed (W.putObj D (Obj.deferred none)) w.heap.size 66 (.slice none 0 0):=(World.putObj_heap_other (by omega)).trans q0
    have e1:Boxed (W.putObj D (Obj.deferred none)) (w.heap.size+1) 4 (.bool false):=(World.putObj_heap_other (by omega)).trans q1
    obtain ⟨x,hx1,hx2⟩:=hx
    exact ⟨_,results_all rfl rfl e0.cell e1.cell,.inr ⟨rfl,⟨x,hpre.subset hx1,hx2⟩,hB.trans (belowK_b (w:=w) (Nat.le_refl _) _ D _ _ (by omega) hK rfl rfl)⟩⟩
theorem R_of_owns {W:World} {base:Nat} {v:Value} {l:List Int} (h:W.ownsRow base 3 1 v l.length (l.map (Value.int .i64))):Kd.R (Kd.int .i64) 3 W base (fun _=>True) v l:=by
  refine ⟨fun _ _=>trivial,l.map (Value.int .i64),h,by rw [List.length_map];exact (Nat.mul_one _).symm,?_⟩
  intro j p hj
  show ((l.map (Value.int .i64)).drop (j * 1)).take 1=[Value.int .i64 p]
  have hlt:j < l.length:=by
    rcases Nat.lt_or_ge j l.length with h | h
    · exact h
    · rw [List.getElem?_eq_none h] at hj;cases hj
  rw [List.getElem?_eq_getElem hlt] at hj
  have e:l[j]=p:=Option.some.inj hj
  rw [Nat.mul_one,List.drop_eq_getElem_cons (by rw [List.length_map];exact hlt),List.take_succ_cons,List.take_zero,List.getElem_map,e]
def allC (l:List Int):List Int × Bool:=if ∀ x∈pts (l.length+1) l,x.2=true then ((pts (l.length+1) l).map (fun x=>x.1),true) else ([],false)
def utf_All.f (l0:List Int):Option (List Int × Bool):=if l0.length≤2000000 then some (allC l0) else none
theorem utf_All.calls (A0:Option Addr) (c0:Nat) (l0:List Int) (r1:List Int) (r2:Bool) (w:World) (hr0:Kd.C (Kd.int .u8) w A0 l0.length l0) (hc0:l0.length≤c0) (h:utf_All.f l0=some (r1,r2)) :
    Calls Tryz.prog 74 #[.slice A0 l0.length c0] w fun e w'=>∃ v0_:Value,e=.returned (.tuple #[v0_,.bool r2])∧Kd.R (Kd.int .i64) 3 w' w.heap.size (fun _=>True) v0_ r1∧Below w.heap.size w w':=by
  unfold utf_All.f at h
  by_cases hl:l0.length≤2000000
  · rw [if_pos hl] at h
    have e:allC l0=(r1,r2):=Option.some.inj h
    refine (uall_t A0 c0 l0 w hr0 hc0 hl).mono ?_
    rintro e' w' (⟨v,rfl,hall,hrow,hb⟩ | ⟨rfl,⟨x,hx,hf⟩,hb⟩)
    · have e2:allC l0=((pts (l0.length+1) l0).map (fun x=>x.1),true):=if_pos hall
      rw [e] at e2
      obtain ⟨rfl,rfl⟩:=Prod.mk.inj e2
      refine ⟨v,rfl,R_of_owns ?_,hb⟩
      rw [List.length_map,List.map_map]
      exact hrow
    · have e2:allC l0=([],false):=if_neg (fun k=>by have:=k x hx;rw [hf] at this;cases this)
      rw [e] at e2
      obtain ⟨rfl,rfl⟩:=Prod.mk.inj e2
      exact ⟨_,rfl,Kd.R_nil _ _ _ _ _,hb⟩
  · rw [if_neg hl] at h
    cases h
end Go.Proofs.YthjacokachgmfaaGreatDoor.H
end
section
namespace Go.Proofs.YthjacokachgmfaaGreatDoor.H
open Go Go.RowKit YthjacokachgmfaaGreatDoorW.PrintWords YthjacokachgmfaaGreatDoorW.PrintLast YthjacokachgmfaaGreatDoorW.PrintMore
def numL:List (Int × Int):=[(57348,2),(57425,2),(57349,3),(57426,3),(57354,5),(57421,5),(57355,6),(57422,6),(57368,15),(57369,17),(57370,18),(57371,19),(57372,20),(57373,21),(57374,23),(57375,24),(57363,29)]
def numC (a0:Int):Int:=match numL.find? (fun x=>x.1 == a0) with
  | some x=>x.2
  | none=>0
def clavierref09_number.f (a0:Int):Option (Int):=some (numC a0)
set_option maxRecDepth 100000 in
set_option maxHeartbeats 4000000 in
theorem num_t (a0:Int) (w:World):Calls Tryz.prog 67 #[.int .i64 a0] w fun e w'=>e=.returned (.int .i64 (numC a0))∧Below w.heap.size w w':=by
  by_cases h0:a0=57348
  · subst h0
    go_enter Tryz.func67,Tryz.ntmps67
    go_wp2
    go_ret
    exact ⟨rfl,Below.refl _ _⟩
  by_cases h1:a0=57425
  · subst h1
    go_enter Tryz.func67,Tryz.ntmps67
    go_wp2
    go_ret
    exact ⟨rfl,Below.refl _ _⟩
  by_cases h2:a0=57349
  · subst h2
    go_enter Tryz.func67,Tryz.ntmps67
    go_wp2
    go_ret
    exact ⟨rfl,Below.refl _ _⟩
  by_cases h3:a0=57426
  · subst h3
    go_enter Tryz.func67,Tryz.ntmps67
    go_wp2
    go_ret
    exact ⟨rfl,Below.refl _ _⟩
  by_cases h4:a0=57354
  · subst h4
    go_enter Tryz.func67,Tryz.ntmps67
    go_wp2
    go_ret
    exact ⟨rfl,Below.refl _ _⟩
  by_cases h5:a0=57421
  · subst h5
    go_enter Tryz.func67,Tryz.ntmps67
    go_wp2
    go_ret
    exact ⟨rfl,Below.refl _ _⟩
  by_cases h6:a0=57355
  · subst h6
    go_enter Tryz.func67,Tryz.ntmps67
    go_wp2
    go_ret
    exact ⟨rfl,Below.refl _ _⟩
  by_cases h7:a0=57422
  · subst h7
    go_enter Tryz.func67,Tryz.ntmps67
    go_wp2
    go_ret
    exact ⟨rfl,Below.refl _ _⟩
  by_cases h8:a0=57368
  · subst h8
    go_enter Tryz.func67,Tryz.ntmps67
    go_wp2
    go_ret
    exact ⟨rfl,Below.refl _ _⟩
  by_cases h9:a0=57369
  · subst h9
    go_enter Tryz.func67,Tryz.ntmps67
    go_wp2
    go_ret
    exact ⟨rfl,Below.refl _ _⟩
  by_cases h10:a0=57370
  · subst h10
    go_enter Tryz.func67,Tryz.ntmps67
    go_wp2
    go_ret
    exact ⟨rfl,Below.refl _ _⟩
  by_cases h11:a0=57371
  · subst h11
    go_enter Tryz.func67,Tryz.ntmps67
    go_wp2
    go_ret
    exact ⟨rfl,Below.refl _ _⟩
  by_cases h12:a0=57372
  · subst h12
    go_enter Tryz.func67,Tryz.ntmps67
    go_wp2
    go_ret
    exact ⟨rfl,Below.refl _ _⟩
  by_cases h13:a0=57373
  · subst h13
    go_enter Tryz.func67,Tryz.ntmps67
    go_wp2
    go_ret
    exact ⟨rfl,Below.refl _ _⟩
  by_cases h14:a0=57374
  · subst h14
    go_enter Tryz.func67,Tryz.ntmps67
    go_wp2
    go_ret
    exact ⟨rfl,Below.refl _ _⟩
  by_cases h15:a0=57375
  · subst h15
    go_enter Tryz.func67,Tryz.ntmps67
    go_wp2
    go_ret
    exact ⟨rfl,Below.refl _ _⟩
  by_cases h16:a0=57363
  · subst h16
    go_enter Tryz.func67,Tryz.ntmps67
    go_wp2
    go_ret
    exact ⟨rfl,Below.refl _ _⟩
  have hn:numC a0=0:=by
    unfold numC numL
    rw [List.find?_eq_none.2 (by intro x hx;simp only [List.mem_cons,List.not_mem_nil,or_false] at hx;rcases hx with rfl | rfl | rfl | rfl | rfl | rfl | rfl | rfl | rfl | rfl | rfl | rfl | rfl | rfl | rfl | rfl | rfl<;>simp<;>omega)]
  have b0:(a0 == 57348)=false:=beq_eq_false_iff_ne.mpr h0
  have b1:(a0 == 57425)=false:=beq_eq_false_iff_ne.mpr h1
  have b2:(a0 == 57349)=false:=beq_eq_false_iff_ne.mpr h2
  have b3:(a0 == 57426)=false:=beq_eq_false_iff_ne.mpr h3
  have b4:(a0 == 57354)=false:=beq_eq_false_iff_ne.mpr h4
  have b5:(a0 == 57421)=false:=beq_eq_false_iff_ne.mpr h5
  have b6:(a0 == 57355)=false:=beq_eq_false_iff_ne.mpr h6
  have b7:(a0 == 57422)=false:=beq_eq_false_iff_ne.mpr h7
  have b8:(a0 == 57368)=false:=beq_eq_false_iff_ne.mpr h8
  have b9:(a0 == 57369)=false:=beq_eq_false_iff_ne.mpr h9
  have b10:(a0 == 57370)=false:=beq_eq_false_iff_ne.mpr h10
  have b11:(a0 == 57371)=false:=beq_eq_false_iff_ne.mpr h11
  have b12:(a0 == 57372)=false:=beq_eq_false_iff_ne.mpr h12
  have b13:(a0 == 57373)=false:=beq_eq_false_iff_ne.mpr h13
  have b14:(a0 == 57374)=false:=beq_eq_false_iff_ne.mpr h14
  have b15:(a0 == 57375)=false:=beq_eq_false_iff_ne.mpr h15
  have b16:(a0 == 57363)=false:=beq_eq_false_iff_ne.mpr h16
  clear h0 h1 h2 h3 h4 h5 h6 h7 h8 h9 h10 h11 h12 h13 h14 h15 h16
  rw [hn]
  go_enter Tryz.func67,Tryz.ntmps67
  go_wp2
  go_ret
  exact ⟨rfl,Below.refl _ _⟩
theorem clavierref09_number.calls (a0:Int) (r:Int) (w:World) (h:clavierref09_number.f a0=some r) :
    Calls Tryz.prog 67 #[.int .i64 a0] w fun e w'=>e=.returned (.int .i64 r)∧Below w.heap.size w w':=by
  obtain rfl:=Option.some.inj h
  exact num_t a0 w
end Go.Proofs.YthjacokachgmfaaGreatDoor.H
end
section
namespace Go.Proofs.YthjacokachgmfaaGreatDoor.H
open Go Go.RowKit YthjacokachgmfaaGreatDoorW.PrintWords YthjacokachgmfaaGreatDoorW.PrintLast YthjacokachgmfaaGreatDoorW.PrintMore
def padL:List (Int × Int × Int):=[(57399,112,48),(57400,113,49),(57401,114,50),(57402,115,51),(57403,116,52),(57404,117,53),(57405,118,54),(57406,119,55),(57407,120,56),(57408,121,57),(57409,110,46),(57410,111,47),(57411,106,42),(57412,109,45),(57413,107,43),(57414,77,13),(57415,88,61),(57416,108,44)]
def clavierref09_pad.f (a0:Int):Option (Int × Int × Int × Int × Bool):=match padL.find? (fun x=>x.1 == a0) with
  | some x=>some (5,x.2.1,0,x.2.2,true)
  | none=>none
theorem second (w:World) (o1 o2:Obj):((w.alloc o1).alloc o2).heap[w.heap.size]?=some o1:=blk_alloc (blk_new w o1) o2
set_option maxRecDepth 100000 in
set_option maxHeartbeats 4000000 in
theorem pad_57399 (w:World):Calls Tryz.prog 68 #[.int .i64 57399] w fun e w'=>e=.returned (.agg #[.int .i64 5,.int .u8 112,.int .i64 0,.int .i64 48,.bool true])∧Below w.heap.size w w':=by
  have hu:=Tryz.underlying85
  go_enter Tryz.func68,Tryz.ntmps68
  go_wp2
  refine bodyPost_ret (results_cell_row rfl _ _ w.heap.size 85 #[.int .i64 5,.int .u8 112,.int .i64 0,.int .i64 48,.bool true] (0,0) _ rfl ((second _ _ _).trans (by kernel_rfl)) Tryz.underlying85 rfl (by kernel_rfl)) rfl ⟨rfl,below_alloc (below_alloc (Below.refl _ _) _) _⟩
set_option maxRecDepth 100000 in
set_option maxHeartbeats 4000000 in
theorem pad_57400 (w:World):Calls Tryz.prog 68 #[.int .i64 57400] w fun e w'=>e=.returned (.agg #[.int .i64 5,.int .u8 113,.int .i64 0,.int .i64 49,.bool true])∧Below w.heap.size w w':=by
  have hu:=Tryz.underlying85
  go_enter Tryz.func68,Tryz.ntmps68
  go_wp2
  refine bodyPost_ret (results_cell_row rfl _ _ w.heap.size 85 #[.int .i64 5,.int .u8 113,.int .i64 0,.int .i64 49,.bool true] (0,0) _ rfl ((second _ _ _).trans (by kernel_rfl)) Tryz.underlying85 rfl (by kernel_rfl)) rfl ⟨rfl,below_alloc (below_alloc (Below.refl _ _) _) _⟩
set_option maxRecDepth 100000 in
set_option maxHeartbeats 4000000 in
theorem pad_57401 (w:World):Calls Tryz.prog 68 #[.int .i64 57401] w fun e w'=>e=.returned (.agg #[.int .i64 5,.int .u8 114,.int .i64 0,.int .i64 50,.bool true])∧Below w.heap.size w w':=by
  have hu:=Tryz.underlying85
  go_enter Tryz.func68,Tryz.ntmps68
  go_wp2
  refine bodyPost_ret (results_cell_row rfl _ _ w.heap.size 85 #[.int .i64 5,.int .u8 114,.int .i64 0,.int .i64 50,.bool true] (0,0) _ rfl ((second _ _ _).trans (by kernel_rfl)) Tryz.underlying85 rfl (by kernel_rfl)) rfl ⟨rfl,below_alloc (below_alloc (Below.refl _ _) _) _⟩
set_option maxRecDepth 100000 in
set_option maxHeartbeats 4000000 in
theorem pad_57402 (w:World):Calls Tryz.prog 68 #[.int .i64 57402] w fun e w'=>e=.returned (.agg #[.int .i64 5,.int .u8 115,.int .i64 0,.int .i64 51,.bool true])∧Below w.heap.size w w':=by
  have hu:=Tryz.underlying85
  go_enter Tryz.func68,Tryz.ntmps68
  go_wp2
  refine bodyPost_ret (results_cell_row rfl _ _ w.heap.size 85 #[.int .i64 5,.int .u8 115,.int .i64 0,.int .i64 51,.bool true] (0,0) _ rfl ((second _ _ _).trans (by kernel_rfl)) Tryz.underlying85 rfl (by kernel_rfl)) rfl ⟨rfl,below_alloc (below_alloc (Below.refl _ _) _) _⟩
set_option maxRecDepth 100000 in
set_option maxHeartbeats 4000000 in
theorem pad_57403 (w:World):Calls Tryz.prog 68 #[.int .i64 57403] w fun e w'=>e=.returned (.agg #[.int .i64 5,.int .u8 116,.int .i64 0,.int .i64 52,.bool true])∧Below w.heap.size w w':=by
  have hu:=Tryz.underlying85
  go_enter Tryz.func68,Tryz.ntmps68
  go_wp2
  refine bodyPost_ret (results_cell_row rfl _ _ w.heap.size 85 #[.int .i64 5,.int .u8 116,.int .i64 0,.int .i64 52,.bool true] (0,0) _ rfl ((second _ _ _).trans (by kernel_rfl)) Tryz.underlying85 rfl (by kernel_rfl)) rfl ⟨rfl,below_alloc (below_alloc (Below.refl _ _) _) _⟩
set_option maxRecDepth 100000 in
set_option maxHeartbeats 4000000 in
theorem pad_57404 (w:World):Calls Tryz.prog 68 #[.int .i64 57404] w fun e w'=>e=.returned (.agg #[.int .i64 5,.int .u8 117,.int .i64 0,.int .i64 53,.bool true])∧Below w.heap.size w w':=by
  have hu:=Tryz.underlying85
  go_enter Tryz.func68,Tryz.ntmps68
  go_wp2
  refine bodyPost_ret (results_cell_row rfl _ _ w.heap.size 85 #[.int .i64 5,.int .u8 117,.int .i64 0,.int .i64 53,.bool true] (0,0) _ rfl ((second _ _ _).trans (by kernel_rfl)) Tryz.underlying85 rfl (by kernel_rfl)) rfl ⟨rfl,below_alloc (below_alloc (Below.refl _ _) _) _⟩
set_option maxRecDepth 100000 in
set_option maxHeartbeats 4000000 in
theorem pad_57405 (w:World):Calls Tryz.prog 68 #[.int .i64 57405] w fun e w'=>e=.returned (.agg #[.int .i64 5,.int .u8 118,.int .i64 0,.int .i64 54,.bool true])∧Below w.heap.size w w':=by
  have hu:=Tryz.underlying85
  go_enter Tryz.func68,Tryz.ntmps68
  go_wp2
  refine bodyPost_ret (results_cell_row rfl _ _ w.heap.size 85 #[.int .i64 5,.int .u8 118,.int .i64 0,.int .i64 54,.bool true] (0,0) _ rfl ((second _ _ _).trans (by kernel_rfl)) Tryz.underlying85 rfl (by kernel_rfl)) rfl ⟨rfl,below_alloc (below_alloc (Below.refl _ _) _) _⟩
set_option maxRecDepth 100000 in
set_option maxHeartbeats 4000000 in
theorem pad_57406 (w:World):Calls Tryz.prog 68 #[.int .i64 57406] w fun e w'=>e=.returned (.agg #[.int .i64 5,.int .u8 119,.int .i64 0,.int .i64 55,.bool true])∧Below w.heap.size w w':=by
  have hu:=Tryz.underlying85
  go_enter Tryz.func68,Tryz.ntmps68
  go_wp2
  refine bodyPost_ret (results_cell_row rfl _ _ w.heap.size 85 #[.int .i64 5,.int .u8 119,.int .i64 0,.int .i64 55,.bool true] (0,0) _ rfl ((second _ _ _).trans (by kernel_rfl)) Tryz.underlying85 rfl (by kernel_rfl)) rfl ⟨rfl,below_alloc (below_alloc (Below.refl _ _) _) _⟩
set_option maxRecDepth 100000 in
set_option maxHeartbeats 4000000 in
theorem pad_57407 (w:World):Calls Tryz.prog 68 #[.int .i64 57407] w fun e w'=>e=.returned (.agg #[.int .i64 5,.int .u8 120,.int .i64 0,.int .i64 56,.bool true])∧Below w.heap.size w w':=by
  have hu:=Tryz.underlying85
  go_enter Tryz.func68,Tryz.ntmps68
  go_wp2
  refine bodyPost_ret (results_cell_row rfl _ _ w.heap.size 85 #[.int .i64 5,.int .u8 120,.int .i64 0,.int .i64 56,.bool true] (0,0) _ rfl ((second _ _ _).trans (by kernel_rfl)) Tryz.underlying85 rfl (by kernel_rfl)) rfl ⟨rfl,below_alloc (below_alloc (Below.refl _ _) _) _⟩
set_option maxRecDepth 100000 in
set_option maxHeartbeats 4000000 in
theorem pad_57408 (w:World):Calls Tryz.prog 68 #[.int .i64 57408] w fun e w'=>e=.returned (.agg #[.int .i64 5,.int .u8 121,.int .i64 0,.int .i64 57,.bool true])∧Below w.heap.size w w':=by
  have hu:=Tryz.underlying85
  go_enter Tryz.func68,Tryz.ntmps68
  go_wp2
  refine bodyPost_ret (results_cell_row rfl _ _ w.heap.size 85 #[.int .i64 5,.int .u8 121,.int .i64 0,.int .i64 57,.bool true] (0,0) _ rfl ((second _ _ _).trans (by kernel_rfl)) Tryz.underlying85 rfl (by kernel_rfl)) rfl ⟨rfl,below_alloc (below_alloc (Below.refl _ _) _) _⟩
set_option maxRecDepth 100000 in
set_option maxHeartbeats 4000000 in
theorem pad_57409 (w:World):Calls Tryz.prog 68 #[.int .i64 57409] w fun e w'=>e=.returned (.agg #[.int .i64 5,.int .u8 110,.int .i64 0,.int .i64 46,.bool true])∧Below w.heap.size w w':=by
  have hu:=Tryz.underlying85
  go_enter Tryz.func68,Tryz.ntmps68
  go_wp2
  refine bodyPost_ret (results_cell_row rfl _ _ w.heap.size 85 #[.int .i64 5,.int .u8 110,.int .i64 0,.int .i64 46,.bool true] (0,0) _ rfl ((second _ _ _).trans (by kernel_rfl)) Tryz.underlying85 rfl (by kernel_rfl)) rfl ⟨rfl,below_alloc (below_alloc (Below.refl _ _) _) _⟩
set_option maxRecDepth 100000 in
set_option maxHeartbeats 4000000 in
theorem pad_57410 (w:World):Calls Tryz.prog 68 #[.int .i64 57410] w fun e w'=>e=.returned (.agg #[.int .i64 5,.int .u8 111,.int .i64 0,.int .i64 47,.bool true])∧Below w.heap.size w w':=by
  have hu:=Tryz.underlying85
  go_enter Tryz.func68,Tryz.ntmps68
  go_wp2
  refine bodyPost_ret (results_cell_row rfl _ _ w.heap.size 85 #[.int .i64 5,.int .u8 111,.int .i64 0,.int .i64 47,.bool true] (0,0) _ rfl ((second _ _ _).trans (by kernel_rfl)) Tryz.underlying85 rfl (by kernel_rfl)) rfl ⟨rfl,below_alloc (below_alloc (Below.refl _ _) _) _⟩
set_option maxRecDepth 100000 in
set_option maxHeartbeats 4000000 in
theorem pad_57411 (w:World):Calls Tryz.prog 68 #[.int .i64 57411] w fun e w'=>e=.returned (.agg #[.int .i64 5,.int .u8 106,.int .i64 0,.int .i64 42,.bool true])∧Below w.heap.size w w':=by
  have hu:=Tryz.underlying85
  go_enter Tryz.func68,Tryz.ntmps68
  go_wp2
  refine bodyPost_ret (results_cell_row rfl _ _ w.heap.size 85 #[.int .i64 5,.int .u8 106,.int .i64 0,.int .i64 42,.bool true] (0,0) _ rfl ((second _ _ _).trans (by kernel_rfl)) Tryz.underlying85 rfl (by kernel_rfl)) rfl ⟨rfl,below_alloc (below_alloc (Below.refl _ _) _) _⟩
set_option maxRecDepth 100000 in
set_option maxHeartbeats 4000000 in
theorem pad_57412 (w:World):Calls Tryz.prog 68 #[.int .i64 57412] w fun e w'=>e=.returned (.agg #[.int .i64 5,.int .u8 109,.int .i64 0,.int .i64 45,.bool true])∧Below w.heap.size w w':=by
  have hu:=Tryz.underlying85
  go_enter Tryz.func68,Tryz.ntmps68
  go_wp2
  refine bodyPost_ret (results_cell_row rfl _ _ w.heap.size 85 #[.int .i64 5,.int .u8 109,.int .i64 0,.int .i64 45,.bool true] (0,0) _ rfl ((second _ _ _).trans (by kernel_rfl)) Tryz.underlying85 rfl (by kernel_rfl)) rfl ⟨rfl,below_alloc (below_alloc (Below.refl _ _) _) _⟩
set_option maxRecDepth 100000 in
set_option maxHeartbeats 4000000 in
theorem pad_57413 (w:World):Calls Tryz.prog 68 #[.int .i64 57413] w fun e w'=>e=.returned (.agg #[.int .i64 5,.int .u8 107,.int .i64 0,.int .i64 43,.bool true])∧Below w.heap.size w w':=by
  have hu:=Tryz.underlying85
  go_enter Tryz.func68,Tryz.ntmps68
  go_wp2
  refine bodyPost_ret (results_cell_row rfl _ _ w.heap.size 85 #[.int .i64 5,.int .u8 107,.int .i64 0,.int .i64 43,.bool true] (0,0) _ rfl ((second _ _ _).trans (by kernel_rfl)) Tryz.underlying85 rfl (by kernel_rfl)) rfl ⟨rfl,below_alloc (below_alloc (Below.refl _ _) _) _⟩
set_option maxRecDepth 100000 in
set_option maxHeartbeats 4000000 in
theorem pad_57414 (w:World):Calls Tryz.prog 68 #[.int .i64 57414] w fun e w'=>e=.returned (.agg #[.int .i64 5,.int .u8 77,.int .i64 0,.int .i64 13,.bool true])∧Below w.heap.size w w':=by
  have hu:=Tryz.underlying85
  go_enter Tryz.func68,Tryz.ntmps68
  go_wp2
  refine bodyPost_ret (results_cell_row rfl _ _ w.heap.size 85 #[.int .i64 5,.int .u8 77,.int .i64 0,.int .i64 13,.bool true] (0,0) _ rfl ((second _ _ _).trans (by kernel_rfl)) Tryz.underlying85 rfl (by kernel_rfl)) rfl ⟨rfl,below_alloc (below_alloc (Below.refl _ _) _) _⟩
set_option maxRecDepth 100000 in
set_option maxHeartbeats 4000000 in
theorem pad_57415 (w:World):Calls Tryz.prog 68 #[.int .i64 57415] w fun e w'=>e=.returned (.agg #[.int .i64 5,.int .u8 88,.int .i64 0,.int .i64 61,.bool true])∧Below w.heap.size w w':=by
  have hu:=Tryz.underlying85
  go_enter Tryz.func68,Tryz.ntmps68
  go_wp2
  refine bodyPost_ret (results_cell_row rfl _ _ w.heap.size 85 #[.int .i64 5,.int .u8 88,.int .i64 0,.int .i64 61,.bool true] (0,0) _ rfl ((second _ _ _).trans (by kernel_rfl)) Tryz.underlying85 rfl (by kernel_rfl)) rfl ⟨rfl,below_alloc (below_alloc (Below.refl _ _) _) _⟩
set_option maxRecDepth 100000 in
set_option maxHeartbeats 4000000 in
theorem pad_57416 (w:World):Calls Tryz.prog 68 #[.int .i64 57416] w fun e w'=>e=.returned (.agg #[.int .i64 5,.int .u8 108,.int .i64 0,.int .i64 44,.bool true])∧Below w.heap.size w w':=by
  have hu:=Tryz.underlying85
  go_enter Tryz.func68,Tryz.ntmps68
  go_wp2
  refine bodyPost_ret (results_cell_row rfl _ _ w.heap.size 85 #[.int .i64 5,.int .u8 108,.int .i64 0,.int .i64 44,.bool true] (0,0) _ rfl ((second _ _ _).trans (by kernel_rfl)) Tryz.underlying85 rfl (by kernel_rfl)) rfl ⟨rfl,below_alloc (below_alloc (Below.refl _ _) _) _⟩
theorem clavierref09_pad.calls (a0:Int) (r1:Int) (r2:Int) (r3:Int) (r4:Int) (r5:Bool) (w:World) (h:clavierref09_pad.f a0=some (r1,r2,r3,r4,r5)) :
    Calls Tryz.prog 68 #[.int .i64 a0] w fun e w'=>e=.returned (.agg #[.int .i64 r1,.int .u8 r2,.int .i64 r3,.int .i64 r4,.bool r5])∧Below w.heap.size w w':=by
  unfold clavierref09_pad.f at h
  split at h
  · rename_i x hx
    have hm:=List.mem_of_find?_eq_some hx
    have he:=List.find?_some hx
    simp only [beq_iff_eq] at he
    subst he
    simp only [Option.some.injEq,Prod.mk.injEq] at h
    obtain ⟨rfl,rfl,rfl,rfl,rfl⟩:=h
    clear hx
    unfold padL at hm
    simp only [List.mem_cons,List.not_mem_nil,or_false] at hm
    rcases hm with rfl | rfl | rfl | rfl | rfl | rfl | rfl | rfl | rfl | rfl | rfl | rfl | rfl | rfl | rfl | rfl | rfl | rfl
    · exact pad_57399 w
    · exact pad_57400 w
    · exact pad_57401 w
    · exact pad_57402 w
    · exact pad_57403 w
    · exact pad_57404 w
    · exact pad_57405 w
    · exact pad_57406 w
    · exact pad_57407 w
    · exact pad_57408 w
    · exact pad_57409 w
    · exact pad_57410 w
    · exact pad_57411 w
    · exact pad_57412 w
    · exact pad_57413 w
    · exact pad_57414 w
    · exact pad_57415 w
    · exact pad_57416 w
  · cases h
end Go.Proofs.YthjacokachgmfaaGreatDoor.H
end
section
namespace Go.Proofs.YthjacokachgmfaaGreatDoor.H
theorem field85_0 (x0:Int) (x1:Int) (x2:Int) (x3:Int) (x4:Bool) (W:World):(Instr.field 85 (.agg #[.int .i64 x0,.int .u8 x1,.int .i64 x2,.int .i64 x3,.bool x4]) 0).run Tryz.prog W=.ok (.int .i64 x0) W:=by kernel_rfl
end Go.Proofs.YthjacokachgmfaaGreatDoor.H
end
section
namespace Go.Proofs.YthjacokachgmfaaGreatDoor.F
open YthjacokachgmfaaGreatDoor.H Go.RowKit YthjacokachgmfaaGreatDoorW.PrintWords YthjacokachgmfaaGreatDoorW.PrintLast YthjacokachgmfaaGreatDoorW.PrintMore
attribute [local go_sem] max2_int min2_int max_two min_two max_three min_three max_four min_four
def errW:Option Int→Value
  | none=>.nilIface
  | some c=>.iface 0 (.int .i64 c)
theorem errW_none:errW none=.nilIface:=rfl
theorem errW_some (c:Int):errW (some c)=.iface 0 (.int .i64 c):=rfl
theorem info3:(Tryz.prog.info? 3).map (fun i=>(i.zero,i.size,i.bytes))=some (some (.int .i64 0),1,8):=by kernel_rfl
theorem info5:(Tryz.prog.info? 5).map (fun i=>(i.zero,i.size,i.bytes))=some (some (.int .u8 0),1,1):=by kernel_rfl
end Go.Proofs.YthjacokachgmfaaGreatDoor.F
end
