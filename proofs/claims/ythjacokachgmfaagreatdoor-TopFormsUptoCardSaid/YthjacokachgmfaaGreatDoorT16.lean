import Derived.Outline
import Derived.Test.YthjacokachgmfaaGreatDoorT09
import Derived.Test.YthjacokachgmfaaGreatDoorT15
set_option linter.unusedVariables false
set_option linter.unusedSimpArgs false
section
namespace Go.Proofs.YthjacokachgmfaaGreatDoor.H
open Go Go.RowKit Go.Shelf YthjacokachgmfaaGreatDoorW.PrintWords YthjacokachgmfaaGreatDoorW.PrintLast YthjacokachgmfaaGreatDoorW.PrintMore
attribute [local go_sem] Oper.semAt_some
abbrev LookT:=Int × Int × Int × Int × Bool
@[reducible] def entA (x:LookT):Array Value:=#[.int .i64 x.1,.int .u8 x.2.1,.int .i64 x.2.2.1,.int .i64 x.2.2.2.1,.bool x.2.2.2.2]
theorem KpD.alloc {n₀ D:Nat} {W:World} (h:n₀≤W.heap.size) (o:Obj):KpD n₀ D W (W.alloc o) :=
  ⟨(Below.refl n₀ W).alloc h o,fun k o' hk ho hc=>(Below.heap_alloc W o k (blk_lt ho)).trans ho⟩
theorem KpD.putObj {n₀ D:Nat} {W:World} {l:Nat} {o o':Obj} (hn:n₀≤l) (hl:W.heap[l]?=some o) (hc:o.isCells=false) (hw:o.isWalk=false):KpD n₀ D W (W.putObj l o') :=
  ⟨(Below.refl n₀ W).grown (grownBy_putObj' W l o') (by have:=blk_lt hl;omega) (fun k e=>by cases e;omega),fun k p hk hp hpc=>by
    have hne:k≠l:=fun e=>by subst e;rw [hl] at hp;cases hp;rw [hc] at hpc;cases hpc
    exact (World.putObj_heap_other hne).trans hp⟩
def LookI (w:World) (a0:Int) (pre:List EntT) (W:World):Prop:=(∀ x∈pre,x.1≠a0)∧W.heap[w.heap.size]?=some (.cells #[.int .i64 a0] 3 (0,0))∧W.heap[w.heap.size+1]?=some (.cells #[.int .i64 0,.int .u8 0,.int .i64 0,.int .i64 0,.bool false] 93 (0,0))∧Below w.heap.size w W
def LookX (w:World) (a0:Int) (c:Code) (pre:List EntT) (W:World):Prop:=c=.ret∧(∃ x∈pre,x.1=a0∧W.heap[w.heap.size+1]?=some (.cells (entA x.2) 93 (0,0)))∧Below w.heap.size w W
@[reducible] def lookFr (w:World) (a0:Int) (x:EntT) (p:Nat):Act:={ tmps:=#[.int .i64 a0,.pointer (some ⟨w.heap.size,0,none⟩),.pointer (some ⟨w.heap.size+1,0,none⟩),.int .i64 x.1,.pointer (some ⟨p,0,none⟩),undef,.func (.func 119) #[] #[],.int .i64 x.1,entV x,undef,undef,undef,undef,undef,undef,undef,undef,undef,undef,undef,undef,undef,undef,undef,undef,undef,undef,undef,undef,undef,undef,undef,undef,undef,undef,undef,undef,undef,undef,undef],defers:=[] }
def LookA (w:World) (a0:Int) (x:EntT) (a':Act) (W:World):Prop:=∃ p,w.heap.size+2≤p∧a'=lookFr w a0 x p∧W.heap[p]?=some (.cells (entA x.2) 93 (0,0))
theorem heap_step {W W':World} {row:Option Nat} {B:Nat} {c:Array Value} {t:TypeId} (h:W.heap[B]?=some (.cells c t (0,0))) (hg:W.grownBy W' row) (hr:∀ r,row=some r→∃ o:Obj,W.heap[r]?=some o∧o.isCells=false):W'.heap[B]?=some (.cells c t (0,0)):=by
  refine (hg.block B (blk_lt h) (fun e=>?_)).trans h
  obtain ⟨o,ho,hc⟩:=hr B e.symm
  rw [h] at ho
  cases ho
  cases hc
theorem below_stepK {w W W':World} {row:Option Nat} {B:Nat} (h:Below w.heap.size w W) (hB:w.heap.size≤B) (hg:W.grownBy W' row) (hr:∀ r,row=some r→B≤r∧∃ o:Obj,W.heap[r]?=some o∧o.isCells=false):Below w.heap.size w W' :=
  h.grown hg h.size (fun k e=>Nat.le_trans hB (hr k e).1)
theorem LookI_own (w:World) (a0:Int) (B:Nat) (hB:w.heap.size≤B):OwnFrom B (LookI w a0):=by
  rintro s W W' row ⟨h1,h2,h3,h4⟩ hg hr
  have hr':=fun r e=>(hr r e).2
  exact ⟨h1,heap_step h2 hg hr',heap_step h3 hg hr',below_stepK h4 hB hg hr⟩
theorem LookX_own (w:World) (a0:Int) (B:Nat) (hB:w.heap.size≤B) (c:Code):OwnFrom B (LookX w a0 c):=by
  rintro s W W' row ⟨h1,⟨x,hx,hc,h3⟩,h4⟩ hg hr
  exact ⟨h1,⟨x,hx,hc,heap_step h3 hg (fun r e=>(hr r e).2)⟩,below_stepK h4 hB hg hr⟩
theorem LookA_own (w:World) (a0:Int) (B:Nat) (x:EntT) (a':Act):OwnFrom B (fun (_:Unit) W=>LookA w a0 x a' W):=by
  rintro s W W' row ⟨p,h1,h2,h3⟩ hg hr
  exact ⟨p,h1,h2,heap_step h3 hg (fun r e=>(hr r e).2)⟩
theorem put_len_ne {a0:Int} (h:isB a0=true):((((putP a0).length:Nat):Int) == 0)=false:=by
  unfold putP
  rw [if_pos h]
  repeat' split
  all_goals rfl
theorem put_len_eq {a0:Int} (h:isB a0=false):((((putP a0).length:Nat):Int) == 0)=true:=by
  unfold putP
  rw [if_neg (by rw [h];decide)]
  rfl
def restL (a0:Int):LookT:=if (a0 < 32∨(127≤a0∧a0≤159))∨(57344≤a0∧a0 < 63744)∨isB a0=false then (0,0,0,0,false) else (1,0,0,0,false)
def LookPost (w:World) (a0:Int) (e:Ending) (w':World):Prop:=(∃ x∈ENTS 21,x.1=a0∧e=.returned (.agg (entA x.2))∧Below w.heap.size w w')∨((∀ x∈ENTS 21,x.1≠a0)∧e=.returned (.agg (entA (restL a0)))∧Below w.heap.size w w')
set_option maxRecDepth 100000 in
set_option maxHeartbeats 4000000 in
theorem look_t (a0:Int) (w:World):Calls Tryz.prog 35 #[.int .i64 a0] w (LookPost w a0):=by
  refine (callsIn_wide (n:=8)).1 ?_
  refine callsIn_of_wp_marks Tryz.func35 rfl trivial ?_ rfl
  simp only [Tryz.ntmps35,List.size_toArray,List.length_cons,List.length_nil,Nat.reduceAdd,Nat.reduceSub,Array.replicate_succ,Array.replicate_zero,List.push_toArray,List.append_toArray,List.nil_append,List.cons_append]
  have hu24:=Tryz.underlying93
  gi_wp2
  refine ⟨trivial,?_⟩
  refine (callsIn_wide.2 (allk_c _)).mono ?_
  rintro e w1 ⟨rfl,rfl⟩
  gi_wp2
  have b0:=blk_alloc (blk_new w (Obj.cells #[.int .i64 a0] 3)) (Obj.cells #[.int .i64 0,.int .u8 0,.int .i64 0,.int .i64 0,.bool false] 93)
  have b1:=blk_new (w.alloc (Obj.cells #[.int .i64 a0] 3)) (Obj.cells #[.int .i64 0,.int .u8 0,.int .i64 0,.int .i64 0,.bool false] 93)
  simp only [World.size_alloc] at b1
  have hB0:Below w.heap.size w ((w.alloc (Obj.cells #[.int .i64 a0] 3)).alloc (Obj.cells #[.int .i64 0,.int .u8 0,.int .i64 0,.int .i64 0,.bool false] 93)):=below_alloc (below_alloc (Below.refl _ _) _) _
  have hsz:((w.alloc (Obj.cells #[.int .i64 a0] 3)).alloc (Obj.cells #[.int .i64 0,.int .u8 0,.int .i64 0,.int .i64 0,.bool false] 93)).heap.size=w.heap.size+2:=by simp only [World.size_alloc]
  generalize ((w.alloc (Obj.cells #[.int .i64 a0] 3)).alloc (Obj.cells #[.int .i64 0,.int .u8 0,.int .i64 0,.int .i64 0,.bool false] 93))=W0 at b0 b1 hB0 hsz ⊢
  refine wpIn_rangeFunc_ownH (F:=Fence.wide) (n:=8) (w:=W0) rfl (by decide) (gf:=119) (lb:=#[]) rfl trivial (enters_of Tryz.func119 (by kernel_rfl) rfl) (encs:=encE)
    (keys_seq W0 w.heap.size 7 (by decide) (by omega)) (fun h k=>h.trans k) (fun W l o o' hl ho hc hw=>KpD.putObj (by omega) ho hc hw) (Below.refl _ _) (fun _=>rfl)
    (LookI w a0) (LookX w a0) (LookI_own w a0 _ (by omega)) (fun c=>LookX_own w a0 _ (by omega) c) ⟨by simp,b0,b1,hB0⟩ (LookA w a0) (fun x a'=>LookA_own w a0 _ x a') ?assign ?body ?done ?stop
  case assign =>
    rintro l pre ⟨c,kd,fi,nu,ch,ks⟩ W K hI hK
    have hlt:=blk_lt hI.2.2.1
    gi_wp2
    exact hK _ _ ((KeepsOthers.alloc _ _).from _) (KpD.alloc (by omega) _) ((LookI_own w a0 _ (Nat.le_refl _)).alloc _ hI) ⟨W.heap.size,by omega,rfl,blk_new _ _⟩
  case body =>
    rintro l pre ⟨c,kd,fi,nu,ch,ks⟩ a' W hl hr hI ⟨p,hp,rfl,hx⟩ hlen
    have k0:=(blk_cell hI.2.1 0).trans rfl
    by_cases hc:c=a0
    · subst hc
      have HX:=Aside0.mk hx
      have HI:=Aside0.mk hI
      have x0:=(blk_cell hx 0).trans rfl
      have x1:=(blk_cell hx 1).trans rfl
      have x2:=(blk_cell hx 2).trans rfl
      have x3:=(blk_cell hx 3).trans rfl
      have x4:=(blk_cell hx 4).trans rfl
      have g0:=(blk_cell hI.2.2.1 0).trans rfl
      have g1:=(blk_cell hI.2.2.1 1).trans rfl
      have g2:=(blk_cell hI.2.2.1 2).trans rfl
      have g3:=(blk_cell hI.2.2.1 3).trans rfl
      have g4:=(blk_cell hI.2.2.1 4).trans rfl
      have f0:=blk_frozen hI.2.2.1 0
      have f1:=blk_frozen hI.2.2.1 1
      have f2:=blk_frozen hI.2.2.1 2
      have f3:=blk_frozen hI.2.2.1 3
      have f4:=blk_frozen hI.2.2.1 4
      clear hI hx
      gi_wp2
      have hbk:=HI.out.2.2.2
      exact ⟨(((((KeepsOthers.setCell _ _ _).trans (KeepsOthers.setCell _ _ _)).trans (KeepsOthers.setCell _ _ _)).trans (KeepsOthers.setCell _ _ _)).trans (KeepsOthers.setCell _ _ _)).from _,rfl,⟨(c,kd,fi,nu,ch,ks),by simp,rfl,blk_put (blk_put (blk_put (blk_put (blk_put HI.out.2.2.1 0 _ rfl) 1 _ rfl) 2 _ rfl) 3 _ rfl) 4 _ rfl⟩,below_set (below_set (below_set (below_set (below_set hbk (by omega)) (by omega)) (by omega)) (by omega)) (by omega)⟩
    · gi_wp2
      refine ⟨KeepsFrom.refl _ _,⟨Below.refl _ _,fun _ _ _ h _=>h⟩,⟨?_,hI.2⟩⟩
      intro x hx
      rcases List.mem_append.mp hx with h | h
      · exact hI.1 x h
      · rw [List.mem_singleton.mp h];exact hc
  case done =>
    rintro D xs W hD hS hI hK
    subst hS
    have HI:=Aside0.mk hI
    have HK:=Aside0.mk hK
    have k0:=(blk_cell hI.2.1 0).trans rfl
    clear hI hK
    by_cases c1:a0 < 32
    · have hq:=HI.out.2.2.1
      have d0:decide (a0 < 32)=true:=decide_eq_true (by omega)
      have g0:=(blk_cell hq 0).trans rfl
      have g1:=(blk_cell hq 1).trans rfl
      have g2:=(blk_cell hq 2).trans rfl
      have g3:=(blk_cell hq 3).trans rfl
      have g4:=(blk_cell hq 4).trans rfl
      have f0:=blk_frozen hq 0
      have f1:=blk_frozen hq 1
      have f2:=blk_frozen hq 2
      have f3:=blk_frozen hq 3
      have f4:=blk_frozen hq 4
      clear hq
      gi_wp2
      refine ⟨trivial,?_⟩
      gi_wp2
      have hq1:(((((W.setCell ⟨w.heap.size+1,0,none⟩ (.int .i64 0)).setCell ⟨w.heap.size+1,1,none⟩ (.int .u8 0)).setCell ⟨w.heap.size+1,2,none⟩ (.int .i64 0)).setCell ⟨w.heap.size+1,3,none⟩ (.int .i64 0)).setCell ⟨w.heap.size+1,4,none⟩ (.bool false)).heap[w.heap.size+1]?=some (.cells (entA (0,0,0,0,false)) 93 (0,0)):=blk_put (blk_put (blk_put (blk_put (blk_put HI.out.2.2.1 0 _ rfl) 1 _ rfl) 2 _ rfl) 3 _ rfl) 4 _ rfl
      have hK1:=(((((KeepsOthers.setCell W ⟨w.heap.size+1,0,none⟩ (.int .i64 0)).trans (KeepsOthers.setCell _ ⟨w.heap.size+1,1,none⟩ (.int .u8 0))).trans (KeepsOthers.setCell _ ⟨w.heap.size+1,2,none⟩ (.int .i64 0))).trans (KeepsOthers.setCell _ ⟨w.heap.size+1,3,none⟩ (.int .i64 0))).trans (KeepsOthers.setCell _ ⟨w.heap.size+1,4,none⟩ (.bool false))).same D _ HK.out rfl
      have hB1:=below_set (j:=4) (v:=.bool false) (below_set (j:=3) (v:=.int .i64 0) (below_set (j:=2) (v:=.int .i64 0) (below_set (j:=1) (v:=.int .u8 0) (below_set (g:=w.heap.size+1) (j:=0) (v:=.int .i64 0) HI.out.2.2.2 (by omega)) (g:=w.heap.size+1) (by omega)) (g:=w.heap.size+1) (by omega)) (g:=w.heap.size+1) (by omega)) (g:=w.heap.size+1) (by omega)
      have hrest:restL a0=(0,0,0,0,false):=if_pos (by first | exact .inl (.inl c1) | exact .inl (.inr ⟨c2,c3⟩) | exact .inr (.inl ⟨c4,c5⟩))
      refine ⟨by simp,.inl ⟨_,_,rfl,run_takeDeferred hK1,?_⟩⟩
      have hD':w.heap.size+2≤D:=by omega
      exact ⟨_,results_cell_row rfl _ _ (w.heap.size+1) 93 (entA (0,0,0,0,false)) (0,0) _ rfl ((World.putObj_heap_other (by omega)).trans hq1) Tryz.underlying93 rfl (by kernel_rfl),.inr ⟨HI.out.1,by rw [hrest],hB1.trans ((Below.refl _ _).grown (grownBy_putObj' _ D _) (by have:=blk_lt hq1;omega) (fun k e=>by cases e;omega))⟩⟩
    by_cases c2:127≤a0
    · by_cases c3:a0≤159
      · have hq:=HI.out.2.2.1
        have d0:decide (a0 < 32)=false:=decide_eq_false (by omega)
        have d1:decide (a0≥127)=true:=decide_eq_true (by omega)
        have d2:decide (a0≤159)=true:=decide_eq_true (by omega)
        have g0:=(blk_cell hq 0).trans rfl
        have g1:=(blk_cell hq 1).trans rfl
        have g2:=(blk_cell hq 2).trans rfl
        have g3:=(blk_cell hq 3).trans rfl
        have g4:=(blk_cell hq 4).trans rfl
        have f0:=blk_frozen hq 0
        have f1:=blk_frozen hq 1
        have f2:=blk_frozen hq 2
        have f3:=blk_frozen hq 3
        have f4:=blk_frozen hq 4
        clear hq
        gi_wp2
        refine ⟨trivial,?_⟩
        gi_wp2
        have hq1:(((((W.setCell ⟨w.heap.size+1,0,none⟩ (.int .i64 0)).setCell ⟨w.heap.size+1,1,none⟩ (.int .u8 0)).setCell ⟨w.heap.size+1,2,none⟩ (.int .i64 0)).setCell ⟨w.heap.size+1,3,none⟩ (.int .i64 0)).setCell ⟨w.heap.size+1,4,none⟩ (.bool false)).heap[w.heap.size+1]?=some (.cells (entA (0,0,0,0,false)) 93 (0,0)):=blk_put (blk_put (blk_put (blk_put (blk_put HI.out.2.2.1 0 _ rfl) 1 _ rfl) 2 _ rfl) 3 _ rfl) 4 _ rfl
        have hK1:=(((((KeepsOthers.setCell W ⟨w.heap.size+1,0,none⟩ (.int .i64 0)).trans (KeepsOthers.setCell _ ⟨w.heap.size+1,1,none⟩ (.int .u8 0))).trans (KeepsOthers.setCell _ ⟨w.heap.size+1,2,none⟩ (.int .i64 0))).trans (KeepsOthers.setCell _ ⟨w.heap.size+1,3,none⟩ (.int .i64 0))).trans (KeepsOthers.setCell _ ⟨w.heap.size+1,4,none⟩ (.bool false))).same D _ HK.out rfl
        have hB1:=below_set (j:=4) (v:=.bool false) (below_set (j:=3) (v:=.int .i64 0) (below_set (j:=2) (v:=.int .i64 0) (below_set (j:=1) (v:=.int .u8 0) (below_set (g:=w.heap.size+1) (j:=0) (v:=.int .i64 0) HI.out.2.2.2 (by omega)) (g:=w.heap.size+1) (by omega)) (g:=w.heap.size+1) (by omega)) (g:=w.heap.size+1) (by omega)) (g:=w.heap.size+1) (by omega)
        have hrest:restL a0=(0,0,0,0,false):=if_pos (by first | exact .inl (.inl c1) | exact .inl (.inr ⟨c2,c3⟩) | exact .inr (.inl ⟨c4,c5⟩))
        refine ⟨by simp,.inl ⟨_,_,rfl,run_takeDeferred hK1,?_⟩⟩
        have hD':w.heap.size+2≤D:=by omega
        exact ⟨_,results_cell_row rfl _ _ (w.heap.size+1) 93 (entA (0,0,0,0,false)) (0,0) _ rfl ((World.putObj_heap_other (by omega)).trans hq1) Tryz.underlying93 rfl (by kernel_rfl),.inr ⟨HI.out.1,by rw [hrest],hB1.trans ((Below.refl _ _).grown (grownBy_putObj' _ D _) (by have:=blk_lt hq1;omega) (fun k e=>by cases e;omega))⟩⟩
      by_cases c4:57344≤a0
      · by_cases c5:a0 < 63744
        · have hq:=HI.out.2.2.1
          have d0:decide (a0 < 32)=false:=decide_eq_false (by omega)
          have d1:decide (a0≥127)=true:=decide_eq_true (by omega)
          have d2:decide (a0≤159)=false:=decide_eq_false (by omega)
          have d3:decide (a0≥57344)=true:=decide_eq_true (by omega)
          have d4:decide (a0 < 63744)=true:=decide_eq_true (by omega)
          have g0:=(blk_cell hq 0).trans rfl
          have g1:=(blk_cell hq 1).trans rfl
          have g2:=(blk_cell hq 2).trans rfl
          have g3:=(blk_cell hq 3).trans rfl
          have g4:=(blk_cell hq 4).trans rfl
          have f0:=blk_frozen hq 0
          have f1:=blk_frozen hq 1
          have f2:=blk_frozen hq 2
          have f3:=blk_frozen hq 3
          have f4:=blk_frozen hq 4
          clear hq
          gi_wp2
          refine ⟨trivial,?_⟩
          gi_wp2
          have hq1:(((((W.setCell ⟨w.heap.size+1,0,none⟩ (.int .i64 0)).setCell ⟨w.heap.size+1,1,none⟩ (.int .u8 0)).setCell ⟨w.heap.size+1,2,none⟩ (.int .i64 0)).setCell ⟨w.heap.size+1,3,none⟩ (.int .i64 0)).setCell ⟨w.heap.size+1,4,none⟩ (.bool false)).heap[w.heap.size+1]?=some (.cells (entA (0,0,0,0,false)) 93 (0,0)):=blk_put (blk_put (blk_put (blk_put (blk_put HI.out.2.2.1 0 _ rfl) 1 _ rfl) 2 _ rfl) 3 _ rfl) 4 _ rfl
          have hK1:=(((((KeepsOthers.setCell W ⟨w.heap.size+1,0,none⟩ (.int .i64 0)).trans (KeepsOthers.setCell _ ⟨w.heap.size+1,1,none⟩ (.int .u8 0))).trans (KeepsOthers.setCell _ ⟨w.heap.size+1,2,none⟩ (.int .i64 0))).trans (KeepsOthers.setCell _ ⟨w.heap.size+1,3,none⟩ (.int .i64 0))).trans (KeepsOthers.setCell _ ⟨w.heap.size+1,4,none⟩ (.bool false))).same D _ HK.out rfl
          have hB1:=below_set (j:=4) (v:=.bool false) (below_set (j:=3) (v:=.int .i64 0) (below_set (j:=2) (v:=.int .i64 0) (below_set (j:=1) (v:=.int .u8 0) (below_set (g:=w.heap.size+1) (j:=0) (v:=.int .i64 0) HI.out.2.2.2 (by omega)) (g:=w.heap.size+1) (by omega)) (g:=w.heap.size+1) (by omega)) (g:=w.heap.size+1) (by omega)) (g:=w.heap.size+1) (by omega)
          have hrest:restL a0=(0,0,0,0,false):=if_pos (by first | exact .inl (.inl c1) | exact .inl (.inr ⟨c2,c3⟩) | exact .inr (.inl ⟨c4,c5⟩))
          refine ⟨by simp,.inl ⟨_,_,rfl,run_takeDeferred hK1,?_⟩⟩
          have hD':w.heap.size+2≤D:=by omega
          exact ⟨_,results_cell_row rfl _ _ (w.heap.size+1) 93 (entA (0,0,0,0,false)) (0,0) _ rfl ((World.putObj_heap_other (by omega)).trans hq1) Tryz.underlying93 rfl (by kernel_rfl),.inr ⟨HI.out.1,by rw [hrest],hB1.trans ((Below.refl _ _).grown (grownBy_putObj' _ D _) (by have:=blk_lt hq1;omega) (fun k e=>by cases e;omega))⟩⟩
        by_cases hb:isB a0=true
        · skip
          have d0:decide (a0 < 32)=false:=decide_eq_false (by omega)
          have d1:decide (a0≥127)=true:=decide_eq_true (by omega)
          have d2:decide (a0≤159)=false:=decide_eq_false (by omega)
          have d3:decide (a0≥57344)=true:=decide_eq_true (by omega)
          have d4:decide (a0 < 63744)=false:=decide_eq_false (by omega)
          gi_wp2
          refine ⟨trivial,?_⟩
          refine (callsIn_wide.2 (utf_Put.calls a0 _ _ rfl)).mono ?_
          rintro e W2 ⟨v,rfl,hv,hb2⟩
          obtain ⟨A3,c3,rfl⟩:=Kd.R_slice hv
          have HQ:=Aside0.mk (blk_below HI.out.2.2.1 hb2)
          have HK2:=Aside0.mk (blk_below HK.out hb2)
          have HB2:=Aside0.mk (below_step HI.out.2.2.2 hb2)
          have hlen:((((putP a0).length:Nat):Int) == 0)=false:=put_len_ne hb
          clear hv hb2
          generalize (putP a0).length=n3 at hlen ⊢
          have hq:=HQ.out
          have g0:=(blk_cell hq 0).trans rfl
          have g1:=(blk_cell hq 1).trans rfl
          have g2:=(blk_cell hq 2).trans rfl
          have g3:=(blk_cell hq 3).trans rfl
          have g4:=(blk_cell hq 4).trans rfl
          have f0:=blk_frozen hq 0
          have f1:=blk_frozen hq 1
          have f2:=blk_frozen hq 2
          have f3:=blk_frozen hq 3
          have f4:=blk_frozen hq 4
          clear hq
          gi_wp2
          have hq1:(((((W2.setCell ⟨w.heap.size+1,0,none⟩ (.int .i64 1)).setCell ⟨w.heap.size+1,1,none⟩ (.int .u8 0)).setCell ⟨w.heap.size+1,2,none⟩ (.int .i64 0)).setCell ⟨w.heap.size+1,3,none⟩ (.int .i64 0)).setCell ⟨w.heap.size+1,4,none⟩ (.bool false)).heap[w.heap.size+1]?=some (.cells (entA (1,0,0,0,false)) 93 (0,0)):=blk_put (blk_put (blk_put (blk_put (blk_put HQ.out 0 _ rfl) 1 _ rfl) 2 _ rfl) 3 _ rfl) 4 _ rfl
          have hK1:=(((((KeepsOthers.setCell W2 ⟨w.heap.size+1,0,none⟩ (.int .i64 1)).trans (KeepsOthers.setCell _ ⟨w.heap.size+1,1,none⟩ (.int .u8 0))).trans (KeepsOthers.setCell _ ⟨w.heap.size+1,2,none⟩ (.int .i64 0))).trans (KeepsOthers.setCell _ ⟨w.heap.size+1,3,none⟩ (.int .i64 0))).trans (KeepsOthers.setCell _ ⟨w.heap.size+1,4,none⟩ (.bool false))).same D _ HK2.out rfl
          have hB1:=below_set (j:=4) (v:=.bool false) (below_set (j:=3) (v:=.int .i64 0) (below_set (j:=2) (v:=.int .i64 0) (below_set (j:=1) (v:=.int .u8 0) (below_set (g:=w.heap.size+1) (j:=0) (v:=.int .i64 1) HB2.out (by omega)) (g:=w.heap.size+1) (by omega)) (g:=w.heap.size+1) (by omega)) (g:=w.heap.size+1) (by omega)) (g:=w.heap.size+1) (by omega)
          have hrest:restL a0=(1,0,0,0,false):=if_neg (by rw [hb];simp;omega)
          refine ⟨by simp,.inl ⟨_,_,rfl,run_takeDeferred hK1,?_⟩⟩
          have hD':w.heap.size+2≤D:=by omega
          exact ⟨_,results_cell_row rfl _ _ (w.heap.size+1) 93 (entA (1,0,0,0,false)) (0,0) _ rfl ((World.putObj_heap_other (by omega)).trans hq1) Tryz.underlying93 rfl (by kernel_rfl),.inr ⟨HI.out.1,by rw [hrest],hB1.trans ((Below.refl _ _).grown (grownBy_putObj' _ D _) (by have:=blk_lt hq1;omega) (fun k e=>by cases e;omega))⟩⟩
        · skip
          have d0:decide (a0 < 32)=false:=decide_eq_false (by omega)
          have d1:decide (a0≥127)=true:=decide_eq_true (by omega)
          have d2:decide (a0≤159)=false:=decide_eq_false (by omega)
          have d3:decide (a0≥57344)=true:=decide_eq_true (by omega)
          have d4:decide (a0 < 63744)=false:=decide_eq_false (by omega)
          gi_wp2
          refine ⟨trivial,?_⟩
          refine (callsIn_wide.2 (utf_Put.calls a0 _ _ rfl)).mono ?_
          rintro e W2 ⟨v,rfl,hv,hb2⟩
          obtain ⟨A3,c3,rfl⟩:=Kd.R_slice hv
          have HQ:=Aside0.mk (blk_below HI.out.2.2.1 hb2)
          have HK2:=Aside0.mk (blk_below HK.out hb2)
          have HB2:=Aside0.mk (below_step HI.out.2.2.2 hb2)
          have hlen:((((putP a0).length:Nat):Int) == 0)=true:=put_len_eq (by simpa using hb)
          clear hv hb2
          generalize (putP a0).length=n3 at hlen ⊢
          have hq:=HQ.out
          have g0:=(blk_cell hq 0).trans rfl
          have g1:=(blk_cell hq 1).trans rfl
          have g2:=(blk_cell hq 2).trans rfl
          have g3:=(blk_cell hq 3).trans rfl
          have g4:=(blk_cell hq 4).trans rfl
          have f0:=blk_frozen hq 0
          have f1:=blk_frozen hq 1
          have f2:=blk_frozen hq 2
          have f3:=blk_frozen hq 3
          have f4:=blk_frozen hq 4
          clear hq
          gi_wp2
          have hq1:(((((W2.setCell ⟨w.heap.size+1,0,none⟩ (.int .i64 0)).setCell ⟨w.heap.size+1,1,none⟩ (.int .u8 0)).setCell ⟨w.heap.size+1,2,none⟩ (.int .i64 0)).setCell ⟨w.heap.size+1,3,none⟩ (.int .i64 0)).setCell ⟨w.heap.size+1,4,none⟩ (.bool false)).heap[w.heap.size+1]?=some (.cells (entA (0,0,0,0,false)) 93 (0,0)):=blk_put (blk_put (blk_put (blk_put (blk_put HQ.out 0 _ rfl) 1 _ rfl) 2 _ rfl) 3 _ rfl) 4 _ rfl
          have hK1:=(((((KeepsOthers.setCell W2 ⟨w.heap.size+1,0,none⟩ (.int .i64 0)).trans (KeepsOthers.setCell _ ⟨w.heap.size+1,1,none⟩ (.int .u8 0))).trans (KeepsOthers.setCell _ ⟨w.heap.size+1,2,none⟩ (.int .i64 0))).trans (KeepsOthers.setCell _ ⟨w.heap.size+1,3,none⟩ (.int .i64 0))).trans (KeepsOthers.setCell _ ⟨w.heap.size+1,4,none⟩ (.bool false))).same D _ HK2.out rfl
          have hB1:=below_set (j:=4) (v:=.bool false) (below_set (j:=3) (v:=.int .i64 0) (below_set (j:=2) (v:=.int .i64 0) (below_set (j:=1) (v:=.int .u8 0) (below_set (g:=w.heap.size+1) (j:=0) (v:=.int .i64 0) HB2.out (by omega)) (g:=w.heap.size+1) (by omega)) (g:=w.heap.size+1) (by omega)) (g:=w.heap.size+1) (by omega)) (g:=w.heap.size+1) (by omega)
          have hrest:restL a0=(0,0,0,0,false):=if_pos (.inr (.inr (by simpa using hb)))
          refine ⟨by simp,.inl ⟨_,_,rfl,run_takeDeferred hK1,?_⟩⟩
          have hD':w.heap.size+2≤D:=by omega
          exact ⟨_,results_cell_row rfl _ _ (w.heap.size+1) 93 (entA (0,0,0,0,false)) (0,0) _ rfl ((World.putObj_heap_other (by omega)).trans hq1) Tryz.underlying93 rfl (by kernel_rfl),.inr ⟨HI.out.1,by rw [hrest],hB1.trans ((Below.refl _ _).grown (grownBy_putObj' _ D _) (by have:=blk_lt hq1;omega) (fun k e=>by cases e;omega))⟩⟩
      · skip
        by_cases hb:isB a0=true
        · skip
          have d0:decide (a0 < 32)=false:=decide_eq_false (by omega)
          have d1:decide (a0≥127)=true:=decide_eq_true (by omega)
          have d2:decide (a0≤159)=false:=decide_eq_false (by omega)
          have d3:decide (a0≥57344)=false:=decide_eq_false (by omega)
          gi_wp2
          refine ⟨trivial,?_⟩
          refine (callsIn_wide.2 (utf_Put.calls a0 _ _ rfl)).mono ?_
          rintro e W2 ⟨v,rfl,hv,hb2⟩
          obtain ⟨A3,c3,rfl⟩:=Kd.R_slice hv
          have HQ:=Aside0.mk (blk_below HI.out.2.2.1 hb2)
          have HK2:=Aside0.mk (blk_below HK.out hb2)
          have HB2:=Aside0.mk (below_step HI.out.2.2.2 hb2)
          have hlen:((((putP a0).length:Nat):Int) == 0)=false:=put_len_ne hb
          clear hv hb2
          generalize (putP a0).length=n3 at hlen ⊢
          have hq:=HQ.out
          have g0:=(blk_cell hq 0).trans rfl
          have g1:=(blk_cell hq 1).trans rfl
          have g2:=(blk_cell hq 2).trans rfl
          have g3:=(blk_cell hq 3).trans rfl
          have g4:=(blk_cell hq 4).trans rfl
          have f0:=blk_frozen hq 0
          have f1:=blk_frozen hq 1
          have f2:=blk_frozen hq 2
          have f3:=blk_frozen hq 3
          have f4:=blk_frozen hq 4
          clear hq
          gi_wp2
          have hq1:(((((W2.setCell ⟨w.heap.size+1,0,none⟩ (.int .i64 1)).setCell ⟨w.heap.size+1,1,none⟩ (.int .u8 0)).setCell ⟨w.heap.size+1,2,none⟩ (.int .i64 0)).setCell ⟨w.heap.size+1,3,none⟩ (.int .i64 0)).setCell ⟨w.heap.size+1,4,none⟩ (.bool false)).heap[w.heap.size+1]?=some (.cells (entA (1,0,0,0,false)) 93 (0,0)):=blk_put (blk_put (blk_put (blk_put (blk_put HQ.out 0 _ rfl) 1 _ rfl) 2 _ rfl) 3 _ rfl) 4 _ rfl
          have hK1:=(((((KeepsOthers.setCell W2 ⟨w.heap.size+1,0,none⟩ (.int .i64 1)).trans (KeepsOthers.setCell _ ⟨w.heap.size+1,1,none⟩ (.int .u8 0))).trans (KeepsOthers.setCell _ ⟨w.heap.size+1,2,none⟩ (.int .i64 0))).trans (KeepsOthers.setCell _ ⟨w.heap.size+1,3,none⟩ (.int .i64 0))).trans (KeepsOthers.setCell _ ⟨w.heap.size+1,4,none⟩ (.bool false))).same D _ HK2.out rfl
          have hB1:=below_set (j:=4) (v:=.bool false) (below_set (j:=3) (v:=.int .i64 0) (below_set (j:=2) (v:=.int .i64 0) (below_set (j:=1) (v:=.int .u8 0) (below_set (g:=w.heap.size+1) (j:=0) (v:=.int .i64 1) HB2.out (by omega)) (g:=w.heap.size+1) (by omega)) (g:=w.heap.size+1) (by omega)) (g:=w.heap.size+1) (by omega)) (g:=w.heap.size+1) (by omega)
          have hrest:restL a0=(1,0,0,0,false):=if_neg (by rw [hb];simp;omega)
          refine ⟨by simp,.inl ⟨_,_,rfl,run_takeDeferred hK1,?_⟩⟩
          have hD':w.heap.size+2≤D:=by omega
          exact ⟨_,results_cell_row rfl _ _ (w.heap.size+1) 93 (entA (1,0,0,0,false)) (0,0) _ rfl ((World.putObj_heap_other (by omega)).trans hq1) Tryz.underlying93 rfl (by kernel_rfl),.inr ⟨HI.out.1,by rw [hrest],hB1.trans ((Below.refl _ _).grown (grownBy_putObj' _ D _) (by have:=blk_lt hq1;omega) (fun k e=>by cases e;omega))⟩⟩
        · skip
          have d0:decide (a0 < 32)=false:=decide_eq_false (by omega)
          have d1:decide (a0≥127)=true:=decide_eq_true (by omega)
          have d2:decide (a0≤159)=false:=decide_eq_false (by omega)
          have d3:decide (a0≥57344)=false:=decide_eq_false (by omega)
          gi_wp2
          refine ⟨trivial,?_⟩
          refine (callsIn_wide.2 (utf_Put.calls a0 _ _ rfl)).mono ?_
          rintro e W2 ⟨v,rfl,hv,hb2⟩
          obtain ⟨A3,c3,rfl⟩:=Kd.R_slice hv
          have HQ:=Aside0.mk (blk_below HI.out.2.2.1 hb2)
          have HK2:=Aside0.mk (blk_below HK.out hb2)
          have HB2:=Aside0.mk (below_step HI.out.2.2.2 hb2)
          have hlen:((((putP a0).length:Nat):Int) == 0)=true:=put_len_eq (by simpa using hb)
          clear hv hb2
          generalize (putP a0).length=n3 at hlen ⊢
          have hq:=HQ.out
          have g0:=(blk_cell hq 0).trans rfl
          have g1:=(blk_cell hq 1).trans rfl
          have g2:=(blk_cell hq 2).trans rfl
          have g3:=(blk_cell hq 3).trans rfl
          have g4:=(blk_cell hq 4).trans rfl
          have f0:=blk_frozen hq 0
          have f1:=blk_frozen hq 1
          have f2:=blk_frozen hq 2
          have f3:=blk_frozen hq 3
          have f4:=blk_frozen hq 4
          clear hq
          gi_wp2
          have hq1:(((((W2.setCell ⟨w.heap.size+1,0,none⟩ (.int .i64 0)).setCell ⟨w.heap.size+1,1,none⟩ (.int .u8 0)).setCell ⟨w.heap.size+1,2,none⟩ (.int .i64 0)).setCell ⟨w.heap.size+1,3,none⟩ (.int .i64 0)).setCell ⟨w.heap.size+1,4,none⟩ (.bool false)).heap[w.heap.size+1]?=some (.cells (entA (0,0,0,0,false)) 93 (0,0)):=blk_put (blk_put (blk_put (blk_put (blk_put HQ.out 0 _ rfl) 1 _ rfl) 2 _ rfl) 3 _ rfl) 4 _ rfl
          have hK1:=(((((KeepsOthers.setCell W2 ⟨w.heap.size+1,0,none⟩ (.int .i64 0)).trans (KeepsOthers.setCell _ ⟨w.heap.size+1,1,none⟩ (.int .u8 0))).trans (KeepsOthers.setCell _ ⟨w.heap.size+1,2,none⟩ (.int .i64 0))).trans (KeepsOthers.setCell _ ⟨w.heap.size+1,3,none⟩ (.int .i64 0))).trans (KeepsOthers.setCell _ ⟨w.heap.size+1,4,none⟩ (.bool false))).same D _ HK2.out rfl
          have hB1:=below_set (j:=4) (v:=.bool false) (below_set (j:=3) (v:=.int .i64 0) (below_set (j:=2) (v:=.int .i64 0) (below_set (j:=1) (v:=.int .u8 0) (below_set (g:=w.heap.size+1) (j:=0) (v:=.int .i64 0) HB2.out (by omega)) (g:=w.heap.size+1) (by omega)) (g:=w.heap.size+1) (by omega)) (g:=w.heap.size+1) (by omega)) (g:=w.heap.size+1) (by omega)
          have hrest:restL a0=(0,0,0,0,false):=if_pos (.inr (.inr (by simpa using hb)))
          refine ⟨by simp,.inl ⟨_,_,rfl,run_takeDeferred hK1,?_⟩⟩
          have hD':w.heap.size+2≤D:=by omega
          exact ⟨_,results_cell_row rfl _ _ (w.heap.size+1) 93 (entA (0,0,0,0,false)) (0,0) _ rfl ((World.putObj_heap_other (by omega)).trans hq1) Tryz.underlying93 rfl (by kernel_rfl),.inr ⟨HI.out.1,by rw [hrest],hB1.trans ((Below.refl _ _).grown (grownBy_putObj' _ D _) (by have:=blk_lt hq1;omega) (fun k e=>by cases e;omega))⟩⟩
    · skip
      by_cases hb:isB a0=true
      · skip
        have d0:decide (a0 < 32)=false:=decide_eq_false (by omega)
        have d1:decide (a0≥127)=false:=decide_eq_false (by omega)
        have d2:decide (a0≥57344)=false:=decide_eq_false (by omega)
        gi_wp2
        refine ⟨trivial,?_⟩
        refine (callsIn_wide.2 (utf_Put.calls a0 _ _ rfl)).mono ?_
        rintro e W2 ⟨v,rfl,hv,hb2⟩
        obtain ⟨A3,c3,rfl⟩:=Kd.R_slice hv
        have HQ:=Aside0.mk (blk_below HI.out.2.2.1 hb2)
        have HK2:=Aside0.mk (blk_below HK.out hb2)
        have HB2:=Aside0.mk (below_step HI.out.2.2.2 hb2)
        have hlen:((((putP a0).length:Nat):Int) == 0)=false:=put_len_ne hb
        clear hv hb2
        generalize (putP a0).length=n3 at hlen ⊢
        have hq:=HQ.out
        have g0:=(blk_cell hq 0).trans rfl
        have g1:=(blk_cell hq 1).trans rfl
        have g2:=(blk_cell hq 2).trans rfl
        have g3:=(blk_cell hq 3).trans rfl
        have g4:=(blk_cell hq 4).trans rfl
        have f0:=blk_frozen hq 0
        have f1:=blk_frozen hq 1
        have f2:=blk_frozen hq 2
        have f3:=blk_frozen hq 3
        have f4:=blk_frozen hq 4
        clear hq
        gi_wp2
        have hq1:(((((W2.setCell ⟨w.heap.size+1,0,none⟩ (.int .i64 1)).setCell ⟨w.heap.size+1,1,none⟩ (.int .u8 0)).setCell ⟨w.heap.size+1,2,none⟩ (.int .i64 0)).setCell ⟨w.heap.size+1,3,none⟩ (.int .i64 0)).setCell ⟨w.heap.size+1,4,none⟩ (.bool false)).heap[w.heap.size+1]?=some (.cells (entA (1,0,0,0,false)) 93 (0,0)):=blk_put (blk_put (blk_put (blk_put (blk_put HQ.out 0 _ rfl) 1 _ rfl) 2 _ rfl) 3 _ rfl) 4 _ rfl
        have hK1:=(((((KeepsOthers.setCell W2 ⟨w.heap.size+1,0,none⟩ (.int .i64 1)).trans (KeepsOthers.setCell _ ⟨w.heap.size+1,1,none⟩ (.int .u8 0))).trans (KeepsOthers.setCell _ ⟨w.heap.size+1,2,none⟩ (.int .i64 0))).trans (KeepsOthers.setCell _ ⟨w.heap.size+1,3,none⟩ (.int .i64 0))).trans (KeepsOthers.setCell _ ⟨w.heap.size+1,4,none⟩ (.bool false))).same D _ HK2.out rfl
        have hB1:=below_set (j:=4) (v:=.bool false) (below_set (j:=3) (v:=.int .i64 0) (below_set (j:=2) (v:=.int .i64 0) (below_set (j:=1) (v:=.int .u8 0) (below_set (g:=w.heap.size+1) (j:=0) (v:=.int .i64 1) HB2.out (by omega)) (g:=w.heap.size+1) (by omega)) (g:=w.heap.size+1) (by omega)) (g:=w.heap.size+1) (by omega)) (g:=w.heap.size+1) (by omega)
        have hrest:restL a0=(1,0,0,0,false):=if_neg (by rw [hb];simp;omega)
        refine ⟨by simp,.inl ⟨_,_,rfl,run_takeDeferred hK1,?_⟩⟩
        have hD':w.heap.size+2≤D:=by omega
        exact ⟨_,results_cell_row rfl _ _ (w.heap.size+1) 93 (entA (1,0,0,0,false)) (0,0) _ rfl ((World.putObj_heap_other (by omega)).trans hq1) Tryz.underlying93 rfl (by kernel_rfl),.inr ⟨HI.out.1,by rw [hrest],hB1.trans ((Below.refl _ _).grown (grownBy_putObj' _ D _) (by have:=blk_lt hq1;omega) (fun k e=>by cases e;omega))⟩⟩
      · skip
        have d0:decide (a0 < 32)=false:=decide_eq_false (by omega)
        have d1:decide (a0≥127)=false:=decide_eq_false (by omega)
        have d2:decide (a0≥57344)=false:=decide_eq_false (by omega)
        gi_wp2
        refine ⟨trivial,?_⟩
        refine (callsIn_wide.2 (utf_Put.calls a0 _ _ rfl)).mono ?_
        rintro e W2 ⟨v,rfl,hv,hb2⟩
        obtain ⟨A3,c3,rfl⟩:=Kd.R_slice hv
        have HQ:=Aside0.mk (blk_below HI.out.2.2.1 hb2)
        have HK2:=Aside0.mk (blk_below HK.out hb2)
        have HB2:=Aside0.mk (below_step HI.out.2.2.2 hb2)
        have hlen:((((putP a0).length:Nat):Int) == 0)=true:=put_len_eq (by simpa using hb)
        clear hv hb2
        generalize (putP a0).length=n3 at hlen ⊢
        have hq:=HQ.out
        have g0:=(blk_cell hq 0).trans rfl
        have g1:=(blk_cell hq 1).trans rfl
        have g2:=(blk_cell hq 2).trans rfl
        have g3:=(blk_cell hq 3).trans rfl
        have g4:=(blk_cell hq 4).trans rfl
        have f0:=blk_frozen hq 0
        have f1:=blk_frozen hq 1
        have f2:=blk_frozen hq 2
        have f3:=blk_frozen hq 3
        have f4:=blk_frozen hq 4
        clear hq
        gi_wp2
        have hq1:(((((W2.setCell ⟨w.heap.size+1,0,none⟩ (.int .i64 0)).setCell ⟨w.heap.size+1,1,none⟩ (.int .u8 0)).setCell ⟨w.heap.size+1,2,none⟩ (.int .i64 0)).setCell ⟨w.heap.size+1,3,none⟩ (.int .i64 0)).setCell ⟨w.heap.size+1,4,none⟩ (.bool false)).heap[w.heap.size+1]?=some (.cells (entA (0,0,0,0,false)) 93 (0,0)):=blk_put (blk_put (blk_put (blk_put (blk_put HQ.out 0 _ rfl) 1 _ rfl) 2 _ rfl) 3 _ rfl) 4 _ rfl
        have hK1:=(((((KeepsOthers.setCell W2 ⟨w.heap.size+1,0,none⟩ (.int .i64 0)).trans (KeepsOthers.setCell _ ⟨w.heap.size+1,1,none⟩ (.int .u8 0))).trans (KeepsOthers.setCell _ ⟨w.heap.size+1,2,none⟩ (.int .i64 0))).trans (KeepsOthers.setCell _ ⟨w.heap.size+1,3,none⟩ (.int .i64 0))).trans (KeepsOthers.setCell _ ⟨w.heap.size+1,4,none⟩ (.bool false))).same D _ HK2.out rfl
        have hB1:=below_set (j:=4) (v:=.bool false) (below_set (j:=3) (v:=.int .i64 0) (below_set (j:=2) (v:=.int .i64 0) (below_set (j:=1) (v:=.int .u8 0) (below_set (g:=w.heap.size+1) (j:=0) (v:=.int .i64 0) HB2.out (by omega)) (g:=w.heap.size+1) (by omega)) (g:=w.heap.size+1) (by omega)) (g:=w.heap.size+1) (by omega)) (g:=w.heap.size+1) (by omega)
        have hrest:restL a0=(0,0,0,0,false):=if_pos (.inr (.inr (by simpa using hb)))
        refine ⟨by simp,.inl ⟨_,_,rfl,run_takeDeferred hK1,?_⟩⟩
        have hD':w.heap.size+2≤D:=by omega
        exact ⟨_,results_cell_row rfl _ _ (w.heap.size+1) 93 (entA (0,0,0,0,false)) (0,0) _ rfl ((World.putObj_heap_other (by omega)).trans hq1) Tryz.underlying93 rfl (by kernel_rfl),.inr ⟨HI.out.1,by rw [hrest],hB1.trans ((Below.refl _ _).grown (grownBy_putObj' _ D _) (by have:=blk_lt hq1;omega) (fun k e=>by cases e;omega))⟩⟩
  case stop =>
    rintro D c pre W hD hpre ⟨rfl,⟨x,hx,hxc,hq⟩,hB⟩ hK
    gi_wp2
    refine ⟨by simp,.inl ⟨_,_,rfl,run_takeDeferred hK,?_⟩⟩
    have hD':w.heap.size+2≤D:=by omega
    exact ⟨_,results_cell_row rfl _ _ (w.heap.size+1) 93 (entA x.2) (0,0) _ rfl ((World.putObj_heap_other (by omega)).trans hq) Tryz.underlying93 rfl (by kernel_rfl),.inl ⟨x,hpre.subset hx,hxc,rfl,hB.trans ((Below.refl _ _).grown (grownBy_putObj' _ D _) (by have:=blk_lt hq;omega) (fun k e=>by cases e;omega))⟩⟩
theorem uniq:(ENTS 21).all (fun x=>(ENTS 21).find? (fun y=>y.1 == x.1) == some x)=true:=by decide +kernel
def lookE (a0:Int):LookT:=match (ENTS 21).find? (fun x=>x.1 == a0) with
  | some x=>x.2
  | none=>restL a0
theorem look_hit {x:EntT} (hx:x∈ENTS 21):lookE x.1=x.2:=by
  have:=List.all_eq_true.1 uniq x hx
  simp only [beq_iff_eq] at this
  unfold lookE
  rw [this]
theorem look_miss {a0:Int} (h:∀ x∈ENTS 21,x.1≠a0):lookE a0=restL a0:=by
  have:(ENTS 21).find? (fun x=>x.1 == a0)=none:=List.find?_eq_none.2 (fun x hx=>by simpa using h x hx)
  unfold lookE
  rw [this]
def keys_Look.f (a0:Int):Option (Int × Int × Int × Int × Bool):=some (lookE a0)
theorem keys_Look.calls (a0:Int) (r1:Int) (r2:Int) (r3:Int) (r4:Int) (r5:Bool) (w:World) (h:keys_Look.f a0=some (r1,r2,r3,r4,r5)) :
    Calls Tryz.prog 35 #[.int .i64 a0] w fun e w'=>e=.returned (.agg #[.int .i64 r1,.int .u8 r2,.int .i64 r3,.int .i64 r4,.bool r5])∧Below w.heap.size w w':=by
  have e:lookE a0=(r1,r2,r3,r4,r5):=Option.some.inj h
  refine (look_t a0 w).mono ?_
  rintro e' w' (⟨x,hx,rfl,rfl,hb⟩ | ⟨hn,rfl,hb⟩)
  · rw [look_hit hx] at e
    rw [e]
    exact ⟨rfl,hb⟩
  · rw [look_miss hn] at e
    rw [e]
    exact ⟨rfl,hb⟩
end Go.Proofs.YthjacokachgmfaaGreatDoor.H
end
