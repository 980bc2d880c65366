import Derived.Maps.OwnIn
import Derived.Test.YthjacokachgmfaaGreatDoorT04
import Derived.Test.YthjacokachgmfaaGreatDoorT05
import Derived.Test.YthjacokachgmfaaGreatDoorT20
import Derived.Test.YthjacokachgmfaaGreatDoorT32
set_option linter.unusedVariables false
set_option linter.unusedSimpArgs false
section
namespace Go.Proofs.YthjacokachgmfaaGreatDoor.H
open Go Go.RowKit
variable {F:Fence} {n:Nat} {P:Program} {α:Type}
theorem Stb.ownFrom {D b:Nat} {S:World→Prop} (h:Stb D b S):OwnFrom D (fun (_:List α) W=>S W):=fun _ W W' row x hw hr=>h.own W W' row x hw hr
theorem yield_atA {w:World} {n₀ b m:Nat} (hn:n₀≤w.heap.size) (hbw:b < w.heap.size) (r:Loop) (hready:r.state=.ready) (hnone:r.pending=none) (hfn:F.fn r.fn)
    {S T:World→Prop} (hS:Stb w.heap.size b S) (hT:Stb w.heap.size b T) {Ia:Act→World→Prop} (hIa:∀ a,Stb w.heap.size b (Ia a)) {args:Array Value} (hsz:args.size=r.params.size)
    (W:World) (hi:S W) (hb:Book w.heap.size r W)
    (hassign:∀ K:Act→World→Prop,(∀ a₁ W1,KeepsFrom w.heap.size W W1→Keeps n₀ b W W1→Ia a₁ W1→K a₁ W1)→r.assign.wpIn (F.inRound (w.heap.size+1)) m P (Exit.then K (fun _ _ _=>False)) { tmps:=(r.params.zip args).foldl (fun t (p,v)=>t.setIfInBounds p v) r.tmps,defers:=[] } W)
    (hbody:∀ a₁ W,Ia a₁ W→r.body.wpIn (F.inRound (w.heap.size+1)) m P (RoundOn w.heap.size n₀ b T W) a₁ W) :
    YieldAt F m P (w.heap.size+1) args W fun e W'=>(e=.returned (.bool true)∧(T W'∧Book w.heap.size r W')∧Keeps n₀ b W W')∨(e=.returned (.bool false)∧False):=by
  refine ⟨r.fn,_,r.assign,r.body,run_yield hb.1 hsz,roundIn_of_wpIn hfn (hassign _ fun a₁ W1 hk1 hl1 hi1=>?_)⟩
  have hb1:=hb.keep hk1
  refine ⟨_,run_beginRound hb1.1 hready,?_⟩
  have bb:Book w.heap.size { r with state:=.busy } (W1.putObj (w.heap.size+1) (.loop { r with state:=.busy })):=hb1.put
  have lb:=low_put hn hbw { r with state:=.busy } hb1.1
  refine wpIn_mono (hbody a₁ _ (OwnFrom.putObj (s:=([]:List Unit)) (hIa a₁).ownFrom _ hi1 (by omega) hb1.1 rfl)) ?_
  intro e a3 W3 hp
  match e,hp with
  | .normal,hp =>
    obtain ⟨hk,hbl,hi3⟩:=hp
    have b3:=bb.keep hk
    have er:({ r with state:=.ready,pending:=none }:Loop)=r:=by cases r;simp_all
    refine ⟨_,_,run_endRound none b3.1,.inl ⟨rfl,⟨OwnFrom.putObj (s:=([]:List Unit)) hT.ownFrom _ hi3 (by omega) b3.1 rfl,?_⟩,((hl1.trans lb).trans hbl).trans (low_put hn hbw _ b3.1)⟩⟩
    have:=b3.put (r':={ r with state:=.ready,pending:=none })
    rw [er] at this
    rw [← er] at this ⊢
    exact this
theorem range_nA {g:Operand} {ps:Array Tmp} {assign body:Code} {Q:Exit→Act→World→Prop} {a:Act} {w:World} {b n₀:Nat} (hbw:b < w.heap.size) (hn:n₀≤w.heap.size)
    (hro:F.round=none) (h1:1≤n) {gf:Nat} {lb:Array Value} (hg:a.eval g=.func (.func gf) #[] lb) (hFg:F.fn gf) (eg:∀ args w,(callFunc gf args).run P w=.ok (.enter gf args) w)
    {encs:α→Array Value} {all:List α} (hseq:∀ W,Below w.heap.size w W→SeqCell b n₀ F (n - 1) P gf lb encs all W) (hps:∀ x,(encs x).size=ps.size)
    (S:Nat→World→Prop) (hS:∀ k,Stb w.heap.size b (S k)) (h0:S 0 w) (Ia:Nat→α→Act→World→Prop) (hIa:∀ k x a,Stb w.heap.size b (Ia k x a))
    (hassign:∀ (l k:Nat) (x:α) (W:World) (K:Act→World→Prop),S k W→all[k]?=some x→(∀ a₁ W1,KeepsFrom w.heap.size W W1→Keeps n₀ b W W1→Ia k x a₁ W1→K a₁ W1) →
      assign.wpIn (F.inRound l) (n - 1 - 1) P (Exit.then K (fun _ _ _=>False)) { tmps:=(ps.zip (encs x)).foldl (fun t (p,v)=>t.setIfInBounds p v) a.tmps,defers:=[] } W)
    (hbody:∀ (l k:Nat) (x:α) (a₁:Act) (W:World),Ia k x a₁ W→all[k]?=some x→body.wpIn (F.inRound l) (n - 1 - 1) P (RoundOn w.heap.size n₀ b (S (k+1)) W) a₁ W)
    (hdone:∀ (D:Nat) (W:World),w.heap.size≤D→S all.length W→W.heap[D]?=some (.deferred (some []))→Q .normal { a with defers:={ target:=.collected D,args:=#[] } :: a.defers } W) :
    (Code.rangeFunc g ps assign body).wpIn F n P Q a w:=by
  refine wpIn_rangeFunc fun fn hfn=>?_
  rw [hro]
  generalize hr:({ state:=.ready,pending:=none,fn,tmps:=a.tmps,params:=ps,assign,body,defers:=w.heap.size }:Loop)=r
  generalize hW:(w.alloc (.deferred (some []))).alloc (.loop r)=W1
  have hI:OwnFrom w.heap.size (fun (pre:List α) W=>S pre.length W):=fun s W W' row x hw hr=>(hS s.length).own W W' row x hw hr
  have hIb:Bears b (fun (pre:List α) W=>S pre.length W):=fun s W v x=>(hS s.length).bears W v x
  have hB1:Book w.heap.size r W1:=hW ▸ Book.new w r
  have hI1:S ([]:List α).length W1:=hW ▸ hI.alloc (s:=[]) _ (hI.alloc (s:=[]) _ h0)
  have hlow:Below w.heap.size w W1:=hW ▸ (((Below.refl _ w).alloc (Nat.le_refl _) _).alloc (by simp) _)
  have hsz:w.heap.size≤W1.heap.size:=hlow.size
  have walkTo:∀ {A:World} {row:Option Nat},(∀ k,row=some k→W1.heap.size≤k∧∃ o:Obj,A.heap[k]?=some o∧o.isWalk=true)→(∀ k,row=some k→w.heap.size≤k∧∃ o:Obj,A.heap[k]?=some o∧o.isCells=false):=by
    intro A row h k e
    obtain ⟨hk,o,ho,hw⟩:=h k e
    exact ⟨Nat.le_trans hsz hk,o,ho,Obj.not_cells_of_walk hw⟩
  refine ⟨w.heap.size+1,[{ target:=.collected w.heap.size,args:=#[] }],W1,{ target:=.fn (.func gf) lb,args:=#[.func (.yield (w.heap.size+1)) #[] #[]] },W1,gf,#[.func (.yield (w.heap.size+1)) #[] #[]]++lb,W1,?_,?_,?_,?_,fun _=>h1,?_⟩
  · rw [← hW,← hr]
    exact run_enterLoop_outer _ _ _ _ _
  · simp only [resolve,hg]
    simp [go_sem]
  · intro f' hf'
    simp [Target.leads] at hf'
    exact hf' ▸ hFg
  · simp [invoke,go_sem,eg]
  have call:=hseq W1 hlow (w.heap.size+1) (fun pre W=>S pre.length W∧Book w.heap.size r W) (fun _ _=>False)
    (fun s A B row h hgr hrow=>⟨hI s A B row h.1 hgr (walkTo hrow),h.2.walk hgr (fun k e=>(hrow k e).2)⟩)
    (fun s A B row h hgr hrow=>h)
    (fun s W v h=>⟨hIb s W v h.1,h.2.cell hbw v⟩) (fun s W v h=>h)
    (fun pre x W h hpre=>by
      subst hr
      have hx:all[pre.length]?=some x:=by
        obtain ⟨t,ht⟩:=hpre
        rw [← ht]
        simp
      have hl:(pre++[x]).length=pre.length+1:=by simp
      have:=yield_atA hn hbw _ rfl rfl hfn (hS pre.length) (hS (pre.length+1)) (hIa pre.length x) (hps x) W h.1 h.2 (fun K hK=>hassign _ pre.length x W K h.1 hx hK) (fun a₁ W hi=>hbody _ pre.length x a₁ W hi hx)
      rw [← hl] at this
      exact this)
    ⟨hI1,hB1⟩
  refine call.mono ?_
  rintro e W2 ⟨⟨v,rfl⟩,⟨hi,hb⟩ | ⟨pre,hpre,hi⟩⟩
  · have hend:=run_endLoop (P:=P) hb.1 (by rw [← hr];simp)
    refine ⟨none,_,by rw [hend,← hr],?_⟩
    exact hdone _ _ (Nat.le_refl _) (hI.putObj (s:=all) _ hi (by omega) hb.1 rfl) ((World.putObj_heap_other (by omega)).trans hb.2)
  · exact hi.elim
end Go.Proofs.YthjacokachgmfaaGreatDoor.H
end
section
namespace Go.Proofs.YthjacokachgmfaaGreatDoor.H
open Go Go.RowKit YthjacokachgmfaaGreatDoorW.PrintWords YthjacokachgmfaaGreatDoorW.PrintLast YthjacokachgmfaaGreatDoorW.PrintMore
open Ev
set_option maxRecDepth 100000
attribute [local go_sem] Oper.semAt_some
section
variable {P:Program} {l n:Nat} {Q:Exit→Act→World→Prop} {ops:Array Oper} {rest:List Oper} {o:Oper} {a:Act} {W:World}
theorem gr_gate_dst {N:Tmp} (_hN:o.dst=some N) (h:wpListIn (Fence.wide.inRound l) n P ops Q (o :: rest) a W):wpListIn (Fence.wide.inRound l) n P ops Q (o :: rest) a W:=h
theorem gr_gate_store {t:TypeId} {p x:Operand} (_ho:o.op=.store t p x) (h:wpListIn (Fence.wide.inRound l) n P ops Q (o :: rest) a W):wpListIn (Fence.wide.inRound l) n P ops Q (o :: rest) a W:=h
theorem load_evR (hgd:o.guard=none) (T:TypeId) (x:Operand) (ho:o.op=.load T x) (g off:Nat) (hx:a.eval x=.pointer (some ⟨g,off,none⟩)) {cs:Array Value} {t:TypeId} (hb:W.heap[g]?=some (.cells cs t (0,0)))
    (seg:List Value) (hs:(cs.toList.drop off).take seg.length=seg) (d:TypeDesc) (hu:P.underlying T=some d) (hd:d.isRow=true) (hi:(P.info? T).map (·.size)=some seg.length)
    (h:wpListIn (Fence.wide.inRound l) n P ops Q rest (a.put o.dst (.agg seg.toArray)) W):wpListIn (Fence.wide.inRound l) n P ops Q (o :: rest) a W :=
  listIn_of_step hgd (by intro c hc;rw [ho] at hc;cases hc) fun Kc hKc=>by
    rw [if_pos (by simp [Region.wanted,hgd])]
    unfold Oper.wp
    rw [load_run T x ho g off hx hb seg hs d hu hd hi]
    exact hKc _ _ h
end
section
variable {W W':World} {base e size n g:Nat} {v:Value} {xs:List Value} {rw_:Option Nat}
theorem row_own_ne {c:Array Value} {t:TypeId} {fz:Nat × Nat} (h:W.ownsRow base e size v n xs) (hg:W.heap[g]?=some (.cells c t fz)) (hne:t≠e):v.ownBlock≠some g:=by
  rcases h.2 with ⟨rfl,_⟩ | ⟨g',cap,cur,rfl,_,hb,_⟩
  · simp [Value.ownBlock]
  · intro e1
    have e2:g'=g:=by simpa [Value.ownBlock] using e1
    subst e2
    rw [hb] at hg
    cases hg
    exact hne rfl
theorem row_far (h:W.ownsRow base e size v n xs) (hg:W.grownBy W' rw_) (hne:∀ g,v.ownBlock=some g→some g≠rw_):W'.ownsRow base e size v n xs:=by
  refine ⟨h.1,?_⟩
  rcases h.2 with hn | ⟨g',cap,cur,rfl,h1,hb,h2⟩
  · exact .inl hn
  · exact .inr ⟨g',cap,cur,rfl,h1,blk_grown hb hg (hne g' rfl),h2⟩
theorem row_below (h:W.ownsRow base e size v n xs) (hb:Below W.heap.size W W'):W'.ownsRow base e size v n xs:=row_far h (grown_of_below1 hb) (fun g _ e=>by cases e)
theorem row_set (h:W.ownsRow base e size v n xs) {i:Nat} {u:Value} (hne:v.ownBlock≠some g):(W.setCell ⟨g,i,none⟩ u).ownsRow base e size v n xs:=by
  refine ⟨h.1,?_⟩
  rcases h.2 with hn | ⟨g',cap,cur,rfl,h1,hb,h2⟩
  · exact .inl hn
  · exact .inr ⟨g',cap,cur,rfl,h1,blk_far (p:=⟨g,i,none⟩) hb (fun e=>hne (by show some g'=some g;rw [show g'=g from e])) u,h2⟩
theorem Stb.of_pure {D b:Nat} {p:Prop} {S:World→Prop} (h:p→Stb D b S):Stb D b (fun W=>p∧S W) :=
  ⟨fun W W' row x hg hr=>⟨x.1,(h x.1).own W W' row x.2 hg hr⟩,fun W v x=>⟨x.1,(h x.1).bears W v x.2⟩⟩
theorem Stb.row {D b:Nat} (base e size:Nat) (v:Value) (n:Nat) (xs:List Value) (hok:v.ownBlock≠some b):Stb D b (fun W=>W.ownsRow base e size v n xs) :=
  ⟨fun W W' row x hw hr=>row_far x hw (fun g hg e1=>by
    obtain ⟨_,o,ho,hc⟩:=hr g e1.symm
    rcases x.2 with ⟨rfl,_⟩ | ⟨g',cap,cur,rfl,_,hb,_⟩
    · cases hg
    · have e2:g'=g:=by simpa [Value.ownBlock] using hg
      subst e2
      rw [hb] at ho
      cases ho
      cases hc),fun W u x=>row_set x hok⟩
theorem keepsFrom_row {D:Nat} (h:W.ownsRow base e size v n xs) (hg:W.grownBy W' v.ownBlock):KeepsFrom D W W' :=
  ⟨hg.size,fun k o _ hk hc=>(hg.block k (blk_lt hk) (fun he=>by
    rcases h.2 with ⟨rfl,_⟩ | ⟨g',cap,cur,rfl,_,hb,_⟩
    · cases he
    · have e2:g'=k:=by simpa [Value.ownBlock] using he.symm
      subst e2
      rw [hb] at hk
      cases hk
      cases hc)).trans hk⟩
theorem keeps_row {n₀ b:Nat} (h:W.ownsRow base e size v n xs) (hg:W.grownBy W' v.ownBlock) (hok:v.ownBlock≠some b) (hn:n₀≤base) (hn2:n₀≤W.heap.size) (hb:b < W.heap.size):Keeps n₀ b W W' :=
  ⟨(Below.refl n₀ W).grown hg hn2 (fun k hk=>by
    rcases h.2 with ⟨rfl,_⟩ | ⟨g',cap,cur,rfl,h1,_⟩
    · cases hk
    · have e2:g'=k:=by simpa [Value.ownBlock] using hk
      omega),hg.block b hb (fun he=>hok he.symm)⟩
theorem cell_at {g:Nat} {cs:List Value} {t:TypeId} (h:W.heap[g]?=some (.cells cs.toArray t (0,0))):∀ j u,cs[j]?=some u→W.cell? ((⟨g,0,none⟩:Addr).add j)=some u:=by
  intro j u hj
  have h1:=blk_cell h j
  rw [show (⟨g,0,none⟩:Addr).add j=⟨g,j,none⟩ from by simp [Addr.add];try omega,h1]
  simpa using hj
end
theorem hact_ {F:Fence} {n:Nat} {P:Program} {c:Code} {Q:Exit→Act→World→Prop} {a1 a2:Act} {W:World} (h:a1=a2) (hw:c.wpIn F n P Q a2 W):c.wpIn F n P Q a1 W:=h ▸ hw
@[reducible] def IT (κ q a:Int) (s:ByteArray):Value:=.agg #[.int .i64 κ,.int .i64 q,.int .i64 0,.int .i64 a,.int .i64 0,.int .i64 0,.string ⟨#[]⟩,.int .i64 0,.int .i64 0,.int .i64 0,.int .i64 0,.int .i64 0,.bool false,.string s,.int .i64 0,.int .u8 0,.slice none 0 0,.string ⟨#[]⟩,.int .u8 0,.string ⟨#[]⟩]
@[reducible] def ITc (κ q a:Int) (s:ByteArray):List Value:=[.int .i64 κ,.int .i64 q,.int .i64 0,.int .i64 a,.int .i64 0,.int .i64 0,.string ⟨#[]⟩,.int .i64 0,.int .i64 0,.int .i64 0,.int .i64 0,.int .i64 0,.bool false,.string s,.int .i64 0,.int .u8 0,.slice none 0 0,.string ⟨#[]⟩,.int .u8 0,.string ⟨#[]⟩]
def cellsTo (sp:ByteArray) (k:Nat):List Value:=([ITc 1 97 1 ⟨#[]⟩,ITc 4 0 0 sp].take k).flatten
theorem at_item {sp:ByteArray} {k:Nat} {x:Value × Bool} (h:([(it0,true),(it1 sp,true)]:List (Value × Bool))[k]?=some x):∃ κ q a s,x=(IT κ q a s,true)∧cellsTo sp (k+1)=cellsTo sp k++ITc κ q a s∧k < 2:=by
  match k,h with
  | 0,h=>exact ⟨1,97,1,⟨#[]⟩,by simpa using h.symm,rfl,by decide⟩
  | 1,h=>exact ⟨4,0,0,sp,by simpa using h.symm,rfl,by decide⟩
  | k+2,h=>simp at h
theorem info58:(Tryz.prog.info? 58).map (fun i=>(i.zero,i.size,i.bytes))=some (some (.agg #[.int .i64 0,.int .i64 0,.int .i64 0,.int .i64 0,.int .i64 0,.int .i64 0,.string ⟨#[]⟩,.int .i64 0,.int .i64 0,.int .i64 0,.int .i64 0,.int .i64 0,.bool false,.string ⟨#[]⟩,.int .i64 0,.int .u8 0,.slice none 0 0,.string ⟨#[]⟩,.int .u8 0,.string ⟨#[]⟩]),20,208):=by kernel_rfl
theorem results_dall {tmps:Array Value} {W:World} {g0 g1:Nat} {v:Value} {b:Bool} (h2:tmps.getD 2 undef=.pointer (some ⟨g0,0,none⟩)) (h3:tmps.getD 3 undef=.pointer (some ⟨g1,0,none⟩)) (k0:W.cell? ⟨g0,0,none⟩=some v) (k1:W.cell? ⟨g1,0,none⟩=some (.bool b)) :
    (results Tryz.f15 tmps).run Tryz.prog W=.ok (.tuple #[v,.bool b]) W:=by
  have hres:Tryz.f15.results=#[.cell 2 54,.cell 3 4]:=rfl
  have u30:=Tryz.underlying54
  have u4:=Tryz.underlying4
  have h2':tmps[2]?.getD undef=.pointer (some ⟨g0,0,none⟩):=by simpa using h2
  have h3':tmps[3]?.getD undef=.pointer (some ⟨g1,0,none⟩):=by simpa using h3
  simp only [results,hres]
  simp [go_sem,Sem.run_bind,Result.andThen,h2',h3',k0,k1,u30,u4]
def AllS (w:World) (N g2 g3 g4 gq:Nat) (sp:ByteArray) (k:Nat) (W:World):Prop :=
  ∃ v:Value,v.ownBlock≠some gq∧(W.heap[g4]?=some (.cells #[v] 54 (0,0))∧W.heap[g2]?=some (.cells #[.slice none 0 0] 54 (0,0))∧W.heap[g3]?=some (.cells #[.bool false] 4 (0,0))∧W.ownsRow w.heap.size 58 20 v k (cellsTo sp k)∧Below w.heap.size w W∧N≤W.heap.size)
theorem AllS_stb (w:World) (D N b g2 g3 g4:Nat) (sp:ByteArray) (k:Nat) (hD:w.heap.size≤D) (hb:w.heap.size≤b) (h2:g2≠b) (h3:g3≠b) (h4:g4≠b):Stb D b (AllS w N g2 g3 g4 b sp k) :=
  Stb.ex fun v=>Stb.of_pure fun hv=>(Stb.blk g4 _ _ h4).and ((Stb.blk g2 _ _ h2).and ((Stb.blk g3 _ _ h3).and ((Stb.row _ _ _ v k _ hv).and ((Stb.below w hD hb).and (Stb.size1 N)))))
def AllA (w:World) (N g2 g3 g4 gq:Nat) (F:Nat→Int→Int→Int→ByteArray→Act) (sp:ByteArray) (k:Nat) (x:Value × Bool) (a₁:Act) (W:World):Prop :=
  ∃ κ q a s g5,(x=(IT κ q a s,true)∧a₁=F g5 κ q a s∧N≤g5)∧(W.heap[g5]?=some (.cells (ITc κ q a s).toArray 58 (0,0))∧AllS w N g2 g3 g4 gq sp k W)
theorem AllA_stb (w:World) (D N b g2 g3 g4:Nat) (F:Nat→Int→Int→Int→ByteArray→Act) (sp:ByteArray) (k:Nat) (x:Value × Bool) (a₁:Act) (hD:w.heap.size≤D) (hb:w.heap.size≤b) (h2:g2≠b) (h3:g3≠b) (h4:g4≠b) (hN:b < N):Stb D b (AllA w N g2 g3 g4 b F sp k x a₁) :=
  Stb.ex fun κ=>Stb.ex fun q=>Stb.ex fun a=>Stb.ex fun s=>Stb.ex fun g5=>Stb.of_pure fun hp=>(Stb.blk g5 _ _ (by have:=hp.2.2;omega)).and (AllS_stb w D N b g2 g3 g4 sp k hD hb h2 h3 h4)
set_option maxHeartbeats 8000000 in
theorem all_calls (w:World) (A0 A1 A2:Option Addr) (c0 c1 c2:Nat) (sp:ByteArray) (ho0:∀ W,Below w.heap.size w W→Calls Tryz.prog 83 #[.slice A0 23 c0] W fun e w'=>e=.returned (.tuple #[it0,.int .i64 5,.bool true])∧Below W.heap.size W w') (ho1:∀ W,Below w.heap.size w W→Calls Tryz.prog 83 #[.slice A1 18 c1] W fun e w'=>e=.returned (.tuple #[it1 sp,.int .i64 18,.bool true])∧Below W.heap.size W w')
    (hc0:∀ W:World,(Instr.slice 22 (.slice A0 23 c0) (some (.int .i64 5)) none none).run Tryz.prog W=.ok (.slice A1 18 c1) W) (hc1:∀ W:World,(Instr.slice 22 (.slice A1 18 c1) (some (.int .i64 18)) none none).run Tryz.prog W=.ok (.slice A2 0 c2) W) :
    Calls Tryz.prog 15 #[.slice A0 23 c0] w fun e w'=>∃ v,e=.returned (.tuple #[v,.bool true])∧w'.ownsRow w.heap.size 58 20 v 2 (cellsTo sp 2)∧Below w.heap.size w w':=by
  have HO0:=Aside0.mk ho0
  have HO1:=Aside0.mk ho1
  have HC0:=Aside0.mk hc0
  have HC1:=Aside0.mk hc1
  have HB:=Aside0.mk (Below.refl w.heap.size w)
  clear ho0 ho1 hc0 hc1
  refine (callsIn_wide (n:=6)).1 ?_
  refine callsIn_of_wp_marks Tryz.func15 rfl trivial ?_ rfl
  simp only [Tryz.ntmps15,List.size_toArray,List.length_cons,List.length_nil,Nat.reduceAdd,Nat.reduceSub,Array.replicate_succ,Array.replicate_zero,List.push_toArray,List.append_toArray,List.nil_append,List.cons_append]
  refine wpIn_wide.2 ?_
  go_wp2_with (first|(refine bx 2 #[.slice none 0 0] 54 (h:=?_);intro g2 hg w1 hbox hb;have HBo:=HB;replace HB:=bh HB hb;have B2:=Aside0.mk hbox;have q2_0:=cells1 B2.out;have G2:=gG HBo hg;clear hbox hb hg HBo)|(refine bx 3 #[.bool false] 4 (h:=?_);intro g3 hg w2 hbox hb;have HBo:=HB;replace B2:=kb B2 hb;clear q2_0;have q2_0:=cells1 B2.out;replace HB:=bh HB hb;have B3:=Aside0.mk hbox;have q3_0:=cells1 B3.out;have G3:=gG HBo hg;clear hbox hb hg HBo)|(refine bx 4 #[.slice none 0 0] 54 (h:=?_);intro g4 hg w3 hbox hb;have HBo:=HB;have L2_:=blk_lt B2.out;replace B2:=kb B2 hb;clear q2_0;have q2_0:=cells1 B2.out;replace B3:=kb B3 hb;clear q3_0;have q3_0:=cells1 B3.out;replace HB:=bh HB hb;have B4:=Aside0.mk hbox;have q4_0:=cells1 B4.out;have G4:=gG HBo hg;have NE4_2:=Aside0.mk (show g4≠g2 by omega);have NE2_4:=Aside0.mk (Ne.symm NE4_2.out);clear L2_;clear hbox hb hg HBo)|(go_at_call 45;refine (items_calls A0 23 c0 _).mono ?_;rintro e w4 ⟨gq,rfl,kq,nq,hb⟩;have B2o:=B2;have B3o:=B3;have B4o:=B4;have HBp:=HB;replace B2:=kb B2 hb;clear q2_0;have q2_0:=cells1 B2.out;replace B3:=kb B3 hb;clear q3_0;have q3_0:=cells1 B3.out;replace B4:=kb B4 hb;clear q4_0;have q4_0:=cells1 B4.out;replace HB:=bh HB hb;clear hb;have KQ:=Aside0.mk kq;have NQ:=Aside0.mk nq;have NQ3:=Aside0.mk (Nat.lt_of_lt_of_le (blk_lt B3o.out) nq);have NQ4:=Aside0.mk (Nat.lt_of_lt_of_le (blk_lt B4o.out) nq);have NQ2:=Aside0.mk (Nat.lt_of_lt_of_le (blk_lt B2o.out) nq);have NQ0:=Aside0.mk (Nat.le_trans HBp.out.size nq);clear kq nq))
  have hltq:=blk_lt KQ.out
  have HBw4:=Aside0.mk HB.out.size
  have NE2:g2≠gq:=Nat.ne_of_lt NQ2.out
  have NE3:g3≠gq:=Nat.ne_of_lt NQ3.out
  have NE4:g4≠gq:=Nat.ne_of_lt NQ4.out
  have HN4:=Aside0.mk NE4_2.out
  refine (wpIn_wide (n:=6)).1 ?_
  refine range_nA (F:=Fence.wide) (n:=6) (w:=w4) (b:=gq) (n₀:=w.heap.size) hltq HB.out.size rfl (by decide) (gf:=82) (lb:=#[.pointer (some ⟨gq,0,none⟩)]) rfl trivial (enters_of Tryz.func82 (by kernel_rfl) rfl) (encs:=encV) (all:=[(it0,true),(it1 sp,true)])
    (fun W hW=>items_seq w 5 (by decide) gq A0 A1 A2 c0 c1 c2 sp HO0.out HO1.out HC0.out HC1.out NQ0.out W (below_step HB.out hW) (blk_below KQ.out hW)) (fun _=>rfl)
    (AllS w w4.heap.size g2 g3 g4 gq sp) (fun k=>AllS_stb w _ _ _ _ _ _ sp k HB.out.size NQ0.out NE2 NE3 NE4) ⟨.slice none 0 0,by simp [Value.ownBlock],B4.out,B2.out,B3.out,World.ownsRow_nil _ _ _ _,HB.out,Nat.le_refl _⟩
    (AllA w w4.heap.size g2 g3 g4 gq (fun g5 κ q a s=>{ tmps:=#[.slice A0 23 c0,undef,.pointer (some ⟨g2,0,none⟩),.pointer (some ⟨g3,0,none⟩),.pointer (some ⟨g4,0,none⟩),.pointer (some ⟨g5,0,none⟩),.bool true,.slice A0 23 c0,.func (.func 82) #[] #[.pointer (some ⟨gq,0,none⟩)],IT κ q a s,.bool true,undef,undef,undef,undef,undef,undef,undef],defers:=[] }) sp) (fun k x a₁=>AllA_stb w _ _ _ _ _ _ _ sp k x a₁ HB.out.size NQ0.out NE2 NE3 NE4 hltq) ?assign ?body ?done
  case assign =>
    intro l k x W K hS hx hK
    have HS:=Aside0.mk hS
    have HK:=Aside0.mk hK
    obtain ⟨v_,_,_,_,_,_,hB_,hsz_⟩:=hS
    have HSZ:=Aside0.mk hsz_
    have HBW:=Aside0.mk hB_
    obtain ⟨κ,q,a,s,rfl,_,_⟩:=at_item hx
    clear hK hB_ hsz_ B2 B3 B4 q2_0 q3_0 q4_0 HB hx
    have HB:=Aside0.mk (Below.refl W.heap.size W)
    refine hact_ ?_ ?_ (a2:={ tmps:=#[.slice A0 23 c0,undef,.pointer (some ⟨g2,0,none⟩),.pointer (some ⟨g3,0,none⟩),.pointer (some ⟨g4,0,none⟩),undef,undef,.slice A0 23 c0,.func (.func 82) #[] #[.pointer (some ⟨gq,0,none⟩)],IT κ q a s,.bool true,undef,undef,undef,undef,undef,undef,undef],defers:=[] })
    · simp [encV]
    gi_wp2_with (first|((with_reducible refine gr_gate_dst (N:=5) rfl ?_);refine listIn_of_step rfl (by intro c h;cases h) fun Kc hKc=>?_;refine box_step 5 (by rfl) (by rfl) (cs:=#[.int .i64 0,.int .i64 0,.int .i64 0,.int .i64 0,.int .i64 0,.int .i64 0,.string ⟨#[]⟩,.int .i64 0,.int .i64 0,.int .i64 0,.int .i64 0,.int .i64 0,.bool false,.string ⟨#[]⟩,.int .i64 0,.int .u8 0,.slice none 0 0,.string ⟨#[]⟩,.int .u8 0,.string ⟨#[]⟩]) (t:=58) (by first|(go_simp;done)|(go_simp;rfl)) ?_;intro g5 hg Wa hbox hb;have HBo:=HB;replace HB:=bh HB hb;have B5:=Aside0.mk hbox;have q5:=cells20 B5.out;have G5:=gG HBo hg;clear hbox hb hg HBo;refine hKc _ _ ?_;clear hKc Kc)|((with_reducible refine gr_gate_store (t:=58) rfl ?_);refine listIn_of_step rfl (by intro c h;cases h) fun Kc hKc=>?_;refine store_step (by rfl) (by rfl) 58 _ _ (by rfl) g5 0 58 _ B5.out (by rfl) _ (by rfl) [.int .i64 κ,.int .i64 q,.int .i64 0,.int .i64 a,.int .i64 0,.int .i64 0,.string ⟨#[]⟩,.int .i64 0,.int .i64 0,.int .i64 0,.int .i64 0,.int .i64 0,.bool false,.string s,.int .i64 0,.int .u8 0,.slice none 0 0,.string ⟨#[]⟩,.int .u8 0,.string ⟨#[]⟩] rfl (by kernel_rfl) (by show 0+20≤20;decide) (by simp [Value.oneCell']) #[.int .i64 κ,.int .i64 q,.int .i64 0,.int .i64 a,.int .i64 0,.int .i64 0,.string ⟨#[]⟩,.int .i64 0,.int .i64 0,.int .i64 0,.int .i64 0,.int .i64 0,.bool false,.string s,.int .i64 0,.int .u8 0,.slice none 0 0,.string ⟨#[]⟩,.int .u8 0,.string ⟨#[]⟩] rfl ?_;intro Wb hS hg;replace HB:=gb HB hg G5;clear B5 q5 hg;have B5:=Aside0.mk hS;clear hS;have q5:=cells20 B5.out;refine hKc _ _ ?_;clear hKc Kc))
    refine HK.out _ _ (keepsFrom_below HB.out) (keeps_below HB.out HBW.out.size (Nat.lt_of_lt_of_le hltq HSZ.out)) ⟨κ,q,a,s,g5,⟨rfl,rfl,Nat.le_trans HSZ.out G5.out⟩,B5.out,?_⟩
    exact (AllS_stb w _ _ _ _ _ _ sp k HBw4.out NQ0.out NE2 NE3 NE4).own W _ none HS.out (grown_of_below1 HB.out) (fun _ e=>by cases e)
  case body =>
    intro l k x a₁ W hA hx
    obtain ⟨κ,q,a,s,g5,⟨rfl,rfl,h5⟩,hb5,v,hv,hb4,hb2,hb3,hrow,hBw,hsz⟩:=hA
    obtain ⟨κ',q',a',s',hx2,hcells,hk2⟩:=at_item hx
    have hcl:cellsTo sp (k+1)=cellsTo sp k++ITc κ q a s:=by
      rw [hcells]
      have e1:IT κ q a s=IT κ' q' a' s':=congrArg Prod.fst hx2
      have e2:ITc κ q a s=ITc κ' q' a' s':=by injection e1 with e1;injection e1
      rw [e2]
    obtain ⟨i58,hi58,hz58,hs58,hb58⟩:=info_parts info58
    have HCL:=Aside0.mk hcl
    have HK2:=Aside0.mk hk2
    have HR:=Aside0.mk hrow
    have HV:=Aside0.mk hv
    have HBw:=Aside0.mk hBw
    have HSZ:=Aside0.mk hsz
    clear B2 B3 B4 q2_0 q3_0 q4_0 HB hx hx2 hcells hcl hk2 hrow hv hBw hsz
    have B2w:=Aside0.mk hb2
    have B3w:=Aside0.mk hb3
    have B4:=Aside0.mk hb4
    have B5:=Aside0.mk (show W.heap[g5]?=some (.cells #[.int .i64 κ,.int .i64 q,.int .i64 0,.int .i64 a,.int .i64 0,.int .i64 0,.string ⟨#[]⟩,.int .i64 0,.int .i64 0,.int .i64 0,.int .i64 0,.int .i64 0,.bool false,.string s,.int .i64 0,.int .u8 0,.slice none 0 0,.string ⟨#[]⟩,.int .u8 0,.string ⟨#[]⟩] 58 (0,0)) from hb5)
    have L4:=Aside0.mk (blk_lt hb4)
    clear hb2 hb3 hb4 hb5
    have q4_0:=cells1 B4.out
    have q5:=cells20 B5.out
    have HB:=Aside0.mk (Below.refl W.heap.size W)
    gi_wp2_with (first|((with_reducible refine gr_gate_dst (N:=14) rfl ?_);refine load_evR rfl 58 _ rfl g5 0 rfl B5.out [.int .i64 κ,.int .i64 q,.int .i64 0,.int .i64 a,.int .i64 0,.int .i64 0,.string ⟨#[]⟩,.int .i64 0,.int .i64 0,.int .i64 0,.int .i64 0,.int .i64 0,.bool false,.string s,.int .i64 0,.int .u8 0,.slice none 0 0,.string ⟨#[]⟩,.int .u8 0,.string ⟨#[]⟩] rfl _ Tryz.underlying58 rfl (by kernel_rfl) ?_)|((with_reducible refine gr_gate_dst (N:=15) rfl ?_);refine listIn_of_step rfl (by intro c h;cases h) fun Kc hKc=>?_;refine slice_step (n:=1) 15 (by rfl) (by rfl) (cs:=#[.int .i64 κ,.int .i64 q,.int .i64 0,.int .i64 a,.int .i64 0,.int .i64 0,.string ⟨#[]⟩,.int .i64 0,.int .i64 0,.int .i64 0,.int .i64 0,.int .i64 0,.bool false,.string s,.int .i64 0,.int .u8 0,.slice none 0 0,.string ⟨#[]⟩,.int .u8 0,.string ⟨#[]⟩]) (t:=58) (by first|(go_simp;done)|(go_simp;rfl)) ?_;intro gs hg Wa hbox hb;have HBo:=HB;have L5_:=blk_lt B5.out;replace B5:=kb B5 hb;clear q5;have q5:=cells20 B5.out;replace B4:=kb B4 hb;clear q4_0;have q4_0:=cells1 B4.out;replace HB:=bh HB hb;have Bs:=Aside0.mk hbox;have qs:=cells20 Bs.out;have Gs:=gG HBo hg;have NEs_5:=Aside0.mk (show gs≠g5 by omega);have NE5_s:=Aside0.mk (Ne.symm NEs_5.out);clear L5_;clear hbox hb hg HBo;refine hKc _ _ ?_;clear hKc Kc)|(gi_at_builtin;refine wpListIn_append_own_at _ rfl _ _ 54 rfl w.heap.size 58 i58 _ 20 208 Tryz.underlying54 hi58 hz58 hs58 hb58 rfl (by decide) v k (cellsTo sp k) rfl (row_below HR.out HB.out) ⟨gs,0,none⟩ 1 1 [.int .i64 κ,.int .i64 q,.int .i64 0,.int .i64 a,.int .i64 0,.int .i64 0,.string ⟨#[]⟩,.int .i64 0,.int .i64 0,.int .i64 0,.int .i64 0,.int .i64 0,.bool false,.string s,.int .i64 0,.int .u8 0,.slice none 0 0,.string ⟨#[]⟩,.int .u8 0,.string ⟨#[]⟩] rfl rfl (cell_at Bs.out) (by simp [Value.oneCell']) (by have:=HK2.out;unfold maxLen;omega) (by have:=HK2.out;omega) (Nat.le_trans HBw.out.size HB.out.size) ?_;intro v1 w3 hown hg _ hnb;have HOWN:=Aside0.mk hown;have HG:=Aside0.mk hg;have HNB:=Aside0.mk hnb;have B43:=Aside0.mk (blk_grown B4.out hg (Ne.symm (row_own_ne (row_below HR.out HB.out) B4.out (by decide))));clear hown hg hnb q4_0;have q4_0:=cells1 B43.out;have f4:=blk_frozen B43.out 0;have hlt4:=blk_lt B43.out;obtain ⟨gv,cv,rfl⟩:=ownsRow_succ HOWN.out))
    have hgW:gq < W.heap.size:=Nat.lt_of_lt_of_le hltq HSZ.out
    have hrc:=row_below HR.out HB.out
    have hBc:=below_step HBw.out HB.out
    have hN4:(Value.slice (some ⟨gv,0,none⟩) (k+1) cv).ownBlock≠some g4:=row_own_ne HOWN.out B43.out (by decide)
    have b23:=blk_grown (blk_below B2w.out HB.out) HG.out (Ne.symm (row_own_ne hrc (blk_below B2w.out HB.out) (by decide)))
    have b33:=blk_grown (blk_below B3w.out HB.out) HG.out (Ne.symm (row_own_ne hrc (blk_below B3w.out HB.out) (by decide)))
    have hB3:Below w.heap.size w w3:=hBc.grown HG.out hBc.size (fun k hk=>by
      rcases hrc.2 with ⟨rfl,_⟩ | ⟨g',cap,cur,rfl,h1,_⟩
      · cases hk
      · have e2:g'=k:=by simpa [Value.ownBlock] using hk
        omega)
    have h4w:w.heap.size≤g4:=G4.out
    have hv1:(Value.slice (some ⟨gv,0,none⟩) (k+1) cv).ownBlock≠some gq:=by
      rcases HNB.out with e1 | e1
      · rw [e1];exact HV.out
      · rw [e1]
        intro e2
        have e3:_=gq:=Option.some.inj e2
        have:=HB.out.size
        omega
    refine ⟨((keepsFrom_below HB.out).trans (keepsFrom_row hrc HG.out)).trans ((KeepsOthers.setCell _ _ _).from _),keeps_set ((keeps_below HB.out HBw.out.size hgW).trans (keeps_row hrc HG.out HV.out (Nat.le_refl _) hBc.size (Nat.lt_of_lt_of_le hgW HB.out.size))) h4w (Ne.symm NE4),?_⟩
    refine ⟨.slice (some ⟨gv,0,none⟩) (k+1) cv,hv1,blk_put B43.out 0 _ rfl,blk_far (p:=⟨g4,0,none⟩) b23 (Ne.symm HN4.out) _,blk_far (p:=⟨g4,0,none⟩) b33 (blk_ne b33 B43.out (by decide)) _,?_,below_set hB3 h4w,?_⟩
    · rw [HCL.out]
      exact row_set HOWN.out hN4
    · have h1:=HSZ.out
      have h2:=HB.out.size
      have h3:=HG.out.size
      simp [World.setCell]
      omega
  case done =>
    intro D W hD hS hDW
    obtain ⟨v,hv,hb4,hb2,hb3,hrow,hBw,hsz⟩:=hS
    obtain ⟨gv,cv,rfl⟩:=ownsRow_succ (k:=1) hrow
    have HDW:=Aside0.mk hDW
    have HR:=Aside0.mk (show W.ownsRow w.heap.size 58 20 (.slice (some ⟨gv,0,none⟩) 2 cv) 2 (cellsTo sp 2) from hrow)
    clear B2 B3 B4 q2_0 q3_0 q4_0 HB hrow hDW hv
    have B2:=Aside0.mk hb2
    have B3:=Aside0.mk hb3
    have B4:=Aside0.mk hb4
    have HB:=Aside0.mk hBw
    clear hb2 hb3 hb4 hBw
    have q2_0:=cells1 B2.out
    have q3_0:=cells1 B3.out
    have q4_0:=cells1 B4.out
    go_wp2_with (first|((with_reducible refine gate_store (t:=54) rfl ?_);refine sx 54 0 B2 (h:=?_);intro Wa hS hg;replace B3:=gnx B3 hg B2;clear q3_0;have q3_0:=cells1 B3.out;replace B4:=gk B4 hg NE4_2.out;clear q4_0;have q4_0:=cells1 B4.out;replace HB:=gb HB hg G2;replace HDW:=Aside0.mk (blk_grown HDW.out hg (fun e=>by injection e with e;have h1:=B2.out;rw [← e,HDW.out] at h1;cases h1));replace HR:=Aside0.mk (row_far HR.out hg (fun g h e=>row_own_ne HR.out B2.out (by decide) (h.trans e)));clear B2 q2_0 hg;have B2:=hS;clear hS;have q2_0:=cells1 B2.out)|((with_reducible refine gate_store (t:=4) rfl ?_);refine sx 4 0 B3 (h:=?_);intro Wb hS hg;replace B2:=gnx B2 hg B3;clear q2_0;have q2_0:=cells1 B2.out;replace B4:=gnx B4 hg B3;clear q4_0;have q4_0:=cells1 B4.out;replace HB:=gb HB hg G3;replace HDW:=Aside0.mk (blk_grown HDW.out hg (fun e=>by injection e with e;have h1:=B3.out;rw [← e,HDW.out] at h1;cases h1));replace HR:=Aside0.mk (row_far HR.out hg (fun g h e=>row_own_ne HR.out B3.out (by decide) (h.trans e)));clear B3 q3_0 hg;have B3:=hS;clear hS;have q3_0:=cells1 B3.out))
    have hrd:=row_far HR.out (grownBy_putObj' _ D (.deferred none)) (fun g hg e1=>by
      have e2:g=D:=by injection e1
      subst e2
      rcases HR.out.2 with ⟨h0,_⟩ | ⟨g',cap,cur,h0,_,hb,_⟩
      · cases h0
      · have e3:g'=g:=by
          rw [h0] at hg
          simpa [Value.ownBlock] using hg
        subst e3
        rw [HDW.out] at hb
        cases hb)
    refine ⟨by simp,.inl ⟨_,_,rfl,run_takeDeferred HDW.out,?_⟩⟩
    exact ⟨_,results_dall rfl rfl ((blk_cell (blk_putD B2.out HDW.out) 0).trans rfl) ((blk_cell (blk_putD B3.out HDW.out) 0).trans rfl),_,rfl,hrd,below_putD HB.out (Nat.le_trans HBw4.out hD)⟩
end Go.Proofs.YthjacokachgmfaaGreatDoor.H
end
