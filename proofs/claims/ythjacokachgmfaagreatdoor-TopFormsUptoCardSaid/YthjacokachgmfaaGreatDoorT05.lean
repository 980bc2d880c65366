import Derived.Test.YthjacokachgmfaaGreatDoorProg
import Derived.RangeFuncNested
import Derived.RangeFuncBound
import Derived.RangeFuncCalls
import Derived.RangeFuncLeaves
import Derived.Below
import Derived.Shelf.Strings.Builder1
import Derived.Shelf.Strings.Builder2
import Derived.Shelf.Strings.OnBuilder
import Derived.Shelf.Small.Utf8
import Derived.Shelf.Small.Bits
import Derived.Shelf.Small.Strs
import Derived.Shelf.Small.Wraps
import Derived.Shelf.Strings.BuilderF
import Derived.Shelf.Strings.BuilderK
import Derived.Shelf.Strings.Builder2Cap
import Derived.Shelf.Strconv.Itoa0
import Derived.Shelf.Strconv.Itoa1
import Derived.Shelf.LaysM
import Derived.Shelf.Strconv.Itoa2
import Derived.Shelf.Strconv.Itoa3
import Derived.Shelf.Strings.Search1
import Derived.Shelf.Strings.Search2
import Derived.Shelf.Strings.Search3
import Derived.Shelf.Strings.Shaped
import Derived.Shelf.GgClosure.StringsIndexFunc
import Derived.Ground.GgwProg
import Derived.Shelf.GgClosure.StringsIndexFuncTop
import Derived.Shelf.GgClosure.StringsRunes
import Derived.Shelf.Unicode.Decode
import Derived.Shelf.Strings.Runes
import Derived.Shelf.Unicode.DecodeSlow
import Derived.Shelf.Unicode.DecodeAny
import Derived.Shelf.Strings.FuncGrows
import Derived.Shelf.Strings.BuilderCap
import Derived.Shelf.Slices.Turned
import Derived.Shelf.Slices.Equal
import Derived.Ground.Names2Prog
import Derived.Shelf.Slices.Clone
import Derived.Shelf.Slices.Empties2
import Derived.Shelf.Bytes.SlSearch0
import Derived.Ground.SlgfProg
import Derived.Shelf.SlicesE.IndexFunc
import Derived.Shelf.Bytes.SlSmallAll
import Derived.Shelf.Bytes.SlEqualAll
import Derived.Shelf.Bytes.Small
import Derived.Shelf.Abstract
import Derived.Shelf.RegionOpen
import Derived.WalkKit
import Derived.OwnWalkIn
import Derived.TacticsInMore
import Derived.LoopNIn
import Derived.LoopIn
import Derived.RangeFuncBox
import Derived.Test.YthjacokachgmfaaGreatDoorT04
set_option linter.unusedVariables false
set_option linter.unusedSimpArgs false
section
namespace Go.Proofs.YthjacokachgmfaaGreatDoor.H
open Go Go.RowKit
variable {F:Fence} {n:Nat} {P:Program} {α:Type}
def Bears (b:Nat) (J:List α→World→Prop):Prop:=∀ s W v,J s W→J s (W.setCell ⟨b,0,none⟩ v)
def Book (D:Nat) (r:Loop) (W:World):Prop:=W.heap[D+1]?=some (.loop r)∧W.heap[D]?=some (.deferred (some []))
theorem Book.lt {D:Nat} {r:Loop} {W:World} (h:Book D r W):D+1 < W.heap.size:=(Array.getElem?_eq_some_iff.1 h.1).1
theorem Book.cell {D b:Nat} {r:Loop} {W:World} (h:Book D r W) (hb:b < D) (v:Value):Book D r (W.setCell ⟨b,0,none⟩ v) :=
  have far:∀ k,D≤k→(W.setCell ⟨b,0,none⟩ v).heap[k]?=W.heap[k]?:=fun k hk=>Below.heap_setCell W ⟨b,0,none⟩ v k (fun e=>by have:k=b:=e;omega)
  ⟨(far _ (by omega)).trans h.1,(far _ (Nat.le_refl _)).trans h.2⟩
theorem Book.walk {D:Nat} {r:Loop} {W W':World} {row:Option Nat} (h:Book D r W) (hg:W.grownBy W' row) (hr:∀ k,row=some k→∃ o:Obj,W.heap[k]?=some o∧o.isWalk=true):Book D r W' :=
  ⟨(grownBy_keeps hg hr h.1 rfl).trans h.1,(grownBy_keeps hg hr h.2 rfl).trans h.2⟩
theorem Book.put {D:Nat} {r r':Loop} {W:World} (h:Book D r W):Book D r' (W.putObj (D+1) (.loop r')) :=
  ⟨World.putObj_heap_same h.lt,(World.putObj_heap_other (by omega)).trans h.2⟩
theorem Book.keep {D:Nat} {r:Loop} {W W':World} (h:Book D r W) (hk:KeepsFrom D W W'):Book D r W':=⟨hk.same _ _ (by omega) h.1 rfl,hk.same _ _ (Nat.le_refl _) h.2 rfl⟩
theorem Book.new (w:World) (r:Loop):Book w.heap.size r ((w.alloc (.deferred (some []))).alloc (.loop r)):=by
  constructor
  · have:=World.alloc_heap_new (w.alloc (.deferred (some []))) (.loop r)
    rwa [World.size_alloc] at this
  · exact (Below.heap_alloc _ _ _ (by simp)).trans (World.alloc_heap_new w _)
structure Keeps (n₀ b:Nat) (W W':World):Prop where
  low:Below n₀ W W'
  cell:W'.heap[b]?=W.heap[b]?
theorem Keeps.trans {n₀ b:Nat} {X Y Z:World} (h:Keeps n₀ b X Y) (k:Keeps n₀ b Y Z):Keeps n₀ b X Z:=⟨h.low.trans k.low,k.cell.trans h.cell⟩
def RoundEnd (D n₀ b:Nat) (I Ix:List α→World→Prop) (xs:List α) (W:World):Exit→Act→World→Prop
  | .normal,_,W'=>KeepsFrom D W W'∧Keeps n₀ b W W'∧I xs W'
  | .ret,_,W'=>KeepsFrom D W W'∧Ix xs W'
  | _,_,_=>False
def SeqCell (b n₀:Nat) (F:Fence) (n:Nat) (P:Program) (gf:Nat) (lb:Array Value) (encs:α→Array Value) (all:List α) (W:World):Prop :=
  ∀ (l:Nat) (J Jx:List α→World→Prop),AbidesFrom W.heap.size J→AbidesFrom W.heap.size Jx→Bears b J→Bears b Jx →
    (∀ pre x W1,J pre W1→(pre++[x]) <+: all→YieldAt F (n - 1) P l (encs x) W1 fun e W' =>
      (e=.returned (.bool true)∧J (pre++[x]) W'∧Keeps n₀ b W1 W')∨(e=.returned (.bool false)∧Jx (pre++[x]) W')) →
    J [] W →
    CallsIn F n P gf (#[.func (.yield l) #[] #[]]++lb) W fun e W'=>(∃ v,e=.returned v)∧(J all W'∨∃ pre,pre <+: all∧Jx pre W')
theorem low_put {w W:World} {n₀ b:Nat} (hn:n₀≤w.heap.size) (hb:b < w.heap.size) {r:Loop} (r':Loop) (h:W.heap[w.heap.size+1]?=some (.loop r)):Keeps n₀ b W (W.putObj (w.heap.size+1) (.loop r')) :=
  ⟨belowK_b hn W _ _ _ (by omega) h rfl rfl,World.putObj_heap_other (by omega)⟩
theorem yield_at {w:World} {n₀ b m:Nat} (hn:n₀≤w.heap.size) (hbw:b < w.heap.size) (r:Loop) (hready:r.state=.ready) (hnone:r.pending=none) (hfn:F.fn r.fn)
    {I Ix:List α→World→Prop} (hI:OwnFrom w.heap.size I) (hIx:OwnFrom w.heap.size Ix) {args:Array Value} (hsz:args.size=r.params.size)
    (pre xs:List α) (W:World) (hi:I pre W) (hb:Book w.heap.size r W) (a₁:Act)
    (hassign:∀ K:Act→World→Prop,K a₁ W→r.assign.wpIn (F.inRound (w.heap.size+1)) m P (Exit.then K (fun _ _ _=>False)) { tmps:=(r.params.zip args).foldl (fun t (p,v)=>t.setIfInBounds p v) r.tmps,defers:=[] } W)
    (hbody:∀ W,I pre W→r.body.wpIn (F.inRound (w.heap.size+1)) m P (RoundEnd w.heap.size n₀ b I Ix xs W) a₁ W) :
    YieldAt F m P (w.heap.size+1) args W fun e W'=>(e=.returned (.bool true)∧(I xs W'∧Book w.heap.size r W')∧Keeps n₀ b W W')∨(e=.returned (.bool false)∧Ix xs W'∧Book w.heap.size { r with state:=.done,pending:=some .ret } W'):=by
  refine ⟨r.fn,_,r.assign,r.body,run_yield hb.1 hsz,roundIn_of_wpIn hfn (hassign _ ⟨_,run_beginRound hb.1 hready,?_⟩)⟩
  have bb:Book w.heap.size { r with state:=.busy } (W.putObj (w.heap.size+1) (.loop { r with state:=.busy })):=hb.put
  have lb:=low_put hn hbw { r with state:=.busy } hb.1
  refine wpIn_mono (hbody _ (hI.putObj _ hi (by omega) hb.1 rfl)) ?_
  intro e a3 W3 hp
  match e,hp with
  | .normal,hp =>
    obtain ⟨hk,hbl,hi3⟩:=hp
    have b3:=bb.keep hk
    have er:({ r with state:=.ready,pending:=none }:Loop)=r:=by cases r;simp_all
    refine ⟨_,_,run_endRound none b3.1,.inl ⟨rfl,⟨hI.putObj _ hi3 (by omega) b3.1 rfl,?_⟩,(lb.trans hbl).trans (low_put hn hbw _ b3.1)⟩⟩
    have:=b3.put (r':={ r with state:=.ready,pending:=none })
    rw [er] at this
    rw [← er] at this ⊢
    exact this
  | .ret,hp =>
    obtain ⟨hk,hi3⟩:=hp
    have b3:=bb.keep hk
    exact ⟨_,_,run_endRound (some .ret) b3.1,.inr ⟨rfl,hIx.putObj _ hi3 (by omega) b3.1 rfl,b3.put⟩⟩
theorem range_cell {g:Operand} {ps:Array Tmp} {assign body:Code} {Q:Exit→Act→World→Prop} {a:Act} {w:World} {b n₀:Nat} (hbw:b < w.heap.size) (hn:n₀≤w.heap.size)
    (hro:F.round=none) (h1:1≤n) {gf:Nat} {lb:Array Value} (hg:a.eval g=.func (.func gf) #[] lb) (hFg:F.fn gf) (eg:∀ args w,(callFunc gf args).run P w=.ok (.enter gf args) w)
    {encs:α→Array Value} {all:List α} (hseq:∀ W,Below w.heap.size w W→SeqCell b n₀ F (n - 1) P gf lb encs all W) (hps:∀ x,(encs x).size=ps.size)
    (I Ix:List α→World→Prop) (hI:OwnFrom w.heap.size I) (hIx:OwnFrom w.heap.size Ix) (hIb:Bears b I) (hIxb:Bears b Ix) (h0:I [] w) (a₁:α→Act)
    (hassign:∀ (l:Nat) (x:α) (W:World) (K:Act→World→Prop),K (a₁ x) W →
      assign.wpIn (F.inRound l) (n - 1 - 1) P (Exit.then K (fun _ _ _=>False)) { tmps:=(ps.zip (encs x)).foldl (fun t (p,v)=>t.setIfInBounds p v) a.tmps,defers:=[] } W)
    (hbody:∀ (l:Nat) (pre:List α) (x:α) (W:World),I pre W→(pre++[x]) <+: all→body.wpIn (F.inRound l) (n - 1 - 1) P (RoundEnd w.heap.size n₀ b I Ix (pre++[x]) W) (a₁ x) W)
    (hdone:∀ (D:Nat) (W:World),w.heap.size≤D→I all W→W.heap[D]?=some (.deferred (some []))→Q .normal { a with defers:={ target:=.collected D,args:=#[] } :: a.defers } W)
    (hstop:∀ (D:Nat) (pre:List α) (W:World),w.heap.size≤D→pre <+: all→Ix pre W→W.heap[D]?=some (.deferred (some []))→Code.ret.wpIn F n P Q { a with defers:={ target:=.collected D,args:=#[] } :: a.defers } W) :
    (Code.rangeFunc g ps assign body).wpIn F n P Q a w:=by
  refine wpIn_rangeFunc fun fn hfn=>?_
  rw [hro]
  generalize hr:({ state:=.ready,pending:=none,fn,tmps:=a.tmps,params:=ps,assign,body,defers:=w.heap.size }:Loop)=r
  generalize hW:(w.alloc (.deferred (some []))).alloc (.loop r)=W1
  have hB1:Book w.heap.size r W1:=hW ▸ Book.new w r
  have hI1:I [] W1:=hW ▸ hI.alloc _ (hI.alloc _ h0)
  have hlow:Below w.heap.size w W1:=hW ▸ (((Below.refl _ w).alloc (Nat.le_refl _) _).alloc (by simp) _)
  have hsz:w.heap.size≤W1.heap.size:=hlow.size
  have walkTo:∀ {A:World} {row:Option Nat},(∀ k,row=some k→W1.heap.size≤k∧∃ o:Obj,A.heap[k]?=some o∧o.isWalk=true)→(∀ k,row=some k→w.heap.size≤k∧∃ o:Obj,A.heap[k]?=some o∧o.isCells=false):=by
    intro A row h k e
    obtain ⟨hk,o,ho,hw⟩:=h k e
    exact ⟨Nat.le_trans hsz hk,o,ho,Obj.not_cells_of_walk hw⟩
  refine ⟨w.heap.size+1,[{ target:=.collected w.heap.size,args:=#[] }],W1,{ target:=.fn (.func gf) lb,args:=#[.func (.yield (w.heap.size+1)) #[] #[]] },W1,gf,#[.func (.yield (w.heap.size+1)) #[] #[]]++lb,W1,?_,?_,?_,?_,fun _=>h1,?_⟩
  · rw [← hW,← hr]
    exact run_enterLoop_outer _ _ _ _ _
  · simp only [resolve,hg]
    simp [go_sem]
  · intro f' hf'
    simp [Target.leads] at hf'
    exact hf' ▸ hFg
  · simp [invoke,go_sem,eg]
  have call:=hseq W1 hlow (w.heap.size+1) (fun pre W=>I pre W∧Book w.heap.size r W) (fun pre W=>Ix pre W∧Book w.heap.size { r with state:=.done,pending:=some .ret } W)
    (fun s A B row h hgr hrow=>⟨hI s A B row h.1 hgr (walkTo hrow),h.2.walk hgr (fun k e=>(hrow k e).2)⟩)
    (fun s A B row h hgr hrow=>⟨hIx s A B row h.1 hgr (walkTo hrow),h.2.walk hgr (fun k e=>(hrow k e).2)⟩)
    (fun s W v h=>⟨hIb s W v h.1,h.2.cell hbw v⟩) (fun s W v h=>⟨hIxb s W v h.1,h.2.cell hbw v⟩)
    (fun pre x W h hpre=>by
      subst hr
      exact yield_at hn hbw _ rfl rfl hfn hI hIx (hps x) pre (pre++[x]) W h.1 h.2 (a₁ x) (hassign _ x W) (fun W hi=>hbody _ pre x W hi hpre))
    ⟨hI1,hB1⟩
  refine call.mono ?_
  rintro e W2 ⟨⟨v,rfl⟩,⟨hi,hb⟩ | ⟨pre,hpre,hi,hb⟩⟩
  · have hend:=run_endLoop (P:=P) hb.1 (by rw [← hr];simp)
    refine ⟨none,_,by rw [hend,← hr],?_⟩
    exact hdone _ _ (Nat.le_refl _) (hI.putObj _ hi (by omega) hb.1 rfl) ((World.putObj_heap_other (by omega)).trans hb.2)
  · have hend:=run_endLoop (P:=P) hb.1 (by simp)
    exact ⟨some .ret,_,hend,hstop _ pre _ (Nat.le_refl _) hpre (hIx.putObj _ hi (by omega) hb.1 rfl) ((World.putObj_heap_other (by omega)).trans hb.2)⟩
end Go.Proofs.YthjacokachgmfaaGreatDoor.H
end
section
namespace Go.Proofs
open Go.Shelf
def Tryz.lays156_ren:Go.Shelf.Ren:=⟨fun | 156=>115 | 165=>176 | 166=>177 | 169=>178 | 240=>234 | 241=>235 | 276=>271 | 277=>272 | n=>n,fun | 31=>28 | 9=>9 | 3=>3 | 4=>4 | 0=>0 | 20=>20 | 72=>225 | 76=>229 | 70=>223 | 37=>22 | 75=>228 | 127=>282 | 164=>313 | 5=>5 | 80=>231 | n=>n,fun | n=>n⟩
theorem Tryz.lays156:Go.Proofs.Lays.n156 Tryz.prog Tryz.lays156_ren:={
  mixed:=by kernel_rfl
  f156:=Tryz.func115.trans (congrArg some (by kernel_rfl))
  f165:=Tryz.func176.trans (congrArg some (by kernel_rfl))
  f166:=Tryz.func177.trans (congrArg some (by kernel_rfl))
  f169:=Tryz.func178.trans (congrArg some (by kernel_rfl))
  f240:=Tryz.func234.trans (congrArg some (by kernel_rfl))
  f241:=Tryz.func235.trans (congrArg some (by kernel_rfl))
  f276:=Tryz.func271.trans (congrArg some (by kernel_rfl))
  f277:=Tryz.func272.trans (congrArg some (by kernel_rfl))
  t0:=Tryz.underlying0
  a0:=Tryz.isAgg0
  z0:=Tryz.sizeOf0
  v0:=Tryz.zeroValue0
  t3:=Tryz.underlying3
  a3:=Tryz.isAgg3
  z3:=Tryz.sizeOf3
  v3:=Tryz.zeroValue3
  t4:=Tryz.underlying4
  a4:=Tryz.isAgg4
  z4:=Tryz.sizeOf4
  v4:=Tryz.zeroValue4
  t9:=Tryz.underlying9
  a9:=Tryz.isAgg9
  z9:=Tryz.sizeOf9
  v9:=Tryz.zeroValue9
  t20:=Tryz.underlying20
  a20:=Tryz.isAgg20
  z20:=Tryz.sizeOf20
  v20:=Tryz.zeroValue20
  t31:=Tryz.underlying28
  a31:=Tryz.isAgg28
  z31:=Tryz.sizeOf28
  v31:=Tryz.zeroValue28
  t37:=Tryz.underlying22
  a37:=Tryz.isAgg22
  z37:=Tryz.sizeOf22
  v37:=Tryz.zeroValue22
  t70:=Tryz.underlying223
  a70:=Tryz.isAgg223
  z70:=Tryz.sizeOf223
  v70:=Tryz.zeroValue223
  t72:=Tryz.underlying225
  a72:=Tryz.isAgg225
  z72:=Tryz.sizeOf225
  v72:=Tryz.zeroValue225
  t75:=Tryz.underlying228
  a75:=Tryz.isAgg228
  z75:=Tryz.sizeOf228
  v75:=Tryz.zeroValue228
  t76:=Tryz.underlying229
  a76:=Tryz.isAgg229
  z76:=Tryz.sizeOf229
  v76:=Tryz.zeroValue229
  t127:=Tryz.underlying282
  a127:=Tryz.isAgg282
  z127:=Tryz.sizeOf282
  v127:=Tryz.zeroValue282
  t164:=Tryz.underlying313
  a164:=Tryz.isAgg313
  z164:=Tryz.sizeOf313
  v164:=Tryz.zeroValue313 }
theorem Tryz.Builder_Extra_156:Builder.Extra Tryz.prog Tryz.lays156_ren:={
  sizeBuilder:=by kernel_rfl
  liesBuilder:=by kernel_rfl
  t5:=Tryz.underlying5
  a5:=Tryz.isAgg5
  z5:=Tryz.sizeOf5
  v5:=Tryz.zeroValue5
  infoByte:=by kernel_rfl
  cellsByte:=by kernel_rfl
  sizeByte:=by kernel_rfl
  neB5:=by decide }
open Go.RowKit in
theorem Tryz.strings_Join_none (a:Option Addr) (c:Nat) (sep:ByteArray) (w:World) :
    Calls Tryz.prog 115 #[.slice a 0 c,.string sep] w fun e w'=>e=.returned (.string ⟨#[]⟩)∧w'=w:=Any.strings_Join_none Tryz.lays156 Tryz.Builder_Extra_156 a c sep w
open Go.RowKit in
theorem Tryz.strings_Join (bk o c:Nat) (xs:List ByteArray) (sep:ByteArray) (w:World) (hcells:∀ (j:Nat) x,xs[j]?=some x→w.cell? ⟨bk,o+j,none⟩=some (.string x)) (hbk:bk < w.heap.size) (hN:xs.length≤140737488355328) (hcap:xs.length≤c) (hlen:(Lib.join (xs.map (·.data.toList)) sep.data.toList).length≤140737488355328) :
    Calls Tryz.prog 115 #[.slice (some ⟨bk,o,none⟩) xs.length c,.string sep] w fun e w'=>e=.returned (.string ⟨(Lib.join (xs.map (·.data.toList)) sep.data.toList).toArray⟩)∧Below w.heap.size w w':=Any.strings_Join Tryz.lays156 Tryz.Builder_Extra_156 bk o c xs sep w hcells hbk hN hcap hlen
def Tryz.laysM246_ren:Go.Shelf.Ren:=⟨fun | 246=>280 | 283=>285 | 284=>286 | 285=>287 | 286=>288 | 129=>293 | 317=>292 | 318=>294 | 319=>295 | 320=>296 | 337=>300 | 338=>301 | n=>n,fun | 2=>2 | 3=>3 | 9=>9 | 4=>4 | 171=>331 | 0=>0 | 53=>332 | 37=>22 | 5=>5 | 173=>335 | 212=>339 | 51=>328 | 20=>20 | 213=>340 | 46=>190 | 232=>352 | 233=>353 | n=>n,fun | 17=>3 | 18=>4 | 19=>5 | n=>n⟩
def Tryz.laysM243_ren:Go.Shelf.Ren:=⟨fun | 243=>273 | 246=>280 | 283=>285 | 284=>286 | 285=>287 | 286=>288 | 129=>293 | 317=>292 | 318=>294 | 319=>295 | 320=>296 | 337=>300 | 338=>301 | n=>n,fun | 3=>3 | 9=>9 | 2=>2 | 4=>4 | 171=>331 | 0=>0 | 53=>332 | 37=>22 | 5=>5 | 173=>335 | 212=>339 | 51=>328 | 20=>20 | 213=>340 | 46=>190 | 232=>352 | 233=>353 | n=>n,fun | 17=>3 | 18=>4 | 19=>5 | n=>n⟩
def Tryz.laysM171_ren:Go.Shelf.Ren:=⟨fun | 171=>236 | 243=>273 | 246=>280 | 283=>285 | 284=>286 | 285=>287 | 286=>288 | 129=>293 | 317=>292 | 318=>294 | 319=>295 | 320=>296 | 337=>300 | 338=>301 | n=>n,fun | 3=>3 | 9=>9 | 2=>2 | 4=>4 | 171=>331 | 0=>0 | 53=>332 | 37=>22 | 5=>5 | 173=>335 | 212=>339 | 51=>328 | 20=>20 | 213=>340 | 46=>190 | 232=>352 | 233=>353 | n=>n,fun | 17=>3 | 18=>4 | 19=>5 | n=>n⟩
theorem Tryz.laysM171:Go.Proofs.LaysM.n171 Tryz.prog Tryz.laysM171_ren:={
  mixed:=by kernel_rfl
  f129:=Tryz.func293.trans (congrArg some (by kernel_rfl))
  f171:=Tryz.func236.trans (congrArg some (by kernel_rfl))
  f243:=Tryz.func273.trans (congrArg some (by kernel_rfl))
  f246:=Tryz.func280.trans (congrArg some (by kernel_rfl))
  f283:=Tryz.func285.trans (congrArg some (by kernel_rfl))
  f284:=Tryz.func286.trans (congrArg some (by kernel_rfl))
  f285:=Tryz.func287.trans (congrArg some (by kernel_rfl))
  f286:=Tryz.func288.trans (congrArg some (by kernel_rfl))
  f317:=Tryz.func292.trans (congrArg some (by kernel_rfl))
  f318:=Tryz.func294.trans (congrArg some (by kernel_rfl))
  f319:=Tryz.func295.trans (congrArg some (by kernel_rfl))
  f320:=Tryz.func296.trans (congrArg some (by kernel_rfl))
  f337:=Tryz.func300.trans (congrArg some (by kernel_rfl))
  f338:=Tryz.func301.trans (congrArg some (by kernel_rfl))
  t0:=Tryz.underlying0
  a0:=Tryz.isAgg0
  z0:=Tryz.sizeOf0
  v0:=Tryz.zeroValue0
  t2:=Tryz.underlying2
  a2:=Tryz.isAgg2
  z2:=Tryz.sizeOf2
  v2:=Tryz.zeroValue2
  t3:=Tryz.underlying3
  a3:=Tryz.isAgg3
  z3:=Tryz.sizeOf3
  v3:=Tryz.zeroValue3
  t4:=Tryz.underlying4
  a4:=Tryz.isAgg4
  z4:=Tryz.sizeOf4
  v4:=Tryz.zeroValue4
  t5:=Tryz.underlying5
  a5:=Tryz.isAgg5
  z5:=Tryz.sizeOf5
  v5:=Tryz.zeroValue5
  t9:=Tryz.underlying9
  a9:=Tryz.isAgg9
  z9:=Tryz.sizeOf9
  v9:=Tryz.zeroValue9
  t20:=Tryz.underlying20
  a20:=Tryz.isAgg20
  z20:=Tryz.sizeOf20
  v20:=Tryz.zeroValue20
  t37:=Tryz.underlying22
  a37:=Tryz.isAgg22
  z37:=Tryz.sizeOf22
  v37:=Tryz.zeroValue22
  t46:=Tryz.underlying190
  a46:=Tryz.isAgg190
  z46:=Tryz.sizeOf190
  v46:=Tryz.zeroValue190
  t51:=Tryz.underlying328
  a51:=Tryz.isAgg328
  z51:=Tryz.sizeOf328
  v51:=Tryz.zeroValue328
  t53:=Tryz.underlying332
  a53:=Tryz.isAgg332
  z53:=Tryz.sizeOf332
  v53:=Tryz.zeroValue332
  t171:=Tryz.underlying331
  a171:=Tryz.isAgg331
  z171:=Tryz.sizeOf331
  v171:=Tryz.zeroValue331
  t173:=Tryz.underlying335
  a173:=Tryz.isAgg335
  z173:=Tryz.sizeOf335
  v173:=Tryz.zeroValue335
  t212:=Tryz.underlying339
  a212:=Tryz.isAgg339
  z212:=Tryz.sizeOf339
  v212:=Tryz.zeroValue339
  t213:=Tryz.underlying340
  a213:=Tryz.isAgg340
  z213:=Tryz.sizeOf340
  t232:=Tryz.underlying352
  a232:=Tryz.isAgg352
  z232:=Tryz.sizeOf352
  v232:=Tryz.zeroValue352
  t233:=Tryz.underlying353
  a233:=Tryz.isAgg353
  z233:=Tryz.sizeOf353
  v233:=Tryz.zeroValue353
  g17:=by kernel_rfl
  g18:=by kernel_rfl
  g19:=by kernel_rfl
  i0:=by kernel_rfl
  i2:=by kernel_rfl
  i3:=by kernel_rfl
  i4:=by kernel_rfl
  i5:=by kernel_rfl
  i9:=by kernel_rfl
  i20:=by kernel_rfl
  i37:=by kernel_rfl
  i46:=by kernel_rfl
  i51:=by kernel_rfl
  i53:=by kernel_rfl
  i171:=by kernel_rfl
  i173:=by kernel_rfl
  i212:=by kernel_rfl
  i232:=by kernel_rfl
  i233:=by kernel_rfl
  m17:=by kernel_rfl
  m18:=by kernel_rfl
  m19:=by kernel_rfl }
open Go.RowKit Go.Sort Go.Lib in
theorem Tryz.strconv_Itoa (n : Int) (h0 : -9223372036854775808 ≤ n) (h1 : n ≤ 9223372036854775807) (w : World) (htab : Lib.TabIs Tryz.prog w "internal/strconv.uint64pow10" .u64 Lib.pow10Tab) :
    Calls Tryz.prog 236 #[.int .i64 n] w fun e w'=>e=.returned (.string ⟨(Lib.itoa n).toArray⟩)∧∃ k os,w'=grow (w.drewN k) os:=Any.strconv_Itoa Tryz.laysM171 n h0 h1 w htab
def Tryz.lays219_ren:Go.Shelf.Ren:=⟨fun | 219=>265 | 217=>278 | 225=>270 | 224=>269 | 267=>279 | 266=>283 | 314=>284 | n=>n,fun | 9=>9 | 3=>3 | 4=>4 | 5=>5 | 46=>190 | 146=>329 | 51=>328 | n=>n,fun | 1=>2 | n=>n⟩
def Tryz.lays143_ren:Go.Shelf.Ren:=⟨fun | 143=>229 | 219=>265 | 217=>278 | 225=>270 | 224=>269 | 267=>279 | 266=>283 | 314=>284 | n=>n,fun | 9=>9 | 3=>3 | 4=>4 | 5=>5 | 46=>190 | 146=>329 | 51=>328 | n=>n,fun | 1=>2 | n=>n⟩
theorem Tryz.lays143:Go.Proofs.Lays.n143 Tryz.prog Tryz.lays143_ren:={
  mixed:=by kernel_rfl
  f143:=Tryz.func229.trans (congrArg some (by kernel_rfl))
  f217:=Tryz.func278.trans (congrArg some (by kernel_rfl))
  f219:=Tryz.func265.trans (congrArg some (by kernel_rfl))
  f224:=Tryz.func269.trans (congrArg some (by kernel_rfl))
  f225:=Tryz.func270.trans (congrArg some (by kernel_rfl))
  f266:=Tryz.func283.trans (congrArg some (by kernel_rfl))
  f267:=Tryz.func279.trans (congrArg some (by kernel_rfl))
  f314:=Tryz.func284.trans (congrArg some (by kernel_rfl))
  t3:=Tryz.underlying3
  a3:=Tryz.isAgg3
  z3:=Tryz.sizeOf3
  v3:=Tryz.zeroValue3
  t4:=Tryz.underlying4
  a4:=Tryz.isAgg4
  z4:=Tryz.sizeOf4
  v4:=Tryz.zeroValue4
  t5:=Tryz.underlying5
  a5:=Tryz.isAgg5
  z5:=Tryz.sizeOf5
  v5:=Tryz.zeroValue5
  t9:=Tryz.underlying9
  a9:=Tryz.isAgg9
  z9:=Tryz.sizeOf9
  v9:=Tryz.zeroValue9
  t46:=Tryz.underlying190
  a46:=Tryz.isAgg190
  z46:=Tryz.sizeOf190
  v46:=Tryz.zeroValue190
  t51:=Tryz.underlying328
  a51:=Tryz.isAgg328
  z51:=Tryz.sizeOf328
  v51:=Tryz.zeroValue328
  t146:=Tryz.underlying329
  a146:=Tryz.isAgg329
  z146:=Tryz.sizeOf329
  v146:=Tryz.zeroValue329
  g1:=by kernel_rfl }
open Go.RowKit Go.Lib in
theorem Tryz.strings_Index_one (s:ByteArray) (c:UInt8) (w:World) :
    Calls Tryz.prog 229 #[.string s,.string ⟨#[c]⟩] w fun e w'=>e=.returned (.int .i64 (Lib.indexByte s.data.toList c))∧w'=w:=Any.strings_Index_one Tryz.lays143 s c w
def Tryz.laysGw17_ren:Go.Shelf.Ren:=⟨fun | 17=>170 | 15=>231 | 20=>266 | n=>n,fun | 9=>9 | 23=>219 | 4=>4 | 3=>3 | 0=>0 | 21=>21 | n=>n,fun | n=>n⟩
theorem Tryz.laysGw17:Go.Proofs.LaysGw.n17 Tryz.prog Tryz.laysGw17_ren:={
  mixed:=by kernel_rfl
  f15:=Tryz.func231.trans (congrArg some (by kernel_rfl))
  f17:=Tryz.func170.trans (congrArg some (by kernel_rfl))
  f20:=Tryz.func266.trans (congrArg some (by kernel_rfl))
  t0:=Tryz.underlying0
  a0:=Tryz.isAgg0
  z0:=Tryz.sizeOf0
  v0:=Tryz.zeroValue0
  i0:=by kernel_rfl
  t3:=Tryz.underlying3
  a3:=Tryz.isAgg3
  z3:=Tryz.sizeOf3
  v3:=Tryz.zeroValue3
  i3:=by kernel_rfl
  t4:=Tryz.underlying4
  a4:=Tryz.isAgg4
  z4:=Tryz.sizeOf4
  v4:=Tryz.zeroValue4
  i4:=by kernel_rfl
  t9:=Tryz.underlying9
  a9:=Tryz.isAgg9
  z9:=Tryz.sizeOf9
  v9:=Tryz.zeroValue9
  i9:=by kernel_rfl
  t21:=Tryz.underlying21
  a21:=Tryz.isAgg21
  z21:=Tryz.sizeOf21
  v21:=Tryz.zeroValue21
  i21:=by kernel_rfl
  t23:=Tryz.underlying219
  a23:=Tryz.isAgg219
  z23:=Tryz.sizeOf219
  v23:=Tryz.zeroValue219
  i23:=by kernel_rfl }
open Go.RowKit Go.Lib in
theorem Tryz.strings_ContainsFunc_runes (g:Nat) (lb:Array Value) (eg:∀ args w,(callFunc g args).run Tryz.prog w=.ok (.enter g args) w) (p:Nat→Bool) (s:ByteArray) (w:World) (hp:PredAtRunes Tryz.prog g lb p w) :
    Calls Tryz.prog 170 #[.string s,.func (.func g) #[] lb] w fun e w'=>e=.returned (.bool (decide (0≤Lib.idxFunc p true s)))∧Below w.heap.size w w':=Any.strings_ContainsFunc_runes Tryz.laysGw17 g lb eg p s w hp
def Tryz.lays151_ren:Go.Shelf.Ren:=⟨fun | 151=>175 | 152=>233 | 137=>267 | 119=>268 | 224=>269 | 225=>270 | 217=>278 | 266=>283 | n=>n,fun | 9=>9 | 21=>21 | 4=>4 | 3=>3 | 5=>5 | 0=>0 | 46=>190 | n=>n,fun | n=>n⟩
theorem Tryz.lays151:Go.Proofs.Lays.n151 Tryz.prog Tryz.lays151_ren:={
  mixed:=by kernel_rfl
  f119:=Tryz.func268.trans (congrArg some (by kernel_rfl))
  f137:=Tryz.func267.trans (congrArg some (by kernel_rfl))
  f151:=Tryz.func175.trans (congrArg some (by kernel_rfl))
  f152:=Tryz.func233.trans (congrArg some (by kernel_rfl))
  f217:=Tryz.func278.trans (congrArg some (by kernel_rfl))
  f224:=Tryz.func269.trans (congrArg some (by kernel_rfl))
  f225:=Tryz.func270.trans (congrArg some (by kernel_rfl))
  f266:=Tryz.func283.trans (congrArg some (by kernel_rfl))
  t0:=Tryz.underlying0
  a0:=Tryz.isAgg0
  z0:=Tryz.sizeOf0
  v0:=Tryz.zeroValue0
  t3:=Tryz.underlying3
  a3:=Tryz.isAgg3
  z3:=Tryz.sizeOf3
  v3:=Tryz.zeroValue3
  t4:=Tryz.underlying4
  a4:=Tryz.isAgg4
  z4:=Tryz.sizeOf4
  v4:=Tryz.zeroValue4
  t5:=Tryz.underlying5
  a5:=Tryz.isAgg5
  z5:=Tryz.sizeOf5
  v5:=Tryz.zeroValue5
  t9:=Tryz.underlying9
  a9:=Tryz.isAgg9
  z9:=Tryz.sizeOf9
  v9:=Tryz.zeroValue9
  t21:=Tryz.underlying21
  a21:=Tryz.isAgg21
  z21:=Tryz.sizeOf21
  v21:=Tryz.zeroValue21
  t46:=Tryz.underlying190
  a46:=Tryz.isAgg190
  z46:=Tryz.sizeOf190
  v46:=Tryz.zeroValue190 }
open Go.RowKit Go.Lib in
theorem Tryz.strings_ContainsRune_ascii (s:ByteArray) (r:Int) (w:World) (h0:0≤r) (h1:r < 128) :
    Calls Tryz.prog 175 #[.string s,.int .i32 r] w fun e w'=>e=.returned (.bool (decide (0≤Lib.indexByte s.data.toList r.toNat.toUInt8)))∧w'=w:=Any.strings_ContainsRune_ascii Tryz.lays151 s r w h0 h1
def Tryz.lays107_ren:Go.Shelf.Ren:=⟨fun | 107=>47 | 108=>84 | n=>n,fun | 28=>66 | 3=>3 | 4=>4 | 0=>0 | n=>n,fun | n=>n⟩
def Tryz.lays111_ren:Go.Shelf.Ren:=⟨fun | 111=>172 | n=>n,fun | 28=>66 | 3=>3 | 4=>4 | 0=>0 | n=>n,fun | n=>n⟩
theorem Tryz.lays111:Go.Proofs.Lays.n111 Tryz.prog Tryz.lays111_ren:={
  mixed:=by kernel_rfl
  f111:=Tryz.func172.trans (congrArg some (by kernel_rfl))
  t0:=Tryz.underlying0
  a0:=Tryz.isAgg0
  z0:=Tryz.sizeOf0
  v0:=Tryz.zeroValue0
  t3:=Tryz.underlying3
  a3:=Tryz.isAgg3
  z3:=Tryz.sizeOf3
  v3:=Tryz.zeroValue3
  t4:=Tryz.underlying4
  a4:=Tryz.isAgg4
  z4:=Tryz.sizeOf4
  v4:=Tryz.zeroValue4
  t28:=Tryz.underlying66
  a28:=Tryz.isAgg66
  z28:=Tryz.sizeOf66
  v28:=Tryz.zeroValue66 }
open Go.RowKit Go.Lib in
theorem Tryz.slices_Equal_int_lens (a1 a2:Option Addr) (n c m d:Nat) (w:World) (hnm:n≠m) :
    Calls Tryz.prog 172 #[.slice a1 n c,.slice a2 m d] w fun e w'=>e=.returned (.bool false)∧w'=w:=Any.slices_Equal_int_lens Tryz.lays111 a1 a2 n c m d w hnm
end Go.Proofs
end
section
namespace Go.Proofs.YthjacokachgmfaaGreatDoor.H
open Go Go.RowKit Go.Shelf YthjacokachgmfaaGreatDoorW.PrintWords YthjacokachgmfaaGreatDoorW.PrintLast YthjacokachgmfaaGreatDoorW.PrintMore
open Ev
attribute [local go_sem] Oper.semAt_some
theorem grown_of_below1 {W W':World} (h:Below W.heap.size W W'):W.grownBy W' none:=⟨h.os,h.tape,h.output,h.size,fun k hk _=>h.block k hk⟩
structure Stb (D b:Nat) (S:World→Prop):Prop where
  own:∀ W W' row,S W→W.grownBy W' row→(∀ r,row=some r→D≤r∧∃ o:Obj,W.heap[r]?=some o∧o.isCells=false)→S W'
  bears:∀ W v,S W→S (W.setCell ⟨b,0,none⟩ v)
section
variable {D b:Nat}
theorem Stb.and {S T:World→Prop} (h:Stb D b S) (k:Stb D b T):Stb D b (fun W=>S W∧T W) :=
  ⟨fun W W' row x hg hr=>⟨h.own W W' row x.1 hg hr,k.own W W' row x.2 hg hr⟩,fun W v x=>⟨h.bears W v x.1,k.bears W v x.2⟩⟩
theorem Stb.ex {ι:Sort _} {S:ι→World→Prop} (h:∀ i,Stb D b (S i)):Stb D b (fun W=>∃ i,S i W) :=
  ⟨fun W W' row x hg hr=>let ⟨i,hi⟩:=x;⟨i,(h i).own W W' row hi hg hr⟩,fun W v x=>let ⟨i,hi⟩:=x;⟨i,(h i).bears W v hi⟩⟩
theorem Stb.pure (p:Prop):Stb D b (fun _=>p):=⟨fun _ _ _ x _ _=>x,fun _ _ x=>x⟩
theorem Stb.blk (g:Nat) (cs:Array Value) (t:TypeId) (hg:g≠b):Stb D b (fun W=>W.heap[g]?=some (.cells cs t (0,0))) :=
  ⟨fun W W' row x hw hr=>blk_grown x hw (fun e=>by
    obtain ⟨_,o,ho,hc⟩:=hr g e.symm
    rw [x] at ho
    cases ho
    cases hc),fun W v x=>blk_far x hg v⟩
theorem Stb.below (w:World) (hD:w.heap.size≤D) (hb:w.heap.size≤b):Stb D b (fun W=>Below w.heap.size w W) :=
  ⟨fun W W' row x hw hr=>x.grown hw x.size (fun k e=>Nat.le_trans hD (hr k e).1),fun W v x=>below_set x hb⟩
theorem Stb.R {α:Type} (d:Kd α) (e base:Nat) (ok:Nat→Prop) (v:Value) (xs:List α) (hok:∀ k,ok k→k≠b):Stb D b (fun W=>d.R e W base ok v xs) :=
  ⟨fun W W' row x hw hr=>Kd.R_mono (Kd.R_grown (Kd.R_bound x) hw (fun k hk er=>by
    obtain ⟨_,_,_,q,_,cells,hc⟩:=hk
    obtain ⟨_,o,ho,hi⟩:=hr k er.symm
    rw [hc] at ho
    cases ho
    cases hi)) (fun _ h=>h.1),fun W u x=>Kd.R_far (p:=⟨b,0,none⟩) x hok u⟩
theorem Stb.kept (w:World) (S:Nat→Prop) (hD:w.heap.size≤D) (hb:w.heap.size≤b):Stb D b (fun W=>Kept w W S) :=
  ⟨fun W W' row x hw hr=>Kept.of_grown hw x (fun k e=>.inr (Nat.le_trans hD (hr k e).1)),fun W v x=>Kept.setCell x (.inr hb) v⟩
theorem Stb.box (t:TypeId):Stb D b (fun W=>∃ u,W.heap[b]?=some (.cells #[u] t (0,0))) :=
  ⟨fun W W' row x hw hr=>let ⟨u,hu⟩:=x;⟨u,blk_grown hu hw (fun e=>by
    obtain ⟨_,o,ho,hc⟩:=hr b e.symm
    rw [hu] at ho
    cases ho
    cases hc)⟩,fun W v x=>let ⟨u,hu⟩:=x;⟨v,blk_put hu 0 v rfl⟩⟩
end
theorem keepsFrom_below {D:Nat} {W W':World} (h:Below W.heap.size W W'):KeepsFrom D W W':=⟨h.size,fun k o _ hk _=>(h.block k (blk_lt hk)).trans hk⟩
theorem keeps_below {n₀ b:Nat} {W W':World} (h:Below W.heap.size W W') (hn:n₀≤W.heap.size) (hb:b < W.heap.size):Keeps n₀ b W W':=⟨⟨h.os,h.tape,h.output,h.size,fun k hk=>h.block k (by omega)⟩,h.block b hb⟩
theorem keeps_set {n₀ b g i:Nat} {W W':World} {v:Value} (h:Keeps n₀ b W W') (hg:n₀≤g) (hne:b≠g):Keeps n₀ b W (W'.setCell ⟨g,i,none⟩ v) :=
  ⟨⟨h.low.os,h.low.tape,h.low.output,by simpa [World.setCell] using h.low.size,fun k hk=>(Below.heap_setCell W' ⟨g,i,none⟩ v k (fun e=>by have e2:k=g:=e;omega)).trans (h.low.block k hk)⟩,(Below.heap_setCell W' ⟨g,i,none⟩ v b hne).trans h.cell⟩
variable {F:Fence} {n:Nat} {P:Program} {α:Type}
def RoundOn (D n₀ b:Nat) (S:World→Prop) (W:World):Exit→Act→World→Prop
  | .normal,_,W'=>KeepsFrom D W W'∧Keeps n₀ b W W'∧S W'
  | _,_,_=>False
theorem range_n {g:Operand} {ps:Array Tmp} {assign body:Code} {Q:Exit→Act→World→Prop} {a:Act} {w:World} {b n₀:Nat} (hbw:b < w.heap.size) (hn:n₀≤w.heap.size)
    (hro:F.round=none) (h1:1≤n) {gf:Nat} {lb:Array Value} (hg:a.eval g=.func (.func gf) #[] lb) (hFg:F.fn gf) (eg:∀ args w,(callFunc gf args).run P w=.ok (.enter gf args) w)
    {encs:α→Array Value} {all:List α} (hseq:∀ W,Below w.heap.size w W→SeqCell b n₀ F (n - 1) P gf lb encs all W) (hps:∀ x,(encs x).size=ps.size)
    (S:Nat→World→Prop) (hS:∀ k,Stb w.heap.size b (S k)) (h0:S 0 w) (a₁:α→Act)
    (hassign:∀ (l:Nat) (x:α) (W:World) (K:Act→World→Prop),K (a₁ x) W →
      assign.wpIn (F.inRound l) (n - 1 - 1) P (Exit.then K (fun _ _ _=>False)) { tmps:=(ps.zip (encs x)).foldl (fun t (p,v)=>t.setIfInBounds p v) a.tmps,defers:=[] } W)
    (hbody:∀ (l k:Nat) (x:α) (W:World),S k W→all[k]?=some x→body.wpIn (F.inRound l) (n - 1 - 1) P (RoundOn w.heap.size n₀ b (S (k+1)) W) (a₁ x) W)
    (hdone:∀ (D:Nat) (W:World),w.heap.size≤D→S all.length W→W.heap[D]?=some (.deferred (some []))→Q .normal { a with defers:={ target:=.collected D,args:=#[] } :: a.defers } W) :
    (Code.rangeFunc g ps assign body).wpIn F n P Q a w:=by
  refine range_cell hbw hn hro h1 hg hFg eg hseq hps (fun pre W=>S pre.length W) (fun _ _=>False)
    (fun s W W' row x hw hr=>(hS s.length).own W W' row x hw hr) (fun _ _ _ _ x _ _=>x.elim) (fun s W v x=>(hS s.length).bears W v x) (fun _ _ _ x=>x.elim) h0 a₁ hassign ?_ hdone (fun _ _ _ _ _ x _=>x.elim)
  intro l pre x W hi hp
  have hx:all[pre.length]?=some x:=by
    obtain ⟨t,rfl⟩:=hp
    simp
  refine wpIn_mono (hbody l pre.length x W hi hx) ?_
  intro e a3 W3 hq
  cases e with
  | normal=>exact ⟨hq.1,hq.2.1,by show S (pre++[x]).length W3;rw [List.length_append];exact hq.2.2⟩
  | _=>exact hq.elim
theorem splitSeq_calls (s:ByteArray) (c:UInt8) (w:World):Calls Tryz.prog 110 #[.string s,.string ⟨#[c]⟩] w fun e w'=>∃ g0 g1 g2:Nat,e=.returned (.func (.func 227) #[] #[.pointer (some ⟨g1,0,none⟩),.pointer (some ⟨g0,0,none⟩),.pointer (some ⟨g2,0,none⟩)])∧w'.heap[g0]?=some (.cells #[.string s] 9 (0,0))∧w'.heap[g1]?=some (.cells #[.string ⟨#[c]⟩] 9 (0,0))∧w'.heap[g2]?=some (.cells #[.int .i64 0] 3 (0,0))∧w.heap.size≤g0∧w.heap.size≤g1∧w.heap.size≤g2∧g0≠g1∧Below w.heap.size w w':=by
  go_enter Tryz.func110,Tryz.ntmps110
  go_wp2
  go_ret
  have b0:=blk_alloc (blk_alloc (blk_new w (.cells #[.string s] 9 (0,0))) (.cells #[.string ⟨#[c]⟩] 9 (0,0))) (.cells #[.int .i64 0] 3 (0,0))
  have b1:=blk_alloc (blk_new (w.alloc (.cells #[.string s] 9 (0,0))) (.cells #[.string ⟨#[c]⟩] 9 (0,0))) (.cells #[.int .i64 0] 3 (0,0))
  have b2:=blk_new ((w.alloc (.cells #[.string s] 9 (0,0))).alloc (.cells #[.string ⟨#[c]⟩] 9 (0,0))) (.cells #[.int .i64 0] 3 (0,0))
  simp only [World.size_alloc] at b1 b2
  exact ⟨w.heap.size,w.heap.size+1,w.heap.size+1+1,rfl,b0,b1,b2,Nat.le_refl _,by omega,by omega,by omega,below_alloc (below_alloc (below_alloc (Below.refl _ _) _) _) _⟩
set_option maxRecDepth 100000 in
set_option maxHeartbeats 2000000 in
theorem splitSeq_seq (n:Nat) (hn:3≤n) (s:ByteArray) (c:UInt8) (hs:Lib.indexByte s.data.toList c < 0) (b n₀ g0 g1 g2:Nat) (W:World) (h0:W.heap[g0]?=some (.cells #[.string s] 9 (0,0))) (h1:W.heap[g1]?=some (.cells #[.string ⟨#[c]⟩] 9 (0,0))) (h2:W.heap[g2]?=some (.cells #[.int .i64 0] 3 (0,0))) :
    SeqCell b n₀ Fence.wide n Tryz.prog 227 #[.pointer (some ⟨g1,0,none⟩),.pointer (some ⟨g0,0,none⟩),.pointer (some ⟨g2,0,none⟩)] (fun x:ByteArray=>#[.string x]) [s] W:=by
  intro l J Jx hJ hJx hJb hJxb hY hJ0
  have c0:=cells1 h0
  have c1:=cells1 h1
  have c2:=cells1 h2
  have hi:decide (Lib.indexByte s.data.toList c < 0)=true:=decide_eq_true hs
  refine callsIn_of_wp Tryz.func227 rfl trivial ?_ rfl
  simp only [Tryz.ntmps227,List.size_toArray,List.length_cons,List.length_nil,Nat.reduceAdd,Nat.reduceSub,Array.replicate_succ,Array.replicate_zero,List.push_toArray,List.append_toArray,List.nil_append,List.cons_append]
  gi_wp2
  gi_loopw [7] (fun v7 wr=>wr=W) (fun _ wr=>(0:Nat))
  case atStart=>rfl
  case round =>
    subst hrel
    gi_wp2
    refine ⟨trivial,fun _=>by omega,?_⟩
    refine (callsIn_wide.2 (Tryz.strings_Index_one s c _)).mono ?_
    rintro e w1 ⟨rfl,rfl⟩
    obtain ⟨fn,tmps,assign,body,hy,hR⟩:=hY [] s w1 hJ0 (List.prefix_refl _)
    gi_wp2
    refine ⟨fun _=>by omega,hR.mono ?_⟩
    rintro e W3 (⟨rfl,hJ3,hk3⟩ | ⟨rfl,hJx3⟩)
    · gi_wp2
      refine bodyPost_end (results_none rfl _ _ _) rfl ?_
      exact ⟨⟨_,rfl⟩,.inl hJ3⟩
    · gi_wp2
      refine bodyPost_end (results_none rfl _ _ _) rfl ?_
      exact ⟨⟨_,rfl⟩,.inr ⟨[s],List.prefix_refl _,hJx3⟩⟩
end Go.Proofs.YthjacokachgmfaaGreatDoor.H
end
