import Derived.RangeFuncNested
import Derived.OrdersIn
import Derived.Test.YthjacokachgmfaaGreatDoorProg
import Derived.BigRegion
import Derived.Laws.LoneSync
import Derived.RegionCalls
import Derived.Test.YthjacokachgmfaaGreatDoorT01
import Derived.Test.YthjacokachgmfaaGreatDoorT02
import Derived.Test.YthjacokachgmfaaGreatDoorT03
import Derived.Test.YthjacokachgmfaaGreatDoorT04
import Derived.Test.YthjacokachgmfaaGreatDoorT05
set_option linter.unusedVariables false
set_option linter.unusedSimpArgs false
section
namespace Go.Proofs.YthjacokachgmfaaGreatDoor.H
open Go Go.RowKit Go.Shelf YthjacokachgmfaaGreatDoorW.PrintWords YthjacokachgmfaaGreatDoorW.PrintLast YthjacokachgmfaaGreatDoorW.PrintMore
section
variable {F:Fence} {n:Nat} {P:Program} {α:Type}
theorem SeqCell.inRound {b n₀ gf:Nat} {lb:Array Value} {encs:α→Array Value} {all:List α} {W:World} (l:Nat) (h:SeqCell b n₀ F n P gf lb encs all W):SeqCell b n₀ (F.inRound l) n P gf lb encs all W:=h
theorem yield_atR {w:World} {n₀ b m:Nat} (hn:n₀≤w.heap.size) (hbw:b < w.heap.size) (r:Loop) (hready:r.state=.ready) (hnone:r.pending=none) (hfn:F.fn r.fn)
    {I:List α→World→Prop} (hI:OwnFrom w.heap.size I) {args:Array Value} (hsz:args.size=r.params.size)
    (pre xs:List α) (W:World) (hi:I pre W) (hb:Book w.heap.size r W) (a₁:Act)
    (hassign:∀ K:Act→World→Prop,K a₁ W→r.assign.wpIn (F.inRound (w.heap.size+1)) m P (Exit.then K (fun _ _ _=>False)) { tmps:=(r.params.zip args).foldl (fun t (p,v)=>t.setIfInBounds p v) r.tmps,defers:=[] } W)
    (hbody:∀ W,I pre W→(∃ r,W.heap[w.heap.size+1]?=some (.loop r))→r.body.wpIn (F.inRound (w.heap.size+1)) m P (RoundOn w.heap.size n₀ b (I xs) W) a₁ W) :
    YieldAt F m P (w.heap.size+1) args W fun e W'=>(e=.returned (.bool true)∧(I xs W'∧Book w.heap.size r W')∧Keeps n₀ b W W')∨(e=.returned (.bool false)∧False):=by
  refine ⟨r.fn,_,r.assign,r.body,run_yield hb.1 hsz,roundIn_of_wpIn hfn (hassign _ ⟨_,run_beginRound hb.1 hready,?_⟩)⟩
  have bb:Book w.heap.size { r with state:=.busy } (W.putObj (w.heap.size+1) (.loop { r with state:=.busy })):=hb.put
  have lb:=low_put hn hbw { r with state:=.busy } hb.1
  refine wpIn_mono (hbody _ (hI.putObj _ hi (by omega) hb.1 rfl) ⟨_,bb.1⟩) ?_
  intro e a3 W3 hp
  match e,hp with
  | .normal,hp =>
    obtain ⟨hk,hbl,hi3⟩:=hp
    have b3:=bb.keep hk
    have er:({ r with state:=.ready,pending:=none }:Loop)=r:=by cases r;simp_all
    refine ⟨_,_,run_endRound none b3.1,.inl ⟨rfl,⟨hI.putObj _ hi3 (by omega) b3.1 rfl,?_⟩,(lb.trans hbl).trans (low_put hn hbw _ b3.1)⟩⟩
    have:=b3.put (r':={ r with state:=.ready,pending:=none })
    rw [er] at this
    rw [← er] at this ⊢
    exact this
theorem range_nR {g:Operand} {ps:Array Tmp} {assign body:Code} {Q:Exit→Act→World→Prop} {a:Act} {w:World} {b n₀:Nat} (hbw:b < w.heap.size) (hn:n₀≤w.heap.size)
    (hro:F.round=none) (h1:1≤n) {gf:Nat} {lb:Array Value} (hg:a.eval g=.func (.func gf) #[] lb) (hFg:F.fn gf) (eg:∀ args w,(callFunc gf args).run P w=.ok (.enter gf args) w)
    {encs:α→Array Value} {all:List α} (hseq:∀ W,Below w.heap.size w W→SeqCell b n₀ F (n - 1) P gf lb encs all W) (hps:∀ x,(encs x).size=ps.size)
    (S:Nat→World→Prop) (hS:∀ k,Stb w.heap.size b (S k)) (h0:S 0 w) (a₁:α→Act)
    (hassign:∀ (l:Nat) (x:α) (W:World) (K:Act→World→Prop),K (a₁ x) W →
      assign.wpIn (F.inRound l) (n - 1 - 1) P (Exit.then K (fun _ _ _=>False)) { tmps:=(ps.zip (encs x)).foldl (fun t (p,v)=>t.setIfInBounds p v) a.tmps,defers:=[] } W)
    (hbody:∀ (l k:Nat) (x:α) (W:World),w.heap.size≤l→(∃ r,W.heap[l]?=some (.loop r))→S k W→all[k]?=some x→body.wpIn (F.inRound l) (n - 1 - 1) P (RoundOn w.heap.size n₀ b (S (k+1)) W) (a₁ x) W)
    (hdone:∀ (D:Nat) (W:World),w.heap.size≤D→S all.length W→W.heap[D]?=some (.deferred (some []))→Q .normal { a with defers:={ target:=.collected D,args:=#[] } :: a.defers } W) :
    (Code.rangeFunc g ps assign body).wpIn F n P Q a w:=by
  refine wpIn_rangeFunc fun fn hfn=>?_
  rw [hro]
  generalize hr:({ state:=.ready,pending:=none,fn,tmps:=a.tmps,params:=ps,assign,body,defers:=w.heap.size }:Loop)=r
  generalize hW:(w.alloc (.deferred (some []))).alloc (.loop r)=W1
  have hI:OwnFrom w.heap.size (fun (s:List α) W=>S s.length W):=fun s A B row x hw hr=>(hS s.length).own A B row x hw hr
  have hB1:Book w.heap.size r W1:=hW ▸ Book.new w r
  have hI1:S 0 W1:=hW ▸ hI.alloc (s:=[]) _ (hI.alloc (s:=[]) _ h0)
  have hlow:Below w.heap.size w W1:=hW ▸ (((Below.refl _ w).alloc (Nat.le_refl _) _).alloc (by simp) _)
  have hsz:w.heap.size≤W1.heap.size:=hlow.size
  have walkTo:∀ {A:World} {row:Option Nat},(∀ k,row=some k→W1.heap.size≤k∧∃ o:Obj,A.heap[k]?=some o∧o.isWalk=true)→(∀ k,row=some k→w.heap.size≤k∧∃ o:Obj,A.heap[k]?=some o∧o.isCells=false):=by
    intro A row h k e
    obtain ⟨hk,o,ho,hw⟩:=h k e
    exact ⟨Nat.le_trans hsz hk,o,ho,Obj.not_cells_of_walk hw⟩
  refine ⟨w.heap.size+1,[{ target:=.collected w.heap.size,args:=#[] }],W1,{ target:=.fn (.func gf) lb,args:=#[.func (.yield (w.heap.size+1)) #[] #[]] },W1,gf,#[.func (.yield (w.heap.size+1)) #[] #[]]++lb,W1,?_,?_,?_,?_,fun _=>h1,?_⟩
  · rw [← hW,← hr]
    exact run_enterLoop_outer _ _ _ _ _
  · simp only [resolve,hg]
    simp [go_sem]
  · intro f' hf'
    simp [Target.leads] at hf'
    exact hf' ▸ hFg
  · simp [invoke,go_sem,eg]
  have call:=hseq W1 hlow (w.heap.size+1) (fun pre W=>S pre.length W∧Book w.heap.size r W) (fun pre W=>False)
    (fun s A B row h hgr hrow=>⟨hI s A B row h.1 hgr (walkTo hrow),h.2.walk hgr (fun k e=>(hrow k e).2)⟩)
    (fun s A B row h hgr hrow=>h)
    (fun s W v h=>⟨(hS s.length).bears W v h.1,h.2.cell hbw v⟩) (fun s W v h=>h)
    (fun pre x W h hpre=>by
      subst hr
      have hx:all[pre.length]?=some x:=by
        obtain ⟨t,rfl⟩:=hpre
        simp
      refine yield_atR hn hbw _ rfl rfl hfn hI (hps x) pre (pre++[x]) W h.1 h.2 (a₁ x) (hassign _ x W) (fun W hi hrec=>?_)
      refine wpIn_mono (hbody _ pre.length x W (by omega) hrec hi hx) ?_
      intro e a3 W3 hq
      cases e with
      | normal=>exact ⟨hq.1,hq.2.1,by rw [List.length_append];exact hq.2.2⟩
      | _=>exact hq.elim)
    ⟨hI1,hB1⟩
  refine call.mono ?_
  rintro e W2 ⟨⟨v,rfl⟩,⟨hi,hb⟩ | ⟨pre,hpre,hx⟩⟩
  · have hend:=run_endLoop (P:=P) hb.1 (by rw [← hr];simp)
    refine ⟨none,_,by rw [hend,← hr],?_⟩
    exact hdone _ _ (Nat.le_refl _) (hI.putObj (s:=all) _ hi (by omega) hb.1 rfl) ((World.putObj_heap_other (by omega)).trans hb.2)
  · exact hx.elim
theorem low_putN {w W:World} {n₀ b:Nat} (hn:n₀≤w.heap.size) (hb:b < w.heap.size) {r:Loop} (r':Loop) (h:W.heap[w.heap.size]?=some (.loop r)):Keeps n₀ b W (W.putObj w.heap.size (.loop r')) :=
  ⟨belowK_b hn W _ _ _ (by omega) h rfl rfl,World.putObj_heap_other (by omega)⟩
theorem lt_rec {W:World} {k:Nat} {r:Loop} (h:W.heap[k]?=some (.loop r)):k < W.heap.size:=(Array.getElem?_eq_some_iff.1 h).1
theorem yield_atN {w:World} {n₀ b m:Nat} (hn:n₀≤w.heap.size) (hbw:b < w.heap.size) (r:Loop) (hready:r.state=.ready) (hnone:r.pending=none) (hfn:F.fn r.fn)
    {I:List α→World→Prop} (hI:OwnFrom w.heap.size I) {args:Array Value} (hsz:args.size=r.params.size)
    (pre xs:List α) (W:World) (hi:I pre W) (hb:W.heap[w.heap.size]?=some (.loop r)) (a₁:Act)
    (hassign:∀ K:Act→World→Prop,K a₁ W→r.assign.wpIn (F.inRound w.heap.size) m P (Exit.then K (fun _ _ _=>False)) { tmps:=(r.params.zip args).foldl (fun t (p,v)=>t.setIfInBounds p v) r.tmps,defers:=[] } W)
    (hbody:∀ W,I pre W→r.body.wpIn (F.inRound w.heap.size) m P (RoundOn w.heap.size n₀ b (I xs) W) a₁ W) :
    YieldAt F m P w.heap.size args W fun e W'=>(e=.returned (.bool true)∧(I xs W'∧W'.heap[w.heap.size]?=some (.loop r))∧Keeps n₀ b W W')∨(e=.returned (.bool false)∧False):=by
  refine ⟨r.fn,_,r.assign,r.body,run_yield hb hsz,roundIn_of_wpIn hfn (hassign _ ⟨_,run_beginRound hb hready,?_⟩)⟩
  have bb:(W.putObj w.heap.size (.loop { r with state:=.busy })).heap[w.heap.size]?=some (.loop { r with state:=.busy }):=World.putObj_heap_same (lt_rec hb)
  have lb:=low_putN hn hbw { r with state:=.busy } hb
  refine wpIn_mono (hbody _ (hI.putObj _ hi (Nat.le_refl _) hb rfl)) ?_
  intro e a3 W3 hp
  match e,hp with
  | .normal,hp =>
    obtain ⟨hk,hbl,hi3⟩:=hp
    have b3:=hk.same _ _ (Nat.le_refl _) bb rfl
    have er:({ r with state:=.ready,pending:=none }:Loop)=r:=by cases r;simp_all
    refine ⟨_,_,run_endRound none b3,.inl ⟨rfl,⟨hI.putObj _ hi3 (Nat.le_refl _) b3 rfl,?_⟩,(lb.trans hbl).trans (low_putN hn hbw _ b3)⟩⟩
    have:=World.putObj_heap_same (o:=.loop { r with state:=.ready,pending:=none }) (lt_rec b3)
    rw [er] at this
    rw [← er] at this ⊢
    exact this
theorem range_nN {g:Operand} {ps:Array Tmp} {assign body:Code} {Q:Exit→Act→World→Prop} {a:Act} {w:World} {b n₀ l₀:Nat} {r₀:Loop} (hbw:b < w.heap.size) (hn:n₀≤w.heap.size)
    (hro:F.round=some l₀) (hl₀:w.heap[l₀]?=some (.loop r₀)) (h1:1≤n) {gf:Nat} {lb:Array Value} (hg:a.eval g=.func (.func gf) #[] lb) (hFg:F.fn gf) (eg:∀ args w,(callFunc gf args).run P w=.ok (.enter gf args) w)
    {encs:α→Array Value} {all:List α} (hseq:∀ W,Below w.heap.size w W→SeqCell b n₀ F (n - 1) P gf lb encs all W) (hps:∀ x,(encs x).size=ps.size)
    (S:Nat→World→Prop) (hS:∀ k,Stb w.heap.size b (S k)) (h0:S 0 w) (a₁:α→Act)
    (hassign:∀ (l:Nat) (x:α) (W:World) (K:Act→World→Prop),K (a₁ x) W →
      assign.wpIn (F.inRound l) (n - 1 - 1) P (Exit.then K (fun _ _ _=>False)) { tmps:=(ps.zip (encs x)).foldl (fun t (p,v)=>t.setIfInBounds p v) a.tmps,defers:=[] } W)
    (hbody:∀ (l k:Nat) (x:α) (W:World),S k W→all[k]?=some x→body.wpIn (F.inRound l) (n - 1 - 1) P (RoundOn w.heap.size n₀ b (S (k+1)) W) (a₁ x) W)
    (hdone:∀ (W:World),S all.length W→Q .normal a W) :
    (Code.rangeFunc g ps assign body).wpIn F n P Q a w:=by
  refine wpIn_rangeFunc fun fn hfn=>?_
  rw [hro]
  generalize hr:({ state:=.ready,pending:=none,fn,tmps:=a.tmps,params:=ps,assign,body,defers:=r₀.defers }:Loop)=r
  generalize hW:w.alloc (.loop r)=W1
  have hI:OwnFrom w.heap.size (fun (s:List α) W=>S s.length W):=fun s A B row x hw hr=>(hS s.length).own A B row x hw hr
  have hB1:W1.heap[w.heap.size]?=some (.loop r):=hW ▸ World.alloc_heap_new w _
  have hI1:S 0 W1:=hW ▸ hI.alloc (s:=[]) _ h0
  have hlow:Below w.heap.size w W1:=hW ▸ ((Below.refl _ w).alloc (Nat.le_refl _) _)
  have hsz:w.heap.size≤W1.heap.size:=hlow.size
  have walkTo:∀ {A:World} {row:Option Nat},(∀ k,row=some k→W1.heap.size≤k∧∃ o:Obj,A.heap[k]?=some o∧o.isWalk=true)→(∀ k,row=some k→w.heap.size≤k∧∃ o:Obj,A.heap[k]?=some o∧o.isCells=false):=by
    intro A row h k e
    obtain ⟨hk,o,ho,hw⟩:=h k e
    exact ⟨Nat.le_trans hsz hk,o,ho,Obj.not_cells_of_walk hw⟩
  refine ⟨w.heap.size,[],W1,{ target:=.fn (.func gf) lb,args:=#[.func (.yield w.heap.size) #[] #[]] },W1,gf,#[.func (.yield w.heap.size) #[] #[]]++lb,W1,?_,?_,?_,?_,fun _=>h1,?_⟩
  · rw [← hW,← hr]
    exact run_enterLoop_inner hl₀ _ _ _ _ _
  · simp only [resolve,hg]
    simp [go_sem]
  · intro f' hf'
    simp [Target.leads] at hf'
    exact hf' ▸ hFg
  · simp [invoke,go_sem,eg]
  have call:=hseq W1 hlow w.heap.size (fun pre W=>S pre.length W∧W.heap[w.heap.size]?=some (.loop r)) (fun pre W=>False)
    (fun s A B row h hgr hrow=>⟨hI s A B row h.1 hgr (walkTo hrow),(grownBy_keeps hgr (fun k e=>(hrow k e).2) h.2 rfl).trans h.2⟩)
    (fun s A B row h hgr hrow=>h)
    (fun s W v h=>⟨(hS s.length).bears W v h.1,(Below.heap_setCell W ⟨b,0,none⟩ v w.heap.size (fun e=>by have e2:w.heap.size=b:=e;omega)).trans h.2⟩) (fun s W v h=>h)
    (fun pre x W h hpre=>by
      subst hr
      have hx:all[pre.length]?=some x:=by
        obtain ⟨t,rfl⟩:=hpre
        simp
      refine yield_atN hn hbw _ rfl rfl hfn hI (hps x) pre (pre++[x]) W h.1 h.2 (a₁ x) (hassign _ x W) (fun W hi=>?_)
      refine wpIn_mono (hbody _ pre.length x W hi hx) ?_
      intro e a3 W3 hq
      cases e with
      | normal=>exact ⟨hq.1,hq.2.1,by rw [List.length_append];exact hq.2.2⟩
      | _=>exact hq.elim)
    ⟨hI1,hB1⟩
  refine call.mono ?_
  rintro e W2 ⟨⟨v,rfl⟩,⟨hi,hb⟩ | ⟨pre,hpre,hx⟩⟩
  · have hend:=run_endLoop (P:=P) hb (by rw [← hr];simp)
    refine ⟨none,_,by rw [hend,← hr],?_⟩
    have hq:∀ Wd,S all.length Wd→Q .normal { a with defers:=[]++a.defers } Wd:=fun Wd h=>by simpa using hdone Wd h
    exact hq _ (hI.putObj (s:=all) _ hi (Nat.le_refl _) hb rfl)
  · exact hx.elim
end
end Go.Proofs.YthjacokachgmfaaGreatDoor.H
end
section
namespace Go.Proofs.YthjacokachgmfaaGreatDoor.H
open Go Go.RowKit YthjacokachgmfaaGreatDoorW.PrintWords YthjacokachgmfaaGreatDoorW.PrintLast YthjacokachgmfaaGreatDoorW.PrintMore
open Ev
set_option maxRecDepth 100000
theorem at_Uc {w:World} {A:Option Addr} {p:List Int} (h:Kd.C (Kd.int .u8) w A p.length p) {k:Nat} (hx:k < p.length):∃ ad n,A=some ad∧p[k]?=some n∧w.cell? (ad.add k)=some (.int .u8 n):=by
  obtain ⟨ad,e1,h2⟩:=(Kd.reads_of_C (enc:=Value.int .u8) (d:=(0:Int)) (h1:=fun _=>rfl) h).2.2 (by omega)
  have hn:p[k]?=some p[k]:=List.getElem?_eq_getElem hx
  exact ⟨ad,p[k],e1,hn,by rw [h2 k hx];simp [List.getD_eq_getElem?_getD,hn]⟩
theorem peek_calls (g:Nat) (A:Option Addr) (c:Nat) (l:List Int) (k:Nat) (kind priv fin:Int) (ps:Value) (inter data:ByteArray) (w0 w:World) (hC:Kd.C (Kd.int .u8) w0 A l.length l) (hl:l.length≤1000000) (hB:Below w0.heap.size w0 w) (hg:w0.heap.size≤g) (hb:w.heap[g]?=some (.cells #[.slice A l.length c,.int .i64 (k:Int),.int .i64 kind,.int .u8 priv,ps,.string inter,.int .u8 fin,.string data] 80 (0,0))) (n:Int) (hn:l[k]?=some n) :
    Calls Tryz.prog 58 #[.pointer (some ⟨g,0,none⟩)] w fun e w'=>e=.returned (.int .u8 n)∧Below w.heap.size w w':=by
  have hk:=(List.getElem?_eq_some_iff.1 hn).1
  obtain ⟨ad,n',eA,hn',hcell⟩:=at_Uc (Kd.C_below hC hB) (k:=k) hk
  obtain rfl:n=n':=by rw [hn] at hn';injection hn'
  subst eA
  have Br:=Aside0.mk hb
  have HL:=Aside0.mk hl
  have HK:=Aside0.mk hk
  have c1:decide ((k:Int) < (l.length:Int))=true:=decide_eq_true (by omega)
  have p0:decide (l.length≤k)=false:=decide_eq_false (by omega)
  have p1:(0:Int)≤(k:Int):=by omega
  have p2:(k:Int) < (l.length:Int):=by omega
  clear hb hC hB hn hn' hl hk hg
  have qr:=cells8 Br.out
  go_enter Tryz.func58,Tryz.ntmps58
  go_wp2
  go_region
  go_wp2
  go_region
  all_goals go_wp2
  all_goals go_ret
  all_goals exact ⟨rfl,by repeat (first|(with_reducible first | exact Below.refl _ _ | apply pw_below_drewN | apply below_drew1) | exact Below.refl _ _)⟩
theorem next_calls (g:Nat) (A:Option Addr) (c:Nat) (l:List Int) (k:Nat) (kind priv fin:Int) (ps:Value) (inter data:ByteArray) (w0 w:World) (hC:Kd.C (Kd.int .u8) w0 A l.length l) (hl:l.length≤1000000) (hB:Below w0.heap.size w0 w) (hg:w0.heap.size≤g) (hb:w.heap[g]?=some (.cells #[.slice A l.length c,.int .i64 (k:Int),.int .i64 kind,.int .u8 priv,ps,.string inter,.int .u8 fin,.string data] 80 (0,0))) (n:Int) (hn:l[k]?=some n) :
    Calls Tryz.prog 57 #[.pointer (some ⟨g,0,none⟩)] w fun e w'=>e=.returned (.int .u8 n)∧w'.heap[g]?=some (.cells #[.slice A l.length c,.int .i64 ((k+1:Nat):Int),.int .i64 kind,.int .u8 priv,ps,.string inter,.int .u8 fin,.string data] 80 (0,0))∧Below w0.heap.size w0 w'∧Kept w w' (fun k=>k=g):=by
  have HK:Aside0 (Kept w w (fun k=>k=g)):=⟨Kept.refl _ _⟩
  have hk:=(List.getElem?_eq_some_iff.1 hn).1
  have HP:=Aside0.mk (peek_calls g A c l k kind priv fin ps inter data w0 w hC hl hB hg hb n hn)
  have E4:=Aside0.mk (show wrap64 ((k:Int)+1)=((k+1:Nat):Int) by rw [IntWalk.wrap64_in _ (by omega)];omega)
  have Br:=Aside0.mk hb
  have HB:=Aside0.mk hB
  have Gr:=Aside0.mk hg
  clear hb hC hB hn hl hk hg
  have qr:=cells8 Br.out
  go_enter Tryz.func57,Tryz.ntmps57
  go_wp2_with (first|(go_at_call 58;refine (HP.out).mono ?_;rintro e w1 ⟨rfl,hb⟩;replace Br:=kb Br hb;clear qr;have qr:=cells8 Br.out;replace HB:=bh HB hb;replace HK:=Aside0.mk (Kept.below HK.out hb);clear hb)|((with_reducible refine gate_store (t:=3) rfl ?_);refine sx 3 1 Br (h:=?_);intro w2 hS hg;replace HB:=gb HB hg Gr;replace HK:=Aside0.mk (Kept.of_grown hg HK.out (fun k hk=>.inl (by injection hk with hk;exact hk.symm)));clear Br qr hg;have Br:=hS;clear hS;have qr:=cells8 Br.out))
  go_ret
  exact ⟨rfl,by rw [← E4.out];exact Br.out,HB.out,HK.out⟩
theorem info5c:(Tryz.prog.info? 5).map (fun i=>(i.zero,i.size,i.bytes))=some (some (.int .u8 0),1,1):=by kernel_rfl
theorem mid_row {A:Option Addr} {c:Nat} {l:List Int} {w0:World} (hC:Kd.C (Kd.int .u8) w0 A l.length l) (hc:l.length≤c) (k m:Nat) (h:k+m≤l.length) :
    ∃ A' c',(∀ W:World,(Instr.slice 22 (.slice A l.length c) (some (.int .i64 (k:Int))) (some (.int .i64 ((k+m:Nat):Int))) none).run Tryz.prog W=.ok (.slice A' m c') W)∧Kd.C (Kd.int .u8) w0 A' ((l.drop k).take m).length ((l.drop k).take m)∧((l.drop k).take m).length=m∧m≤c':=by
  obtain ⟨i0,hi0,_,hsz,_⟩:=info_parts info5c
  have h1:=cut_mid (P:=Tryz.prog) 22 5 .i64 .i64 Tryz.underlying22 hi0 1 hsz A l.length c (k:Int) ((k+m:Nat):Int) (by omega) (by omega) (by omega) hc
  have h2:=Kd.C_drop (m:=k) (c:=c) hC (by omega) hc
  have h3:=Kd.C_take h2 (m:=m) (by rw [List.length_drop];omega)
  simp only [Int.toNat_natCast,show k+m - k=m by omega] at h1
  exact ⟨_,_,h1,h3,by rw [List.length_take,List.length_drop];omega,by omega⟩
set_option maxHeartbeats 8000000 in
theorem run_calls (g:Nat) (A:Option Addr) (c:Nat) (l:List Int) (k:Nat) (kind priv fin:Int) (ps:Value) (inter data:ByteArray) (w0 w:World) (hC:Kd.C (Kd.int .u8) w0 A l.length l) (hl:l.length≤1000000) (hB:Below w0.heap.size w0 w) (hg:w0.heap.size≤g) (hb:w.heap[g]?=some (.cells #[.slice A l.length c,.int .i64 (k:Int),.int .i64 kind,.int .u8 priv,ps,.string inter,.int .u8 fin,.string data] 80 (0,0))) (hc:l.length≤c) (lo hi:Int) (m:Nat) (hm:∀ j x,j < m→l[k+j]?=some x→lo≤x∧x≤hi) (y:Int) (hy:l[k+m]?=some y) (hy2:y < lo∨hi < y) :
    Calls Tryz.prog 61 #[.pointer (some ⟨g,0,none⟩),.int .u8 lo,.int .u8 hi] w fun e w'=>e=.returned (.string (strOfNums ((l.drop k).take m)))∧w'.heap[g]?=some (.cells #[.slice A l.length c,.int .i64 ((k+m:Nat):Int),.int .i64 kind,.int .u8 priv,ps,.string inter,.int .u8 fin,.string data] 80 (0,0))∧Below w0.heap.size w0 w'∧Kept w w' (fun k=>k=g):=by
  have HK:Aside0 (Kept w w (fun k=>k=g)):=⟨Kept.refl _ _⟩
  have hk:=(List.getElem?_eq_some_iff.1 hy).1
  have HC:=Aside0.mk hC
  have HB:=Aside0.mk hB
  have HL:=Aside0.mk hl
  have HLC:=Aside0.mk hc
  have HM:=Aside0.mk hm
  have HY:=Aside0.mk hy
  have HY2:=Aside0.mk hy2
  have HKM:=Aside0.mk hk
  have Br:=Aside0.mk hb
  have Gr:=Aside0.mk hg
  clear hb hC hB hl hk hg hc hm hy hy2
  have qr:=cells8 Br.out
  go_enter Tryz.func61,Tryz.ntmps61
  go_wp2
  clear qr
  show Code.wp _ _ _ _ _
  go_loopg [] (m+1) (fun kq W=>∃ j:Nat,Aside0 (j≤m∧m - j < kq)∧Aside0 (W.heap[g]?=some (.cells #[.slice A l.length c,.int .i64 ((k+j:Nat):Int),.int .i64 kind,.int .u8 priv,ps,.string inter,.int .u8 fin,.string data] 80 (0,0)))∧Aside0 (Below w0.heap.size w0 W)∧Aside0 (Kept w W (fun k=>k=g)))
  case atStart=>exact ⟨0,⟨by omega⟩,Br,HB,HK⟩
  case round =>
    clear Br HB HK
    obtain ⟨j,HJ,Br,HB,HK⟩:=hrel
    have hbr:=Br.out
    clear Br
    cases gk with
    | zero=>exact absurd HJ.out (by omega)
    | succ k1 =>
      have LT:k+j < l.length:=by have:=HJ.out;have:=HKM.out;omega
      by_cases hjm:j < m
      · obtain ⟨ad,n,eA,hn,hcell⟩:=at_Uc (Kd.C_below HC.out HB.out) (k:=k+j) LT
        subst eA
        obtain ⟨kk,hkk⟩:∃ kk:Int,((k+j:Nat):Int)=kk:=⟨_,rfl⟩
        rw [hkk] at hbr
        rw [show k+j=kk.toNat by omega] at hcell
        have Br:=Aside0.mk hbr
        have qr:=cells8 Br.out
        have c1:decide (kk < (l.length:Int))=true:=decide_eq_true (by omega)
        have p1:(0:Int)≤kk:=by omega
        have p2:kk < (l.length:Int):=by omega
        have HKK:=Aside0.mk hkk
        have hr:=HM.out j n hjm hn
        have q1:decide (lo≤n)=true:=decide_eq_true hr.1
        have q2:decide (n≤hi)=true:=decide_eq_true hr.2
        have HJM:=Aside0.mk hjm
        have E4:=Aside0.mk (show wrap64 (kk+1)=((k+(j+1):Nat):Int) by have:=HL.out;rw [IntWalk.wrap64_in _ (by omega)];omega)
        clear hr hn LT hjm hbr hkk
        go_wp2
        refine st 38 (fun w'=>w'.cell? ⟨g,0,none⟩=some (.slice (some ad) l.length c)∧w'.cell? ⟨g,1,none⟩=some (.int .i64 kk)∧w'.cell? (ad.add kk.toNat)=some (.int .u8 n)) [] (hS:=⟨qr.1,qr.2.1,hcell⟩) (h:=fun hHeld=>?_)
        refine pu 0 (h:=?_)
        refine pu 1 (h:=?_)
        refine pu 2 (h:=?_)
        refine pu 4 (h:=?_)
        refine pu 5 (h:=?_)
        refine pu 6 (h:=?_)
        refine tk 3 hHeld (h:=?_)
        refine tk 7 hHeld (h:=?_)
        refine pu 8 (h:=?_)
        refine pu 9 (h:=?_)
        refine pu 10 (h:=?_)
        refine pu 11 (h:=?_)
        refine pu 12 (h:=?_)
        refine pu 13 (h:=?_)
        refine pu 15 (h:=?_)
        refine pu 16 (h:=?_)
        refine pu 17 (h:=?_)
        refine pu 21 (h:=?_)
        refine tk 14 hHeld (h:=?_)
        refine tk 18 hHeld (h:=?_)
        refine pu 19 (h:=?_)
        refine tk 20 hHeld (h:=?_)
        refine pu 22 (h:=?_)
        refine pu 23 (h:=?_)
        refine pu 24 (h:=?_)
        refine pu 25 (h:=?_)
        refine pu 26 (h:=?_)
        refine pu 27 (h:=?_)
        refine pu 29 (h:=?_)
        refine pu 30 (h:=?_)
        refine pu 31 (h:=?_)
        refine pu 35 (h:=?_)
        refine tk 28 hHeld (h:=?_)
        refine tk 32 hHeld (h:=?_)
        refine pu 33 (h:=?_)
        refine tk 34 hHeld (h:=?_)
        refine pu 36 (h:=?_)
        refine pu 37 (h:=?_)
        refine done_ (by kernel_rfl) ?_
        clear hHeld
        replace Br:=Aside0.mk (blk_drew Br.out)
        clear qr
        have qr:=cells8 Br.out
        replace HB:=Aside0.mk (below_drew1 HB.out)
        go_wp2_with (first|((with_reducible refine gate_store (t:=3) rfl ?_);refine sx 3 1 Br (h:=?_);intro w2 hS hg;replace HB:=gb HB hg Gr;replace HK:=Aside0.mk (Kept.of_grown hg HK.out (fun k hk=>.inl (by injection hk with hk;exact hk.symm)));clear Br qr hg;have Br:=hS;clear hS;have qr:=cells8 Br.out))
        go_roundg k1
        case measure=>have:=HJ.out;omega
        case rel=>exact ⟨j+1,⟨by have:=HJ.out;have:=HJM.out;omega⟩,⟨by rw [← E4.out];exact Br.out⟩,HB,HK⟩
      · obtain rfl:j=m:=by have:=HJ.out;omega
        obtain ⟨ad,n,eA,hn,hcell⟩:=at_Uc (Kd.C_below HC.out HB.out) (k:=k+j) LT
        subst eA
        obtain ⟨kk,hkk⟩:∃ kk:Int,((k+j:Nat):Int)=kk:=⟨_,rfl⟩
        rw [hkk] at hbr
        rw [show k+j=kk.toNat by omega] at hcell
        have Br:=Aside0.mk hbr
        have qr:=cells8 Br.out
        have c1:decide (kk < (l.length:Int))=true:=decide_eq_true (by omega)
        have p1:(0:Int)≤kk:=by omega
        have p2:kk < (l.length:Int):=by omega
        have HKK:=Aside0.mk hkk
        obtain rfl:n=y:=by rw [HY.out] at hn;injection hn with hn;exact hn.symm
        clear hn LT hjm hbr
        obtain ⟨A',c',hcut,hrow,hrl,hrc⟩:=mid_row HC.out HLC.out k j (by have:=HKM.out;omega)
        have hT:=Kd.C_string (c:=c') Tryz.underlying22 Tryz.underlying5 Tryz.underlying9 (Kd.C_below hrow (below_drew1 (below_drew1 HB.out)))
        rw [hrl] at hT
        rw [hkk] at hcut
        clear hrow hrl hrc hkk
        rcases HY2.out with hy | hy
        · have q1:decide (lo≤n)=false:=decide_eq_false (by omega)
          clear hy
          go_wp2
          refine st 38 (fun w'=>w'.cell? ⟨g,0,none⟩=some (.slice (some ad) l.length c)∧w'.cell? ⟨g,1,none⟩=some (.int .i64 kk)∧w'.cell? (ad.add kk.toNat)=some (.int .u8 n)) [] (hS:=⟨qr.1,qr.2.1,hcell⟩) (h:=fun hHeld=>?_)
          refine pu 0 (h:=?_)
          refine pu 1 (h:=?_)
          refine pu 2 (h:=?_)
          refine pu 4 (h:=?_)
          refine pu 5 (h:=?_)
          refine pu 6 (h:=?_)
          refine tk 3 hHeld (h:=?_)
          refine tk 7 hHeld (h:=?_)
          refine pu 8 (h:=?_)
          refine pu 9 (h:=?_)
          refine pu 10 (h:=?_)
          refine pu 11 (h:=?_)
          refine pu 12 (h:=?_)
          refine pu 13 (h:=?_)
          refine pu 15 (h:=?_)
          refine pu 16 (h:=?_)
          refine pu 17 (h:=?_)
          refine pu 21 (h:=?_)
          refine tk 14 hHeld (h:=?_)
          refine tk 18 hHeld (h:=?_)
          refine pu 19 (h:=?_)
          refine tk 20 hHeld (h:=?_)
          refine pu 22 (h:=?_)
          refine pu 23 (h:=?_)
          refine pu 24 (h:=?_)
          refine po 25 (h:=?_)
          refine po 26 (h:=?_)
          refine po 27 (h:=?_)
          refine po 28 (h:=?_)
          refine po 29 (h:=?_)
          refine po 30 (h:=?_)
          refine po 31 (h:=?_)
          refine po 32 (h:=?_)
          refine po 33 (h:=?_)
          refine po 34 (h:=?_)
          refine po 35 (h:=?_)
          refine po 36 (h:=?_)
          refine pu 37 (h:=?_)
          refine done_ (by kernel_rfl) ?_
          clear hHeld
          go_wp2
          refine st 12 (fun w'=>w'.cell? ⟨g,0,none⟩=some (.slice (some ad) l.length c)∧w'.cell? ⟨g,1,none⟩=some (.int .i64 kk)∧(convert 22 9 (.slice A' j c')).run Tryz.prog w'=.ok (.string (strOfNums ((l.drop k).take j))) w') [] (hS:=⟨qr.1,qr.2.1,hT⟩) (h:=fun hHeld=>?_)
          refine pu 0 (h:=?_)
          refine pu 1 (h:=?_)
          refine pu 2 (h:=?_)
          refine pu 4 (h:=?_)
          refine pu 5 (h:=?_)
          refine pu 6 (h:=?_)
          refine pu 7 (h:=?_)
          refine tk 3 hHeld (h:=?_)
          refine tk 8 hHeld (h:=?_)
          refine pu 9 (h:=?_)
          refine tk 10 hHeld (h:=?_)
          refine pu 11 (h:=?_)
          refine done_ (by kernel_rfl) ?_
          clear hHeld
          go_wp2
          go_ret
          exact ⟨rfl,by rw [HKK.out];exact blk_drew (blk_drew Br.out),below_drew1 (below_drew1 HB.out),Kept.drew (Kept.drew HK.out)⟩
        · have q2:decide (n≤hi)=false:=decide_eq_false (by omega)
          have q1:decide (lo≤n)=true∨decide (lo≤n)=false:=by cases decide (lo≤n)<;>simp
          clear hy
          rcases q1 with q1 | q1
          · go_wp2
            refine st 38 (fun w'=>w'.cell? ⟨g,0,none⟩=some (.slice (some ad) l.length c)∧w'.cell? ⟨g,1,none⟩=some (.int .i64 kk)∧w'.cell? (ad.add kk.toNat)=some (.int .u8 n)) [] (hS:=⟨qr.1,qr.2.1,hcell⟩) (h:=fun hHeld=>?_)
            refine pu 0 (h:=?_)
            refine pu 1 (h:=?_)
            refine pu 2 (h:=?_)
            refine pu 4 (h:=?_)
            refine pu 5 (h:=?_)
            refine pu 6 (h:=?_)
            refine tk 3 hHeld (h:=?_)
            refine tk 7 hHeld (h:=?_)
            refine pu 8 (h:=?_)
            refine pu 9 (h:=?_)
            refine pu 10 (h:=?_)
            refine pu 11 (h:=?_)
            refine pu 12 (h:=?_)
            refine pu 13 (h:=?_)
            refine pu 15 (h:=?_)
            refine pu 16 (h:=?_)
            refine pu 17 (h:=?_)
            refine pu 21 (h:=?_)
            refine tk 14 hHeld (h:=?_)
            refine tk 18 hHeld (h:=?_)
            refine pu 19 (h:=?_)
            refine tk 20 hHeld (h:=?_)
            refine pu 22 (h:=?_)
            refine pu 23 (h:=?_)
            refine pu 24 (h:=?_)
            refine pu 25 (h:=?_)
            refine pu 26 (h:=?_)
            refine pu 27 (h:=?_)
            refine pu 29 (h:=?_)
            refine pu 30 (h:=?_)
            refine pu 31 (h:=?_)
            refine pu 35 (h:=?_)
            refine tk 28 hHeld (h:=?_)
            refine tk 32 hHeld (h:=?_)
            refine pu 33 (h:=?_)
            refine tk 34 hHeld (h:=?_)
            refine pu 36 (h:=?_)
            refine pu 37 (h:=?_)
            refine done_ (by kernel_rfl) ?_
            clear hHeld
            go_wp2
            refine st 12 (fun w'=>w'.cell? ⟨g,0,none⟩=some (.slice (some ad) l.length c)∧w'.cell? ⟨g,1,none⟩=some (.int .i64 kk)∧(convert 22 9 (.slice A' j c')).run Tryz.prog w'=.ok (.string (strOfNums ((l.drop k).take j))) w') [] (hS:=⟨qr.1,qr.2.1,hT⟩) (h:=fun hHeld=>?_)
            refine pu 0 (h:=?_)
            refine pu 1 (h:=?_)
            refine pu 2 (h:=?_)
            refine pu 4 (h:=?_)
            refine pu 5 (h:=?_)
            refine pu 6 (h:=?_)
            refine pu 7 (h:=?_)
            refine tk 3 hHeld (h:=?_)
            refine tk 8 hHeld (h:=?_)
            refine pu 9 (h:=?_)
            refine tk 10 hHeld (h:=?_)
            refine pu 11 (h:=?_)
            refine done_ (by kernel_rfl) ?_
            clear hHeld
            go_wp2
            go_ret
            exact ⟨rfl,by rw [HKK.out];exact blk_drew (blk_drew Br.out),below_drew1 (below_drew1 HB.out),Kept.drew (Kept.drew HK.out)⟩
          · go_wp2
            refine st 38 (fun w'=>w'.cell? ⟨g,0,none⟩=some (.slice (some ad) l.length c)∧w'.cell? ⟨g,1,none⟩=some (.int .i64 kk)∧w'.cell? (ad.add kk.toNat)=some (.int .u8 n)) [] (hS:=⟨qr.1,qr.2.1,hcell⟩) (h:=fun hHeld=>?_)
            refine pu 0 (h:=?_)
            refine pu 1 (h:=?_)
            refine pu 2 (h:=?_)
            refine pu 4 (h:=?_)
            refine pu 5 (h:=?_)
            refine pu 6 (h:=?_)
            refine tk 3 hHeld (h:=?_)
            refine tk 7 hHeld (h:=?_)
            refine pu 8 (h:=?_)
            refine pu 9 (h:=?_)
            refine pu 10 (h:=?_)
            refine pu 11 (h:=?_)
            refine pu 12 (h:=?_)
            refine pu 13 (h:=?_)
            refine pu 15 (h:=?_)
            refine pu 16 (h:=?_)
            refine pu 17 (h:=?_)
            refine pu 21 (h:=?_)
            refine tk 14 hHeld (h:=?_)
            refine tk 18 hHeld (h:=?_)
            refine pu 19 (h:=?_)
            refine tk 20 hHeld (h:=?_)
            refine pu 22 (h:=?_)
            refine pu 23 (h:=?_)
            refine pu 24 (h:=?_)
            refine po 25 (h:=?_)
            refine po 26 (h:=?_)
            refine po 27 (h:=?_)
            refine po 28 (h:=?_)
            refine po 29 (h:=?_)
            refine po 30 (h:=?_)
            refine po 31 (h:=?_)
            refine po 32 (h:=?_)
            refine po 33 (h:=?_)
            refine po 34 (h:=?_)
            refine po 35 (h:=?_)
            refine po 36 (h:=?_)
            refine pu 37 (h:=?_)
            refine done_ (by kernel_rfl) ?_
            clear hHeld
            go_wp2
            refine st 12 (fun w'=>w'.cell? ⟨g,0,none⟩=some (.slice (some ad) l.length c)∧w'.cell? ⟨g,1,none⟩=some (.int .i64 kk)∧(convert 22 9 (.slice A' j c')).run Tryz.prog w'=.ok (.string (strOfNums ((l.drop k).take j))) w') [] (hS:=⟨qr.1,qr.2.1,hT⟩) (h:=fun hHeld=>?_)
            refine pu 0 (h:=?_)
            refine pu 1 (h:=?_)
            refine pu 2 (h:=?_)
            refine pu 4 (h:=?_)
            refine pu 5 (h:=?_)
            refine pu 6 (h:=?_)
            refine pu 7 (h:=?_)
            refine tk 3 hHeld (h:=?_)
            refine tk 8 hHeld (h:=?_)
            refine pu 9 (h:=?_)
            refine tk 10 hHeld (h:=?_)
            refine pu 11 (h:=?_)
            refine done_ (by kernel_rfl) ?_
            clear hHeld
            go_wp2
            go_ret
            exact ⟨rfl,by rw [HKK.out];exact blk_drew (blk_drew Br.out),below_drew1 (below_drew1 HB.out),Kept.drew (Kept.drew HK.out)⟩
end Go.Proofs.YthjacokachgmfaaGreatDoor.H
end
section
namespace Go.Proofs.YthjacokachgmfaaGreatDoor.H
open Go Go.RowKit YthjacokachgmfaaGreatDoorW.PrintWords YthjacokachgmfaaGreatDoorW.PrintLast
section
variable {P:Program} {ops:Array Oper} {Q:Exit→Act→World→Prop} {md:Region.Mode} {l n:Nat}
theorem rowsIn_wide1 {row:String} {args:Array Value} {w:World} {R:Value→World→Prop} (h:Rows P row args w R):RowsIn (Fence.wide.inRound l) n P row args w R :=
  fun c cs _=>let ⟨v,w',r,s⟩:=h c cs;⟨v,w',r,stepsIn_wide.2 s⟩
theorem oper_inRound {o:Oper} {a:Act} {w:World} {K K':Act→World→Prop} (hd:∀ c,o.op≠.defer c) (hK:∀ a w,K a w→K' a w) (h:o.wp P a w K Q):o.wpIn (Fence.wide.inRound l) n P a w K' Q:=by
  unfold Oper.wp at h
  refine ⟨fun _ _=>trivial,?_⟩
  rw [Oper.semAt_eq _ _ _ hd]
  generalize (execOp a.eval o).run P w=r at *
  cases r with
  | ok x w' =>
    cases x with
    | enter f args=>exact ⟨fun h=>by simp [Fence.inRound,Fence.wide] at h,CallsIn.inRound l (callsIn_wide.2 (h.mono (fun e w2 he=>by cases e<;>first | exact hK _ _ he | exact he)))⟩
    | row r args=>exact ⟨fun h=>by simp [Fence.inRound,Fence.wide] at h,rowsIn_wide1 (Rows.mono h (fun _ _ he=>hK _ _ he))⟩
    | value v=>exact hK _ _ h
    | skip=>exact hK _ _ h
    | defer d=>exact hK _ _ h
    | _=>exact False.elim h
  | halt x w'=>cases x<;>exact h
theorem wpAnyIn_of_wpAny (hd:∀ (i:Nat) (o:Oper),ops[i]?=some o→∀ c,o.op≠.defer c) (hL:¬ LetsOut Q):∀ (fuel:Nat) (listed:Array Bool) (a:Act) (w:World),wpAny P md ops Q fuel listed a w→wpAnyIn (Fence.wide.inRound l) n P md ops Q fuel listed a w
  | 0,_,_,_,h=>h
  | fuel+1,listed,a,w,h=>⟨h.1,fun i hi=>by
    have hK:=fun a' w'=>wpAnyIn_of_wpAny hd hL fuel (listed.setIfInBounds i true) a' w'
    have hw:=h.2 i hi
    unfold wpOp at hw
    unfold wpOpIn
    cases ho:ops[i]? with
    | none=>rw [ho] at hw;exact hK _ _ hw
    | some o =>
      rw [ho] at hw
      dsimp only at hw ⊢
      by_cases hy:Region.wanted o (yielded ops a.tmps)=true
      · rw [if_pos hy] at hw ⊢
        rcases hw with hw | ⟨_,hw⟩
        · exact oper_inRound (hd i o ho) hK hw
        · exact absurd hw hL
      · rw [if_neg hy] at hw ⊢
        exact ⟨fun _ _=>trivial,hK _ _ hw⟩⟩
def noDefer (ops:Array Oper):Bool:=ops.toList.all fun o=>match o.op with | .defer _=>false | _=>true
theorem noDefer_spec (h:noDefer ops=true) (i:Nat) (o:Oper) (ho:ops[i]?=some o):∀ c,o.op≠.defer c:=by
  intro c e
  have h2:=List.all_eq_true.1 h o (by
    obtain ⟨hi,rfl⟩:=Array.getElem?_eq_some_iff.1 ho
    exact Array.getElem_mem_toList hi)
  rw [e] at h2
  cases h2
theorem start_round {S:World→Prop} {ds:List Nat} {id m:Nat} {a:Act} {w:World} (ls:Array Bool) (hd:noDefer ops=true) (hL:¬ LetsOut Q) (hm:P.follows .mixedOrders=true) (hn:ops.size=m) (hl:Array.replicate m false=ls) (hS:S w.drew)
    (h:S w.drew→wpAnyLast P .any ops Q S ds m ls a w.drew):(Code.region id ops true).wpIn (Fence.wide.inRound l) n P Q a w:=by
  subst hn
  subst hl
  exact wpIn_region_any hm (wpAnyIn_of_wpAny (noDefer_spec hd) hL _ _ _ _ (wpAny_of_last _ _ _ _ (h hS)))
end
end Go.Proofs.YthjacokachgmfaaGreatDoor.H
end
section
namespace Go.Proofs.YthjacokachgmfaaGreatDoor.H
open Go Go.RowKit YthjacokachgmfaaGreatDoorW.PrintWords YthjacokachgmfaaGreatDoorW.PrintLast YthjacokachgmfaaGreatDoorW.PrintMore
end Go.Proofs.YthjacokachgmfaaGreatDoor.H
end
section
namespace Go.Proofs.YthjacokachgmfaaGreatDoor.H
open Go Go.RowKit YthjacokachgmfaaGreatDoorW.PrintWords YthjacokachgmfaaGreatDoorW.PrintLast YthjacokachgmfaaGreatDoorW.PrintMore
structure QS where
  bs:List Int
  room:Int
  dr:Int
def Qu (w:World) (base q:Nat) (P:Nat→Prop) (x:QS):Prop :=
  base≤q∧∃ sl,w.heap[q]?=some (.cells #[sl,.int .i64 x.room,.int .i64 x.dr] 110 (0,0))∧Kd.R (Kd.int .u8) 5 w base P sl x.bs
theorem Qu.below {w w1:World} {base q:Nat} {P:Nat→Prop} {x:QS} (h:Qu w base q P x) (hb:Below w.heap.size w w1):Qu w1 base q P x:=by
  obtain ⟨h0,sl,h1,h2⟩:=h
  exact ⟨h0,sl,blk_below h1 hb,Kd.R_below h2 hb⟩
theorem Qu.kept {w w1:World} {base q:Nat} {P S:Nat→Prop} {x:QS} (h:Qu w base q P x) (hk:Kept w w1 S) (hq:¬ S q) (hp:∀ k,P k→¬ S k):Qu w1 base q P x:=by
  obtain ⟨h0,sl,h1,h2⟩:=h
  exact ⟨h0,sl,(hk.2 q (blk_lt h1) hq).trans h1,Kd.R_step h2 (fun k hk1 hlt=>hk.2 k hlt (hp k hk1))⟩
theorem New_some (room:Int) (w:World) (P:Nat→Prop) (h:64≤room∧room≤65536) :
    Calls Tryz.prog 16 #[.int .i64 room] w fun e w'=>∃ q,e=.returned (.pointer (some ⟨q,0,none⟩))∧Qu w' w.heap.size q P ⟨[],room,0⟩∧Below w.heap.size w w':=by
  have c1:decide (room < 64)=false:=decide_eq_false (by omega)
  have c2:decide (65536 < room)=false:=decide_eq_false (by omega)
  have HB:=Aside0.mk (Below.refl w.heap.size w)
  go_enter Tryz.func16,Tryz.ntmps16
  go_wp2
  go_ret
  exact ⟨_,rfl,⟨Nat.le_refl _,_,blk_new _ _,Kd.R_nil _ _ _ _ _⟩,by repeat (first|(with_reducible first | exact HB.out | apply below_alloc | apply pw_below_drewN | apply below_drew1) | exact HB.out)⟩
end Go.Proofs.YthjacokachgmfaaGreatDoor.H
end
