import Derived.LoopNIn
import Derived.Test.YthjacokachgmfaaGreatDoorT04
import Derived.Test.YthjacokachgmfaaGreatDoorT05
import Derived.Test.YthjacokachgmfaaGreatDoorT20
import Derived.Test.YthjacokachgmfaaGreatDoorT31
set_option linter.unusedVariables false
set_option linter.unusedSimpArgs false
section
namespace Go.Proofs.YthjacokachgmfaaGreatDoor.H
open Go Go.RowKit Go.Maps Go.ChangeMaps YthjacokachgmfaaGreatDoorW.PrintWords YthjacokachgmfaaGreatDoorW.PrintLast YthjacokachgmfaaGreatDoorW.PrintMore
open Ev
set_option maxRecDepth 100000
theorem R_mapGrown {α:Type} {d:Kd α} {e base g:Nat} {ok:Nat→Prop} {v:Value} {xs:List α} {P:Program} {k:TypeId} {w w1:World} {L:List (Value × Value)} (h:d.R e w base ok v xs) (hM:MapAt P k w g L) (hg:w.grownBy w1 (some g)):d.R e w1 base ok v xs :=
  Kd.R_mono (Kd.R_grown (Kd.R_bound h) hg (fun k hk er=>by
    obtain ⟨_,_,_,t,_,cells,hc⟩:=hk
    injection er with er
    subst er
    obtain ⟨es,c,hb,_⟩:=hM
    rw [hc] at hb
    cases hb)) (fun _ h=>h.1)
def lookI:List UInt8:=[27,91,73]
def lookO:List UInt8:=[27,91,79]
theorem csiI:csiT 0 [] [] 73=lookI:=by kernel_rfl
theorem csiO:csiT 0 [] [] 79=lookO:=by kernel_rfl
theorem plain73:Plain 1 0 73 [] []:=⟨.inl ⟨rfl,rfl⟩,.inl rfl,by decide,⟨by decide,by simp⟩,by simp⟩
theorem plain79:Plain 1 0 79 [] []:=⟨.inl ⟨rfl,rfl⟩,.inl rfl,by decide,⟨by decide,by simp⟩,by simp⟩
theorem looks1_calls (fin:Int) (w:World) (hpl:Plain 1 0 fin [] []) (hpw:Pow w):Calls Tryz.prog 143 #[.int .u8 fin] w fun e w'=>∃ v,e=.returned v∧OwnB w w' v (csiT 0 [] [] fin)∧Below w.heap.size w w':=by
  have HPL:=Aside0.mk hpl
  have HPW:=Aside0.mk hpw
  clear hpl hpw
  go_enter Tryz.func143,Tryz.ntmps143
  go_wp2_with (first|(go_at_call 99;refine (num_calls 0 fin none 0 [] w (Kd.C_nil _ w) (by decide)).mono ?_;rintro e w1 ⟨Av,cv,rfl,hR,hb⟩;have HR:=Aside0.mk (Kd.R_reads' hR).2.2;have HB:=Aside0.mk hb;clear hR hb)|(go_at_call 27;refine (put_calls 0 fin [] Av [] cv _ HPL.out HR.out (by decide) (by simp) (HPW.out.below HB.out)).mono ?_;rintro e w2 ⟨he,hb⟩;rw [if_pos (show listedT []=true by kernel_rfl)] at he;obtain ⟨v,rfl,hv⟩:=he;have HV:=Aside0.mk (OwnB.low hv HB.out.size);have HB2:=Aside0.mk (below_step HB.out hb);clear hb hv HB))
  go_ret
  exact ⟨v,rfl,HV.out,HB2.out⟩
set_option maxHeartbeats 4000000 in
theorem looks_calls (w:World) (hpw:Pow w):Calls Tryz.prog 104 #[] w fun e w'=>∃ gm A1 A2 c1 c2,e=.returned (.map (some gm))∧MapAt Tryz.prog 4 w' gm [(.bool true,.slice A1 (nat8 lookI).length c1),(.bool false,.slice A2 (nat8 lookO).length c2)]∧Kd.C (Kd.int .u8) w' A1 (nat8 lookI).length (nat8 lookI)∧Kd.C (Kd.int .u8) w' A2 (nat8 lookO).length (nat8 lookO)∧Below w.heap.size w w':=by
  have HPW:=Aside0.mk hpw
  clear hpw
  have HB:=Aside0.mk (Below.refl w.heap.size w)
  go_enter Tryz.func104,Tryz.ntmps104
  go_wp2_with (first|((with_reducible refine gate_dst (N:=2) rfl ?_);refine make_ev (k:=4) (t:=158) rfl 2 rfl rfl ?hr ?_;(case hr=>first|(go_simp;done)|(go_simp;rfl));intro gm hgm w1 hM hb;have HBo:=HB.out;replace HB:=bh HB hb;have MM:=Aside0.mk hM;have GM:=Aside0.mk (show w.heap.size≤gm by rw [hgm];exact below_size HBo);clear hM hb hgm HBo)|(go_at_call 143;(first|(have hz_:=HVI;clear hz_;refine (looks1_calls 79 _ plain79 (HPW.out.below HB.out)).mono ?_;rintro e w4 ⟨v2,rfl,hv,hb⟩;have HVO:=Aside0.mk (OwnB.low hv HB.out.size);replace HVI:=Aside0.mk (Kd.R_below HVI.out hb);replace MM:=Aside0.mk (MM.out.below hb);replace HB:=bh HB hb;clear hb hv)|(refine (looks1_calls 73 _ plain73 (HPW.out.below HB.out)).mono ?_;rintro e w2 ⟨v1,rfl,hv,hb⟩;have HVI:=Aside0.mk (OwnB.low hv HB.out.size);replace MM:=Aside0.mk (MM.out.below hb);replace HB:=bh HB hb;clear hb hv)))|((with_reducible refine gate_ (.insert 158 (.tmp 2) (.const (.bool true)) (.tmp 4)) rfl ?_);refine put_ev (X:=.bool true) (V:=v1) rfl rfl (.tmp 2) (.const (.bool true)) (.tmp 4) rfl (bool_keyed Tryz.underlying4) Tryz.underlying158 rfl rfl rfl MM.out (keyOf_bool_mk Tryz.underlying4 true) (fun p hp=>by cases hp) ?_;intro w5 hM hg;replace HVI:=Aside0.mk (R_mapGrown HVI.out MM.out hg);replace HB:=gb HB hg GM;clear MM;have MM:=Aside0.mk hM;clear hM hg)|((with_reducible refine gate_ (.insert 158 (.tmp 2) (.const (.bool false)) (.tmp 6)) rfl ?_);refine put_ev (X:=.bool false) (V:=v2) rfl rfl (.tmp 2) (.const (.bool false)) (.tmp 6) rfl (bool_keyed Tryz.underlying4) Tryz.underlying158 rfl rfl rfl MM.out (keyOf_bool_mk Tryz.underlying4 false) (by intro p hp;simp only [List.nil_append,List.cons_append,List.mem_cons,List.not_mem_nil,or_false] at hp;subst hp;simp) ?_;intro w5 hM hg;replace HVI:=Aside0.mk (R_mapGrown HVI.out MM.out hg);replace HVO:=Aside0.mk (R_mapGrown HVO.out MM.out hg);replace HB:=gb HB hg GM;clear MM;have MM:=Aside0.mk hM;clear hM hg))
  go_ret
  have h1:=HVI.out
  have h2:=HVO.out
  unfold OwnB at h1 h2
  rw [csiI] at h1
  rw [csiO] at h2
  obtain ⟨A1,c1,rfl,_,k1⟩:=Kd.R_reads h1
  obtain ⟨A2,c2,rfl,_,k2⟩:=Kd.R_reads h2
  exact ⟨gm,A1,A2,c1,c2,rfl,MM.out,k1,k2,HB.out⟩
set_option maxHeartbeats 4000000 in
theorem lookedP_calls (A:Option Addr) (c:Nat) (l:List Int) (w:World) (hpw:Pow w) (hC:Kd.C (Kd.int .u8) w A l.length l) (hlc:l.length≤c) (h1:pfxB l (nat8 lookI)=false) (h2:pfxB l (nat8 lookO)=false) :
    Calls Tryz.prog 185 #[.slice A l.length c] w fun e w'=>e=.returned (.tuple #[.bool false,.bool false])∧Below w.heap.size w w':=by
  have HPW:=Aside0.mk hpw
  have HC:=Aside0.mk hC
  have HLC:=Aside0.mk hlc
  have HPI:=Aside0.mk h1
  have HPO:=Aside0.mk h2
  clear hpw hC hlc h1 h2
  have HB:=Aside0.mk (Below.refl w.heap.size w)
  go_enter Tryz.func185,Tryz.ntmps185
  go_wp2_with (first|(go_at_call 104;refine (looks_calls _ (HPW.out.below HB.out)).mono ?_;rintro e w1 ⟨gm,A1,A2,c1,c2,rfl,hM,h1,h2,hb⟩;have MM:=Aside0.mk hM;have H1:=Aside0.mk h1;have H2:=Aside0.mk h2;replace HB:=bh HB hb;clear hM h1 h2 hb)|((with_reducible refine gate_dst (N:=8) rfl ?_);refine Kd.event_run rfl (run_lookup_op rfl rfl rfl (MM.out.look (bool_keyed Tryz.underlying4) Tryz.underlying158 (x:=.bool true) (v:=.slice A1 (nat8 lookI).length c1) (keyOf_bool_mk Tryz.underlying4 true) (by simp) (by intro p hp;simp only [List.mem_cons,List.not_mem_nil,or_false] at hp;rcases hp with rfl | rfl<;>simp))) ?_)|((with_reducible refine gate_dst (N:=12) rfl ?_);refine Kd.event_run rfl (run_lookup_op rfl rfl rfl (MM.out.look (bool_keyed Tryz.underlying4) Tryz.underlying158 (x:=.bool false) (v:=.slice A2 (nat8 lookO).length c2) (keyOf_bool_mk Tryz.underlying4 false) (by simp) (by intro p hp;simp only [List.mem_cons,List.not_mem_nil,or_false] at hp;rcases hp with rfl | rfl<;>simp))) ?_)|(go_at_call 28;(first|(have hz_:=HPI;clear hz_;refine (hasPrefix_calls A A1 c c1 l (nat8 lookI) _ (Kd.C_below HC.out HB.out) H1.out HLC.out).mono ?_;rintro e w2 ⟨rfl,hb⟩;rw [HPI.out];clear HPI)|(refine (hasPrefix_calls A A2 c c2 l (nat8 lookO) _ (Kd.C_below HC.out HB.out) H2.out HLC.out).mono ?_;rintro e w3 ⟨rfl,hb⟩;rw [HPO.out];clear HPO));have H1_:=Aside0.mk (Kd.C_below H1.out hb);have H2_:=Aside0.mk (Kd.C_below H2.out hb);have MM_:=Aside0.mk (MM.out.below hb);clear H1 H2 MM;have H1:=H1_;have H2:=H2_;have MM:=MM_;clear H1_ H2_ MM_;replace HB:=bh HB hb;clear hb))
  go_ret2
  exact ⟨rfl,HB.out⟩
theorem looked_calls (A:Option Addr) (n c:Nat) (w:World) (hlk:∀ W,Below w.heap.size w W→Calls Tryz.prog 185 #[.slice A n c] W fun e w'=>e=.returned (.tuple #[.bool false,.bool false])∧Below W.heap.size W w') :
    Calls Tryz.prog 126 #[.slice A n c] w fun e w'=>e=.returned (.tuple #[.agg #[.int .i64 3,.int .i64 0,.int .i64 0,.int .i64 0,.int .i64 0,.int .i64 0,.string ⟨#[]⟩,.int .i64 0,.int .i64 0,.int .i64 0,.int .i64 0,.int .i64 0,.bool false,.string ⟨#[]⟩,.int .i64 0,.int .u8 0,.slice none 0 0,.string ⟨#[]⟩,.int .u8 0,.string ⟨#[]⟩],.int .i64 3,.bool false])∧Below w.heap.size w w':=by
  have HLK:=Aside0.mk hlk
  clear hlk
  have HB:=Aside0.mk (Below.refl w.heap.size w)
  go_enter Tryz.func126,Tryz.ntmps126
  go_wp2_with (first|(refine bx 2 #[.int .i64 0,.int .i64 0,.int .i64 0,.int .i64 0,.int .i64 0,.int .i64 0,.string ⟨#[]⟩,.int .i64 0,.int .i64 0,.int .i64 0,.int .i64 0,.int .i64 0,.bool false,.string ⟨#[]⟩,.int .i64 0,.int .u8 0,.slice none 0 0,.string ⟨#[]⟩,.int .u8 0,.string ⟨#[]⟩] 58 (h:=?_);intro g2 hg w1 hbox hb;have HBo:=HB;replace HB:=bh HB hb;have B2:=Aside0.mk hbox;have q2:=cells20 B2.out;have G2:=gG HBo hg;clear hbox hb hg HBo)|(go_at_call 185;refine (HLK.out _ HB.out).mono ?_;rintro e w2 ⟨rfl,hb⟩;replace B2:=kb B2 hb;clear q2;have q2:=cells20 B2.out;replace HB:=bh HB hb;clear hb)|((with_reducible refine gate_store (t:=58) rfl ?_);refine sx 58 0 B2 (h:=?_);intro w3 hS hg;replace HB:=gb HB hg G2;clear B2 q2 hg;have B2:=hS;clear hS;have q2:=cells20 B2.out))
  refine bodyPost_ret (results_ctt rfl _ _ g2 58 _ (0,0) _ rfl B2.out Tryz.underlying58 rfl (by kernel_rfl)) rfl ?_
  exact ⟨rfl,HB.out⟩
end Go.Proofs.YthjacokachgmfaaGreatDoor.H
end
section
namespace Go.Proofs.YthjacokachgmfaaGreatDoor.H
open Go Go.RowKit
variable {F:Fence} {n:Nat} {P:Program} {α:Type}
def RoundX (id D n₀ b:Nat) (I Ix:List α→World→Prop) (xs:List α) (W:World):Exit→Act→World→Prop
  | .normal,_,W'=>KeepsFrom D W W'∧Keeps n₀ b W W'∧I xs W'
  | .exit k,_,W'=>k=id∧KeepsFrom D W W'∧Ix xs W'
  | _,_,_=>False
theorem yield_atX (id:Nat) {w:World} {n₀ b m:Nat} (hn:n₀≤w.heap.size) (hbw:b < w.heap.size) (r:Loop) (hready:r.state=.ready) (hnone:r.pending=none) (hfn:F.fn r.fn)
    {I Ix:List α→World→Prop} (hI:OwnFrom w.heap.size I) (hIx:OwnFrom w.heap.size Ix) {args:Array Value} (hsz:args.size=r.params.size)
    (pre xs:List α) (W:World) (hi:I pre W) (hb:Book w.heap.size r W) (a₁:Act)
    (hassign:∀ K:Act→World→Prop,K a₁ W→r.assign.wpIn (F.inRound (w.heap.size+1)) m P (Exit.then K (fun _ _ _=>False)) { tmps:=(r.params.zip args).foldl (fun t (p,v)=>t.setIfInBounds p v) r.tmps,defers:=[] } W)
    (hbody:∀ W,I pre W→r.body.wpIn (F.inRound (w.heap.size+1)) m P (RoundX id w.heap.size n₀ b I Ix xs W) a₁ W) :
    YieldAt F m P (w.heap.size+1) args W fun e W'=>(e=.returned (.bool true)∧(I xs W'∧Book w.heap.size r W')∧Keeps n₀ b W W')∨(e=.returned (.bool false)∧Ix xs W'∧Book w.heap.size { r with state:=.done,pending:=some (.exit id) } W'):=by
  refine ⟨r.fn,_,r.assign,r.body,run_yield hb.1 hsz,roundIn_of_wpIn hfn (hassign _ ⟨_,run_beginRound hb.1 hready,?_⟩)⟩
  have bb:Book w.heap.size { r with state:=.busy } (W.putObj (w.heap.size+1) (.loop { r with state:=.busy })):=hb.put
  have lb:=low_put hn hbw { r with state:=.busy } hb.1
  refine wpIn_mono (hbody _ (hI.putObj _ hi (by omega) hb.1 rfl)) ?_
  intro e a3 W3 hp
  match e,hp with
  | .normal,hp =>
    obtain ⟨hk,hbl,hi3⟩:=hp
    have b3:=bb.keep hk
    have er:({ r with state:=.ready,pending:=none }:Loop)=r:=by cases r;simp_all
    refine ⟨_,_,run_endRound none b3.1,.inl ⟨rfl,⟨hI.putObj _ hi3 (by omega) b3.1 rfl,?_⟩,(lb.trans hbl).trans (low_put hn hbw _ b3.1)⟩⟩
    have:=b3.put (r':={ r with state:=.ready,pending:=none })
    rw [er] at this
    rw [← er] at this ⊢
    exact this
  | .exit k,hp =>
    obtain ⟨rfl,hk,hi3⟩:=hp
    have b3:=bb.keep hk
    exact ⟨_,_,run_endRound (some (.exit _)) b3.1,.inr ⟨rfl,hIx.putObj _ hi3 (by omega) b3.1 rfl,b3.put⟩⟩
theorem range_cellX (id:Nat) {g:Operand} {ps:Array Tmp} {assign body:Code} {Q:Exit→Act→World→Prop} {a:Act} {w:World} {b n₀:Nat} (hbw:b < w.heap.size) (hn:n₀≤w.heap.size)
    (hro:F.round=none) (h1:1≤n) {gf:Nat} {lb:Array Value} (hg:a.eval g=.func (.func gf) #[] lb) (hFg:F.fn gf) (eg:∀ args w,(callFunc gf args).run P w=.ok (.enter gf args) w)
    {encs:α→Array Value} {all:List α} (hseq:∀ W,Below w.heap.size w W→SeqCell b n₀ F (n - 1) P gf lb encs all W) (hps:∀ x,(encs x).size=ps.size)
    (I Ix:List α→World→Prop) (hI:OwnFrom w.heap.size I) (hIx:OwnFrom w.heap.size Ix) (hIb:Bears b I) (hIxb:Bears b Ix) (h0:I [] w) (a₁:α→Act)
    (hassign:∀ (l:Nat) (x:α) (W:World) (K:Act→World→Prop),K (a₁ x) W →
      assign.wpIn (F.inRound l) (n - 1 - 1) P (Exit.then K (fun _ _ _=>False)) { tmps:=(ps.zip (encs x)).foldl (fun t (p,v)=>t.setIfInBounds p v) a.tmps,defers:=[] } W)
    (hbody:∀ (l:Nat) (pre:List α) (x:α) (W:World),I pre W→(pre++[x]) <+: all→body.wpIn (F.inRound l) (n - 1 - 1) P (RoundX id w.heap.size n₀ b I Ix (pre++[x]) W) (a₁ x) W)
    (hdone:∀ (D:Nat) (W:World),w.heap.size≤D→I all W→W.heap[D]?=some (.deferred (some []))→Q .normal { a with defers:={ target:=.collected D,args:=#[] } :: a.defers } W)
    (hstop:∀ (D:Nat) (pre:List α) (W:World),w.heap.size≤D→pre <+: all→Ix pre W→W.heap[D]?=some (.deferred (some []))→(Code.exit id).wpIn F n P Q { a with defers:={ target:=.collected D,args:=#[] } :: a.defers } W) :
    (Code.rangeFunc g ps assign body).wpIn F n P Q a w:=by
  refine wpIn_rangeFunc fun fn hfn=>?_
  rw [hro]
  generalize hr:({ state:=.ready,pending:=none,fn,tmps:=a.tmps,params:=ps,assign,body,defers:=w.heap.size }:Loop)=r
  generalize hW:(w.alloc (.deferred (some []))).alloc (.loop r)=W1
  have hB1:Book w.heap.size r W1:=hW ▸ Book.new w r
  have hI1:I [] W1:=hW ▸ hI.alloc _ (hI.alloc _ h0)
  have hlow:Below w.heap.size w W1:=hW ▸ (((Below.refl _ w).alloc (Nat.le_refl _) _).alloc (by simp) _)
  have hsz:w.heap.size≤W1.heap.size:=hlow.size
  have walkTo:∀ {A:World} {row:Option Nat},(∀ k,row=some k→W1.heap.size≤k∧∃ o:Obj,A.heap[k]?=some o∧o.isWalk=true)→(∀ k,row=some k→w.heap.size≤k∧∃ o:Obj,A.heap[k]?=some o∧o.isCells=false):=by
    intro A row h k e
    obtain ⟨hk,o,ho,hw⟩:=h k e
    exact ⟨Nat.le_trans hsz hk,o,ho,Obj.not_cells_of_walk hw⟩
  refine ⟨w.heap.size+1,[{ target:=.collected w.heap.size,args:=#[] }],W1,{ target:=.fn (.func gf) lb,args:=#[.func (.yield (w.heap.size+1)) #[] #[]] },W1,gf,#[.func (.yield (w.heap.size+1)) #[] #[]]++lb,W1,?_,?_,?_,?_,fun _=>h1,?_⟩
  · rw [← hW,← hr]
    exact run_enterLoop_outer _ _ _ _ _
  · simp only [resolve,hg]
    simp [go_sem]
  · intro f' hf'
    simp [Target.leads] at hf'
    exact hf' ▸ hFg
  · simp [invoke,go_sem,eg]
  have call:=hseq W1 hlow (w.heap.size+1) (fun pre W=>I pre W∧Book w.heap.size r W) (fun pre W=>Ix pre W∧Book w.heap.size { r with state:=.done,pending:=some (.exit id) } W)
    (fun s A B row h hgr hrow=>⟨hI s A B row h.1 hgr (walkTo hrow),h.2.walk hgr (fun k e=>(hrow k e).2)⟩)
    (fun s A B row h hgr hrow=>⟨hIx s A B row h.1 hgr (walkTo hrow),h.2.walk hgr (fun k e=>(hrow k e).2)⟩)
    (fun s W v h=>⟨hIb s W v h.1,h.2.cell hbw v⟩) (fun s W v h=>⟨hIxb s W v h.1,h.2.cell hbw v⟩)
    (fun pre x W h hpre=>by
      subst hr
      exact yield_atX id hn hbw _ rfl rfl hfn hI hIx (hps x) pre (pre++[x]) W h.1 h.2 (a₁ x) (hassign _ x W) (fun W hi=>hbody _ pre x W hi hpre))
    ⟨hI1,hB1⟩
  refine call.mono ?_
  rintro e W2 ⟨⟨v,rfl⟩,⟨hi,hb⟩ | ⟨pre,hpre,hi,hb⟩⟩
  · have hend:=run_endLoop (P:=P) hb.1 (by rw [← hr];simp)
    refine ⟨none,_,by rw [hend,← hr],?_⟩
    exact hdone _ _ (Nat.le_refl _) (hI.putObj _ hi (by omega) hb.1 rfl) ((World.putObj_heap_other (by omega)).trans hb.2)
  · have hend:=run_endLoop (P:=P) hb.1 (by simp)
    exact ⟨some (.exit id),_,hend,hstop _ pre _ (Nat.le_refl _) hpre (hIx.putObj _ hi (by omega) hb.1 rfl) ((World.putObj_heap_other (by omega)).trans hb.2)⟩
end Go.Proofs.YthjacokachgmfaaGreatDoor.H
end
section
namespace Go.Proofs.YthjacokachgmfaaGreatDoor.H
open Go Go.RowKit YthjacokachgmfaaGreatDoorW.PrintWords YthjacokachgmfaaGreatDoorW.PrintLast YthjacokachgmfaaGreatDoorW.PrintMore
open Ev
set_option maxRecDepth 100000
set_option maxHeartbeats 4000000 in
theorem bclone_calls (ad:Addr) (n c:Nat) (l:List Int) (w:World) (hC:Kd.C (Kd.int .u8) w (some ad) n l) (hl:n≤100000) :
    Calls Tryz.prog 239 #[.slice (some ad) n c] w fun e w'=>∃ v,e=.returned v∧Kd.R (Kd.int .u8) 5 w' w.heap.size (fun _=>True) v l∧Below w.heap.size w w':=by
  have qT:∀ (w:World) (a:Option Addr) (n c n' c':Nat),(binOp .eql 22 (.slice a n c) (.slice none n' c')).run Tryz.prog w=.ok (.bool a.isNone) w:=fun w a n c n' c'=>Lib.run_eql_slice_nil w _ _ a n c n' c' Tryz.underlying22
  have HC:=Aside0.mk hC
  have HL:=Aside0.mk hl
  clear hC hl
  have HE:=Aside0.mk (show Kd.R (Kd.int .u8) 5 (w.alloc (.cells #[] 5 (0,0))) w.heap.size (fun _=>True) (.slice (some ⟨w.heap.size,0,none⟩) 0 0) [] from Kd.R_of_own (enc:=Value.int .u8) (h1:=fun _=>rfl) (own_lit w w.heap.size 5 .u8 [] (Nat.le_refl _) (by simp)) (fun k hk=>trivial))
  go_enter Tryz.func239,Tryz.ntmps239
  go_wp2_with (first|((with_reducible refine gate_dst (N:=7) rfl ?_);refine Kd.R_append_rows (Kd.int .u8) (w0:=w) w.heap.size rfl (.tmp 5) (.tmp 6) 22 5 (.int .u8 0) 1 rfl Tryz.underlying22 info5 rfl (by decide) (by decide) (.slice (some ⟨w.heap.size,0,none⟩) 0 0) [] l (some ad) n c (fun _=>True) (fun _=>False) rfl rfl HE.out (Kd.C_below HC.out (below_alloc (Below.refl _ _) _)) (fun _ _ h=>h) (fun _ h=>h.elim) (fun _ _=>trivial) (below_alloc (Below.refl _ _) _) (by simp) (by have:=HL.out;simp;omega) ?_;intro v1 w1 ho hb hg hat;have HO:=Aside0.mk ho;have HB:=Aside0.mk hb;clear ho hb hg hat))
  go_ret
  exact ⟨_,rfl,HO.out,HB.out⟩
theorem ptake_f (A:Option Addr) (c:Nat) (l:List Int) (w:World) (hpw:Pow w) (hC:Kd.C (Kd.int .u8) w A l.length l) (hlc:l.length≤c) (hp:pfxB l (nat8 mk200)=false) :
    Calls Tryz.prog 184 #[.slice A l.length c] w fun e w'=>e=.returned (.tuple #[.slice none 0 0,.int .i64 0,.bool false])∧Below w.heap.size w w':=by
  have HC:=Aside0.mk hC
  have HLC:=Aside0.mk hlc
  have HPF:=Aside0.mk hp
  have HM:=Aside0.mk (by have h:=mark_R 200 w (by kernel_rfl) hpw;rw [csi200] at h;exact h)
  clear hpw hC hlc hp
  go_enter Tryz.func184,Tryz.ntmps184
  go_wp2_with (first|(go_at_call 107;refine HM.out.mono ?_;rintro e w1 ⟨v,rfl,hv,hb⟩;obtain ⟨A1,c1,rfl,_,hC1⟩:=Kd.R_reads hv;have HC1:=Aside0.mk hC1;have HB:=Aside0.mk hb;clear hv hb hC1)|(go_at_call 238;refine (cutPrefix_f A A1 c c1 l (nat8 mk200) _ (Kd.C_below HC.out HB.out) HC1.out HLC.out HPF.out).mono ?_;rintro e w2 ⟨rfl,hb⟩;have HB2:=Aside0.mk (below_step HB.out hb);clear hb))
  go_ret3
  exact ⟨rfl,HB2.out⟩
end Go.Proofs.YthjacokachgmfaaGreatDoor.H
end
section
namespace Go.Proofs.YthjacokachgmfaaGreatDoor.H
open Go Go.RowKit YthjacokachgmfaaGreatDoorW.PrintWords YthjacokachgmfaaGreatDoorW.PrintLast YthjacokachgmfaaGreatDoorW.PrintMore
open Ev
set_option maxRecDepth 100000
set_option maxHeartbeats 4000000 in
theorem pasted_calls (A:Option Addr) (n c:Nat) (L:List Int) (s:ByteArray) (k:Int) (is:Bool) (w:World) (hs:strOfNums L=s) (hpt:∀ W,Below w.heap.size w W→Calls Tryz.prog 184 #[.slice A n c] W fun e w'=>∃ v,e=.returned (.tuple #[v,.int .i64 k,.bool is])∧Kd.R (Kd.int .u8) 5 w' W.heap.size (fun _=>True) v L∧Below W.heap.size W w') :
    Calls Tryz.prog 125 #[.slice A n c] w fun e w'=>e=.returned (.tuple #[.agg #[.int .i64 4,.int .i64 0,.int .i64 0,.int .i64 0,.int .i64 0,.int .i64 0,.string ⟨#[]⟩,.int .i64 0,.int .i64 0,.int .i64 0,.int .i64 0,.int .i64 0,.bool false,.string s,.int .i64 0,.int .u8 0,.slice none 0 0,.string ⟨#[]⟩,.int .u8 0,.string ⟨#[]⟩],.int .i64 k,.bool is])∧Below w.heap.size w w':=by
  have HPT:=Aside0.mk hpt
  have HS:=Aside0.mk hs
  clear hpt hs
  have HB:=Aside0.mk (Below.refl w.heap.size w)
  go_enter Tryz.func125,Tryz.ntmps125
  go_wp2_with (first|(refine bx 2 #[.int .i64 0,.int .i64 0,.int .i64 0,.int .i64 0,.int .i64 0,.int .i64 0,.string ⟨#[]⟩,.int .i64 0,.int .i64 0,.int .i64 0,.int .i64 0,.int .i64 0,.bool false,.string ⟨#[]⟩,.int .i64 0,.int .u8 0,.slice none 0 0,.string ⟨#[]⟩,.int .u8 0,.string ⟨#[]⟩] 58 (h:=?_);intro g2 hg w1 hbox hb;have HBo:=HB;replace HB:=bh HB hb;have B2:=Aside0.mk hbox;have q2:=cells20 B2.out;have G2:=gG HBo hg;clear hbox hb hg HBo)|(go_at_call 184;refine (HPT.out _ HB.out).mono ?_;rintro e w2 ⟨v,rfl,hR,hb⟩;replace B2:=kb B2 hb;clear q2;have q2:=cells20 B2.out;replace HB:=bh HB hb;clear hb;obtain ⟨A1,c1,rfl⟩:=Kd.R_slice hR;have hcv:=Kd.C_string (c:=c1) Tryz.underlying22 Tryz.underlying5 Tryz.underlying9 (Kd.R_reads' hR).2.2;rw [HS.out] at hcv;clear hR)|((with_reducible refine gate_store (t:=58) rfl ?_);refine sx 58 0 B2 (h:=?_);intro w3 hS hg;replace HB:=gb HB hg G2;clear B2 q2 hg;have B2:=hS;clear hS;have q2:=cells20 B2.out))
  refine bodyPost_ret (results_ctt rfl _ _ g2 58 _ (0,0) _ rfl B2.out Tryz.underlying58 rfl (by kernel_rfl)) rfl ?_
  exact ⟨rfl,HB.out⟩
end Go.Proofs.YthjacokachgmfaaGreatDoor.H
end
section
namespace Go.Proofs.YthjacokachgmfaaGreatDoor.H
open Go Go.RowKit YthjacokachgmfaaGreatDoorW.PrintWords YthjacokachgmfaaGreatDoorW.PrintLast YthjacokachgmfaaGreatDoorW.PrintMore
open Ev
set_option maxRecDepth 100000
theorem oper_wide {P:Program} {n:Nat} {Q:Exit→Act→World→Prop} {o:Oper} {a:Act} {w:World} {K K':Act→World→Prop} (hK:∀ a w,K a w→K' a w) (h:o.wp P a w K Q):o.wpIn Fence.wide n P a w K' Q:=by
  unfold Oper.wp at h
  refine ⟨fun _ _=>trivial,?_⟩
  rw [Fence.wide_round,Oper.semAt_none]
  generalize (execOp a.eval o).run P w=r at *
  cases r with
  | ok x w' =>
    cases x with
    | enter f args=>exact ⟨fun h=>by simp [Fence.wide] at h,callsIn_wide.2 (h.mono (fun e w2 he=>by cases e<;>first | exact hK _ _ he | exact he))⟩
    | row r args=>exact ⟨fun h=>by simp [Fence.wide] at h,fun c cs _=>let ⟨v,w',r,s⟩:=(Rows.mono h (fun _ _ he=>hK _ _ he)) c cs;⟨v,w',r,stepsIn_wide.2 s⟩⟩
    | value v=>exact hK _ _ h
    | skip=>exact hK _ _ h
    | defer d=>exact hK _ _ h
    | _=>exact False.elim h
  | halt x w'=>cases x<;>exact h
section
variable {P:Program} {n:Nat} {Q:Exit→Act→World→Prop} {ops:Array Oper} {rest:List Oper} {o:Oper} {a:Act} {W:World}
theorem listIn_wide (hg:o.guard=none) (h:∀ Kc:Act→World→Prop,(∀ a' w',wpListIn Fence.wide n P ops Q rest a' w'→Kc a' w')→if Region.wanted o (yielded ops a.tmps)=true then Oper.wp P o a W Kc Q else False):wpListIn Fence.wide n P ops Q (o :: rest) a W:=by
  refine wpListIn_plain hg fun K hK=>?_
  have h1:=h K hK
  rw [if_pos (by simp [Region.wanted,hg])] at h1
  exact oper_wide (fun _ _ h=>h) h1
theorem gi_gate_dst {N:Tmp} (_hN:o.dst=some N) (h:wpListIn Fence.wide n P ops Q (o :: rest) a W):wpListIn Fence.wide n P ops Q (o :: rest) a W:=h
theorem gi_gate_store {t:TypeId} {p x:Operand} (_ho:o.op=.store t p x) (h:wpListIn Fence.wide n P ops Q (o :: rest) a W):wpListIn Fence.wide n P ops Q (o :: rest) a W:=h
theorem load_evIn (hgd:o.guard=none) (T:TypeId) (x:Operand) (ho:o.op=.load T x) (g off:Nat) (hx:a.eval x=.pointer (some ⟨g,off,none⟩)) {cs:Array Value} {t:TypeId} (hb:W.heap[g]?=some (.cells cs t (0,0)))
    (seg:List Value) (hs:(cs.toList.drop off).take seg.length=seg) (d:TypeDesc) (hu:P.underlying T=some d) (hd:d.isRow=true) (hi:(P.info? T).map (·.size)=some seg.length)
    (h:wpListIn Fence.wide n P ops Q rest (a.put o.dst (.agg seg.toArray)) W):wpListIn Fence.wide n P ops Q (o :: rest) a W :=
  listIn_wide hgd fun Kc hKc=>by
    rw [if_pos (by simp [Region.wanted,hgd])]
    unfold Oper.wp
    rw [load_run T x ho g off hx hb seg hs d hu hd hi]
    exact hKc _ _ h
end
abbrev it0:Value:=.agg #[.int .i64 1,.int .i64 97,.int .i64 0,.int .i64 1,.int .i64 0,.int .i64 0,.string ⟨#[]⟩,.int .i64 0,.int .i64 0,.int .i64 0,.int .i64 0,.int .i64 0,.bool false,.string ⟨#[]⟩,.int .i64 0,.int .u8 0,.slice none 0 0,.string ⟨#[]⟩,.int .u8 0,.string ⟨#[]⟩]
abbrev it1 (sp:ByteArray):Value:=.agg #[.int .i64 4,.int .i64 0,.int .i64 0,.int .i64 0,.int .i64 0,.int .i64 0,.string ⟨#[]⟩,.int .i64 0,.int .i64 0,.int .i64 0,.int .i64 0,.int .i64 0,.bool false,.string sp,.int .i64 0,.int .u8 0,.slice none 0 0,.string ⟨#[]⟩,.int .u8 0,.string ⟨#[]⟩]
theorem items_calls (A:Option Addr) (n c:Nat) (w:World):Calls Tryz.prog 45 #[.slice A n c] w fun e w'=>∃ g:Nat,e=.returned (.func (.func 82) #[] #[.pointer (some ⟨g,0,none⟩)])∧w'.heap[g]?=some (.cells #[.slice A n c] 22 (0,0))∧w.heap.size≤g∧Below w.heap.size w w':=by
  go_enter Tryz.func45,Tryz.ntmps45
  go_wp2
  go_ret
  exact ⟨_,rfl,blk_new w _,Nat.le_refl _,below_alloc (Below.refl _ _) _⟩
set_option maxHeartbeats 8000000 in
theorem items_seq (w:World) (n:Nat) (hn:3≤n) (b:Nat) (A0 A1 A2:Option Addr) (c0 c1 c2:Nat) (sp:ByteArray) (ho0:∀ W,Below w.heap.size w W→Calls Tryz.prog 83 #[.slice A0 23 c0] W fun e w'=>e=.returned (.tuple #[.agg #[.int .i64 1,.int .i64 97,.int .i64 0,.int .i64 1,.int .i64 0,.int .i64 0,.string ⟨#[]⟩,.int .i64 0,.int .i64 0,.int .i64 0,.int .i64 0,.int .i64 0,.bool false,.string ⟨#[]⟩,.int .i64 0,.int .u8 0,.slice none 0 0,.string ⟨#[]⟩,.int .u8 0,.string ⟨#[]⟩],.int .i64 5,.bool true])∧Below W.heap.size W w') (ho1:∀ W,Below w.heap.size w W→Calls Tryz.prog 83 #[.slice A1 18 c1] W fun e w'=>e=.returned (.tuple #[.agg #[.int .i64 4,.int .i64 0,.int .i64 0,.int .i64 0,.int .i64 0,.int .i64 0,.string ⟨#[]⟩,.int .i64 0,.int .i64 0,.int .i64 0,.int .i64 0,.int .i64 0,.bool false,.string sp,.int .i64 0,.int .u8 0,.slice none 0 0,.string ⟨#[]⟩,.int .u8 0,.string ⟨#[]⟩],.int .i64 18,.bool true])∧Below W.heap.size W w')
    (hc0:∀ W:World,(Instr.slice 22 (.slice A0 23 c0) (some (.int .i64 5)) none none).run Tryz.prog W=.ok (.slice A1 18 c1) W) (hc1:∀ W:World,(Instr.slice 22 (.slice A1 18 c1) (some (.int .i64 18)) none none).run Tryz.prog W=.ok (.slice A2 0 c2) W) (hb:w.heap.size≤b) (wr0:World) (hW:Below w.heap.size w wr0)
    (hcell:wr0.heap[b]?=some (.cells #[.slice A0 23 c0] 22 (0,0))):SeqCell b w.heap.size Fence.wide n Tryz.prog 82 #[.pointer (some ⟨b,0,none⟩)] encV [(it0,true),(it1 sp,true)] wr0:=by
  intro l J Jx hJ hJx hJb hJxb hY h0
  have HO0:=Aside0.mk ho0
  have HO1:=Aside0.mk ho1
  have HW:=Aside0.mk hW
  have HJ:=Aside0.mk h0
  have HP0:=Aside0.mk (show ([(it0,true)]:List (Value × Bool)) <+: [(it0,true),(it1 sp,true)] from ⟨[(it1 sp,true)],rfl⟩)
  have HP1:=Aside0.mk (show ([(it0,true),(it1 sp,true)]:List (Value × Bool)) <+: [(it0,true),(it1 sp,true)] from List.prefix_refl _)
  have Bb:=Aside0.mk hcell
  clear ho0 ho1 hW h0 hcell
  have qb_0:=cells1 Bb.out
  refine callsIn_of_wp Tryz.func82 rfl trivial ?_ rfl
  simp only [Tryz.ntmps82,List.size_toArray,List.length_cons,List.length_nil,Nat.reduceAdd,Nat.reduceSub,Array.replicate_succ,Array.replicate_zero,List.push_toArray,List.append_toArray,List.nil_append,List.cons_append]
  gi_wp2
  refine wpIn_loop_rounds 3 ?_
  have HB:=Aside0.mk (Below.refl wr0.heap.size wr0)
  rw [roundsIn_succ]
  gi_wp2_with (first|(refine ⟨trivial,fun _=>by omega,?_⟩;gi_at_call 83;refine (callsIn_wide.2 (HO0.out _ (below_step HW.out HB.out))).mono ?_;rintro e wa0 ⟨rfl,hb⟩;replace Bb:=kb Bb hb;clear qb_0;have qb_0:=cells1 Bb.out;replace HB:=bh HB hb;clear hb)|((with_reducible refine gi_gate_dst (N:=3) rfl ?_);refine listIn_wide rfl fun Kc hKc=>?_;refine box_step 3 (by rfl) (by rfl) (cs:=#[.int .i64 0,.int .i64 0,.int .i64 0,.int .i64 0,.int .i64 0,.int .i64 0,.string ⟨#[]⟩,.int .i64 0,.int .i64 0,.int .i64 0,.int .i64 0,.int .i64 0,.bool false,.string ⟨#[]⟩,.int .i64 0,.int .u8 0,.slice none 0 0,.string ⟨#[]⟩,.int .u8 0,.string ⟨#[]⟩]) (t:=58) (by first|(go_simp;done)|(go_simp;rfl)) ?_;intro g3 hg wb0 hbox hb;have HBo:=HB;replace Bb:=kb Bb hb;clear qb_0;have qb_0:=cells1 Bb.out;replace HB:=bh HB hb;have B3:=Aside0.mk hbox;have q3:=cells20 B3.out;have G3:=gG HBo hg;clear hbox hb hg HBo;refine hKc _ _ ?_;clear hKc Kc)|((with_reducible refine gi_gate_store (t:=58) rfl ?_);refine listIn_wide rfl fun Kc hKc=>?_;refine store_step (by rfl) (by rfl) 58 _ _ (by rfl) g3 0 58 _ B3.out (by rfl) _ (by rfl) [.int .i64 1,.int .i64 97,.int .i64 0,.int .i64 1,.int .i64 0,.int .i64 0,.string ⟨#[]⟩,.int .i64 0,.int .i64 0,.int .i64 0,.int .i64 0,.int .i64 0,.bool false,.string ⟨#[]⟩,.int .i64 0,.int .u8 0,.slice none 0 0,.string ⟨#[]⟩,.int .u8 0,.string ⟨#[]⟩] rfl (by kernel_rfl) (by show 0+20≤20;decide) (by simp [Value.oneCell']) #[.int .i64 1,.int .i64 97,.int .i64 0,.int .i64 1,.int .i64 0,.int .i64 0,.string ⟨#[]⟩,.int .i64 0,.int .i64 0,.int .i64 0,.int .i64 0,.int .i64 0,.bool false,.string ⟨#[]⟩,.int .i64 0,.int .u8 0,.slice none 0 0,.string ⟨#[]⟩,.int .u8 0,.string ⟨#[]⟩] rfl ?_;intro wc0 hS hg;replace Bb:=gnx Bb hg B3;clear qb_0;have qb_0:=cells1 Bb.out;replace HB:=gb HB hg G3;clear B3 q3 hg;have B3:=Aside0.mk hS;clear hS;have q3:=cells20 B3.out;obtain ⟨fn,tmps,assign,body,hy,hR⟩:=hY [] (it0,true) wc0 (hJ [] wr0 wc0 none HJ.out (grown_of_below1 HB.out) (fun _ e=>by cases e)) HP0.out;dsimp only [encV] at hy;clear q3;refine hKc _ _ ?_;clear hKc Kc)|((with_reducible refine gi_gate_dst (N:=16) rfl ?_);refine load_evIn rfl 58 _ rfl g3 0 rfl B3.out [.int .i64 1,.int .i64 97,.int .i64 0,.int .i64 1,.int .i64 0,.int .i64 0,.string ⟨#[]⟩,.int .i64 0,.int .i64 0,.int .i64 0,.int .i64 0,.int .i64 0,.bool false,.string ⟨#[]⟩,.int .i64 0,.int .u8 0,.slice none 0 0,.string ⟨#[]⟩,.int .u8 0,.string ⟨#[]⟩] rfl _ Tryz.underlying58 rfl (by kernel_rfl) ?_))
  refine ⟨fun _=>by omega,hR.mono ?_⟩
  clear hR hy fn tmps assign body
  rintro e wd0 h3
  obtain ⟨rfl,hJ3,hk3⟩ | ⟨rfl,hx3⟩:=h3
  rotate_left
  · gi_wp2
    refine bodyPost_ret (results_none rfl _ _ _) rfl ?_
    exact ⟨⟨_,rfl⟩,.inr ⟨_,HP0.out,hx3⟩⟩
  have Bb3:=Aside0.mk (hk3.cell.trans Bb.out)
  have HW3:=Aside0.mk ((below_step HW.out HB.out).trans hk3.low)
  have HJ3:=Aside0.mk hJ3
  clear Bb qb_0 B3 HB HW HJ G3 hJ3 hk3
  have qb_0:=cells1 Bb3.out
  have fb:=blk_frozen Bb3.out 0
  have hltb:=blk_lt Bb3.out
  gi_wp2
  have Bb:=Aside0.mk (blk_put Bb3.out 0 (.slice A1 18 c1) rfl)
  have HW:=Aside0.mk (below_set (g:=b) (j:=0) (v:=.slice A1 18 c1) HW3.out hb)
  have HJ:=Aside0.mk (hJb _ _ (.slice A1 18 c1) HJ3.out)
  clear Bb3 HW3 HJ3 qb_0 fb hltb
  generalize wd0.setCell ⟨b,0,none⟩ (.slice A1 18 c1)=wr1 at *
  have qb_0:=cells1 Bb.out
  have HB:=Aside0.mk (Below.refl wr1.heap.size wr1)
  rw [roundsIn_succ]
  gi_wp2_with (first|(refine ⟨trivial,fun _=>by omega,?_⟩;gi_at_call 83;refine (callsIn_wide.2 (HO1.out _ (below_step HW.out HB.out))).mono ?_;rintro e wa1 ⟨rfl,hb⟩;replace Bb:=kb Bb hb;clear qb_0;have qb_0:=cells1 Bb.out;replace HB:=bh HB hb;clear hb)|((with_reducible refine gi_gate_dst (N:=3) rfl ?_);refine listIn_wide rfl fun Kc hKc=>?_;refine box_step 3 (by rfl) (by rfl) (cs:=#[.int .i64 0,.int .i64 0,.int .i64 0,.int .i64 0,.int .i64 0,.int .i64 0,.string ⟨#[]⟩,.int .i64 0,.int .i64 0,.int .i64 0,.int .i64 0,.int .i64 0,.bool false,.string ⟨#[]⟩,.int .i64 0,.int .u8 0,.slice none 0 0,.string ⟨#[]⟩,.int .u8 0,.string ⟨#[]⟩]) (t:=58) (by first|(go_simp;done)|(go_simp;rfl)) ?_;intro g3 hg wb1 hbox hb;have HBo:=HB;replace Bb:=kb Bb hb;clear qb_0;have qb_0:=cells1 Bb.out;replace HB:=bh HB hb;have B3:=Aside0.mk hbox;have q3:=cells20 B3.out;have G3:=gG HBo hg;clear hbox hb hg HBo;refine hKc _ _ ?_;clear hKc Kc)|((with_reducible refine gi_gate_store (t:=58) rfl ?_);refine listIn_wide rfl fun Kc hKc=>?_;refine store_step (by rfl) (by rfl) 58 _ _ (by rfl) g3 0 58 _ B3.out (by rfl) _ (by rfl) [.int .i64 4,.int .i64 0,.int .i64 0,.int .i64 0,.int .i64 0,.int .i64 0,.string ⟨#[]⟩,.int .i64 0,.int .i64 0,.int .i64 0,.int .i64 0,.int .i64 0,.bool false,.string sp,.int .i64 0,.int .u8 0,.slice none 0 0,.string ⟨#[]⟩,.int .u8 0,.string ⟨#[]⟩] rfl (by kernel_rfl) (by show 0+20≤20;decide) (by simp [Value.oneCell']) #[.int .i64 4,.int .i64 0,.int .i64 0,.int .i64 0,.int .i64 0,.int .i64 0,.string ⟨#[]⟩,.int .i64 0,.int .i64 0,.int .i64 0,.int .i64 0,.int .i64 0,.bool false,.string sp,.int .i64 0,.int .u8 0,.slice none 0 0,.string ⟨#[]⟩,.int .u8 0,.string ⟨#[]⟩] rfl ?_;intro wc1 hS hg;replace Bb:=gnx Bb hg B3;clear qb_0;have qb_0:=cells1 Bb.out;replace HB:=gb HB hg G3;clear B3 q3 hg;have B3:=Aside0.mk hS;clear hS;have q3:=cells20 B3.out;obtain ⟨fn,tmps,assign,body,hy,hR⟩:=hY [(it0,true)] (it1 sp,true) wc1 (hJ [(it0,true)] wr1 wc1 none HJ.out (grown_of_below1 HB.out) (fun _ e=>by cases e)) HP1.out;dsimp only [encV] at hy;clear q3;refine hKc _ _ ?_;clear hKc Kc)|((with_reducible refine gi_gate_dst (N:=16) rfl ?_);refine load_evIn rfl 58 _ rfl g3 0 rfl B3.out [.int .i64 4,.int .i64 0,.int .i64 0,.int .i64 0,.int .i64 0,.int .i64 0,.string ⟨#[]⟩,.int .i64 0,.int .i64 0,.int .i64 0,.int .i64 0,.int .i64 0,.bool false,.string sp,.int .i64 0,.int .u8 0,.slice none 0 0,.string ⟨#[]⟩,.int .u8 0,.string ⟨#[]⟩] rfl _ Tryz.underlying58 rfl (by kernel_rfl) ?_))
  refine ⟨fun _=>by omega,hR.mono ?_⟩
  clear hR hy fn tmps assign body
  rintro e wd1 h3
  obtain ⟨rfl,hJ3,hk3⟩ | ⟨rfl,hx3⟩:=h3
  rotate_left
  · gi_wp2
    refine bodyPost_ret (results_none rfl _ _ _) rfl ?_
    exact ⟨⟨_,rfl⟩,.inr ⟨_,HP1.out,hx3⟩⟩
  have Bb3:=Aside0.mk (hk3.cell.trans Bb.out)
  have HW3:=Aside0.mk ((below_step HW.out HB.out).trans hk3.low)
  have HJ3:=Aside0.mk hJ3
  clear Bb qb_0 B3 HB HW HJ G3 hJ3 hk3
  have qb_0:=cells1 Bb3.out
  have fb:=blk_frozen Bb3.out 0
  have hltb:=blk_lt Bb3.out
  gi_wp2
  have Bb:=Aside0.mk (blk_put Bb3.out 0 (.slice A2 0 c2) rfl)
  have HW:=Aside0.mk (below_set (g:=b) (j:=0) (v:=.slice A2 0 c2) HW3.out hb)
  have HJ:=Aside0.mk (hJb _ _ (.slice A2 0 c2) HJ3.out)
  clear Bb3 HW3 HJ3 qb_0 fb hltb
  generalize wd1.setCell ⟨b,0,none⟩ (.slice A2 0 c2)=wr2 at *
  have qb_0:=cells1 Bb.out
  rw [roundsIn_succ]
  gi_wp2
  go_end0
  exact ⟨⟨_,rfl⟩,.inl HJ.out⟩
end Go.Proofs.YthjacokachgmfaaGreatDoor.H
end
