import Derived.Test.YthjacokachgmfaaGreatDoorProg
import Derived.WalkKit
import Derived.WalkLawsBesides
import Derived.WalkSpells
import Derived.Below
import Derived.Maps.Own
import Derived.Deep.Draws
import Derived.Deep.AppendLies
import Derived.Maps.AppendAt
import Derived.OwnWalk
import Derived.Laws.BytesArg
import Derived.Laws.MakeOwn
import Derived.Laws.OwnMore
import Derived.Deep.OwnRows
import Derived.Tactics
import Derived.Lib.ConvBytes
import Derived.Laws.Slices
import Derived.KernelRfl
import Derived.RowKit3
import Derived.Deep.LoopGhost
import Derived.Deep.QuietTactic
import Derived.BigQuiet
import Derived.WideLaws
import Derived.Deep.DeepCutAuto
import Derived.Deep.CutBlock
import Derived.Deep.RegionHeld3
import Derived.Laws.Rows
import Derived.Lib.AppendStr
import Derived.ArgAppend
import Derived.Laws.IdiomCopy
import Derived.OrdersHeld
import Derived.Laws.BitsLemmas
import Derived.RowKit
import Derived.Test.YthjacokachgmfaaGreatDoorT01
import Derived.Test.YthjacokachgmfaaGreatDoorT02
import Derived.Test.YthjacokachgmfaaGreatDoorT03
import Derived.Test.YthjacokachgmfaaGreatDoorT04
import Derived.Test.YthjacokachgmfaaGreatDoorT07
import Derived.Test.YthjacokachgmfaaGreatDoorT08
import Derived.Test.YthjacokachgmfaaGreatDoorT09
import Derived.Test.YthjacokachgmfaaGreatDoorT10
import Derived.Test.YthjacokachgmfaaGreatDoorT11
import Derived.Test.YthjacokachgmfaaGreatDoorT15
import Derived.Test.YthjacokachgmfaaGreatDoorT16
import Derived.Test.YthjacokachgmfaaGreatDoorT17
import Derived.Test.YthjacokachgmfaaGreatDoorT19
import Derived.Test.YthjacokachgmfaaGreatDoorT26
set_option linter.unusedVariables false
set_option linter.unusedSimpArgs false
section
namespace Go.Proofs.YthjacokachgmfaaGreatDoor.H
open Go Go.RowKit YthjacokachgmfaaGreatDoorW.PrintWords YthjacokachgmfaaGreatDoorW.PrintLast YthjacokachgmfaaGreatDoorW.PrintMore
open Ev
set_option maxRecDepth 100000
theorem rest_calls (g:Nat) (A:Option Addr) (c:Nat) (l:List Int) (k:Nat) (kind priv fin:Int) (ps:Value) (inter data:ByteArray) (w0 w:World) (hC:Kd.C (Kd.int .u8) w0 A l.length l) (hl:l.length≤1000000) (hB:Below w0.heap.size w0 w) (hg:w0.heap.size≤g) (hb:w.heap[g]?=some (.cells #[.slice A l.length c,.int .i64 (k:Int),.int .i64 kind,.int .u8 priv,ps,.string inter,.int .u8 fin,.string data] 80 (0,0))) (hc:l.length≤c) (n:Int) (hn:l[k]?=some n) (hn2:n < 32∨47 < n) :
    Calls Tryz.prog 60 #[.pointer (some ⟨g,0,none⟩)] w fun e w'=>e=.returned (.tuple #[])∧w'.heap[g]?=some (.cells #[.slice A l.length c,.int .i64 ((k+1:Nat):Int),.int .i64 kind,.int .u8 priv,ps,.string ⟨#[]⟩,.int .u8 n,.string data] 80 (0,0))∧Below w0.heap.size w0 w'∧Kept w w' (fun k=>k=g):=by
  have HC:=Aside0.mk hC
  have HL:=Aside0.mk hl
  have HB:=Aside0.mk hB
  have Gr:=Aside0.mk hg
  have Br:=Aside0.mk hb
  have HLC:=Aside0.mk hc
  have HN:=Aside0.mk hn
  have HN2:=Aside0.mk hn2
  have HK:Aside0 (Kept w w (fun k=>k=g)):=⟨Kept.refl _ _⟩
  have ET:=Aside0.mk (show strOfNums ((l.drop k).take 0)=⟨#[]⟩ by rw [List.take_zero];rfl)
  clear hC hl hB hg hb hc hn hn2
  have qr:=cells8 Br.out
  go_enter Tryz.func60,Tryz.ntmps60
  go_wp2_with (first|(go_at_call 61;refine (run_calls g A c l k kind priv fin ps inter data w0 _ HC.out HL.out HB.out Gr.out Br.out HLC.out 32 47 0 (fun j x hj=>by omega) n HN.out HN2.out).mono ?_;rintro e w1 ⟨rfl,hbr,hb,hk⟩;have HK_:=Aside0.mk (Kept.then_ HK.out hk (fun _ h=>.inl h));clear Br HB HK qr;have HK:=HK_;clear HK_;have Br:=Aside0.mk hbr;have HB:=Aside0.mk hb;clear hbr hb hk;have qr:=cells8 Br.out;rw [ET.out])|((with_reducible refine gate_store (t:=9) rfl ?_);refine sx 9 5 Br (h:=?_);intro w2 hS hg;replace HB:=gb HB hg Gr;replace HK:=Aside0.mk (Kept.of_grown hg HK.out (fun k hk=>.inl (by injection hk with hk;exact hk.symm)));clear Br qr hg;have Br:=hS;clear hS;have qr:=cells8 Br.out)|(go_at_call 57;refine (next_calls g A c l k kind priv fin ps ⟨#[]⟩ data w0 _ HC.out HL.out HB.out Gr.out Br.out n HN.out).mono ?_;rintro e w3 ⟨rfl,hbr,hb,hk⟩;have HK_:=Aside0.mk (Kept.then_ HK.out hk (fun _ h=>.inl h));clear Br HB HK qr;have HK:=HK_;clear HK_;have Br:=Aside0.mk hbr;have HB:=Aside0.mk hb;clear hbr hb hk;have qr:=cells8 Br.out)|((with_reducible refine gate_store (t:=5) rfl ?_);refine sx 5 6 Br (h:=?_);intro w4 hS hg;replace HB:=gb HB hg Gr;replace HK:=Aside0.mk (Kept.of_grown hg HK.out (fun k hk=>.inl (by injection hk with hk;exact hk.symm)));clear Br qr hg;have Br:=hS;clear hS;have qr:=cells8 Br.out))
  go_end0
  exact ⟨rfl,Br.out,HB.out,HK.out⟩
theorem R_keptG {w w':World} {base g:Nat} {ok:Nat→Prop} {v:Value} {xs:List (List Int)} {cs:Array Value} (h:kli.R 66 w base ok v xs) (hk:Kept w w' (fun k=>k=g)) (hb:w.heap[g]?=some (.cells cs 80 (0,0))):kli.R 66 w' base ok v xs :=
  Kd.R_mono (Kd.R_step (Kd.R_bound h) (fun k hk1 hlt=>hk.2 k hlt (fun e=>by
    obtain ⟨_,_,_,q,hq,cells,hc⟩:=hk1
    subst e
    rw [hb] at hc
    injection hc with hc
    injection hc with _ e
    have hq':q∈[66,3]:=hq
    rw [← e] at hq'
    exact absurd hq' (by decide)))) (fun _ h=>h.1)
structure KeyHead (l:List Int) (m:Nat) (p y:Int) (T:List Int):Prop where
  h27:l[0]?=some 27
  h91:l[1]?=some 91
  hp:l[2]?=some p
  p60:p < 60
  hT:(l.drop 2).take m=T
  hTl:1≤T.length∧T.length≤1000
  hTd:∀ c∈T,48≤c∧c≤57
  hm:∀ j x,j < m→l[2+j]?=some x→48≤x∧x≤59
  hy:l[2+m]?=some y
  y59:59 < y
theorem read_calls (g:Nat) (A:Option Addr) (c:Nat) (l:List Int) (m:Nat) (p y:Int) (T:List Int) (w0 w:World) (hC:Kd.C (Kd.int .u8) w0 A l.length l) (hl:l.length≤1000000) (hB:Below w0.heap.size w0 w) (hg:w0.heap.size≤g) (hb:w.heap[g]?=some (.cells #[.slice A l.length c,.int .i64 0,.int .i64 0,.int .u8 0,.slice none 0 0,.string ⟨#[]⟩,.int .u8 0,.string ⟨#[]⟩] 80 (0,0))) (hc:l.length≤c) (h:KeyHead l m p y T) :
    Calls Tryz.prog 26 #[.pointer (some ⟨g,0,none⟩)] w fun e w'=>e=.returned (.tuple #[])∧∃ v,w'.heap[g]?=some (.cells #[.slice A l.length c,.int .i64 ((2+m+1:Nat):Int),.int .i64 1,.int .u8 0,v,.string ⟨#[]⟩,.int .u8 y,.string ⟨#[]⟩] 80 (0,0))∧kli.R 66 w' w0.heap.size (fun _=>True) v [[takeV T]]∧Below w0.heap.size w0 w'∧Kept w w' (fun k=>k=g):=by
  have HC:=Aside0.mk hC
  have HL:=Aside0.mk hl
  have HB:=Aside0.mk hB
  have Gr:=Aside0.mk hg
  have Br:=Aside0.mk hb
  have HLC:=Aside0.mk hc
  have H27:=Aside0.mk h.h27
  have H91:=Aside0.mk h.h91
  have HPK:=Aside0.mk h.hp
  have HP:=Aside0.mk h.p60
  have HT:=Aside0.mk h.hT
  have HTL:=Aside0.mk h.hTl
  have HTD:=Aside0.mk h.hTd
  have HM:=Aside0.mk h.hm
  have HY:=Aside0.mk h.hy
  have HY2:=Aside0.mk h.y59
  have HY3:=Aside0.mk (show 47 < y by have:=h.y59;omega)
  have HK:Aside0 (Kept w w (fun k=>k=g)):=⟨Kept.refl _ _⟩
  clear hC hl hB hg hb hc h
  have qr:=cells8 Br.out
  go_enter Tryz.func26,Tryz.ntmps26
  go_wp2_with (first|(go_at_call 57;refine (next_calls g A c l 0 0 0 0 (.slice none 0 0) ⟨#[]⟩ ⟨#[]⟩ w0 _ HC.out HL.out HB.out Gr.out Br.out 27 H27.out).mono ?_;rintro e w1 ⟨rfl,hbr,hb,hk⟩;have HK_:=Aside0.mk (Kept.then_ HK.out hk (fun _ h=>.inl h));clear Br HB HK qr;have HK:=HK_;clear HK_;have Br:=Aside0.mk (show w1.heap[g]?=some (.cells #[.slice A l.length c,.int .i64 1,.int .i64 0,.int .u8 0,.slice none 0 0,.string ⟨#[]⟩,.int .u8 0,.string ⟨#[]⟩] 80 (0,0)) from hbr);have HB:=Aside0.mk hb;clear hbr hb hk;have qr:=cells8 Br.out)|(go_at_call 58;refine (peek_calls g A c l 1 0 0 0 (.slice none 0 0) ⟨#[]⟩ ⟨#[]⟩ w0 _ HC.out HL.out HB.out Gr.out Br.out 91 H91.out).mono ?_;rintro e w2 ⟨rfl,hb⟩;replace Br:=kb Br hb;clear qr;have qr:=cells8 Br.out;replace HB:=bh HB hb;replace HK:=Aside0.mk (by first | exact Kept.below HK.out hb | exact Kept.below (Kept.below HK.out (below_drew1 (Below.refl _ _))) hb);clear hb)|((with_reducible refine gate_ (.store 3 (.tmp 22) (.const (.int .i64 1))) rfl ?_);refine store_ev rfl rfl 3 _ _ rfl g 2 80 _ Br.out rfl _ rfl [.int .i64 1] rfl (by kernel_rfl) (by show 2+1≤8;decide) (by simp [Value.oneCell']) #[.slice A l.length c,.int .i64 1,.int .i64 1,.int .u8 0,.slice none 0 0,.string ⟨#[]⟩,.int .u8 0,.string ⟨#[]⟩] rfl ?_;intro w3 hS hg;replace HB:=gb HB hg Gr;replace HK:=Aside0.mk (Kept.of_grown hg HK.out (fun k hk=>.inl (by injection hk with hk;exact hk.symm)));clear Br qr hg;have Br:=Aside0.mk hS;clear hS;have qr:=cells8 Br.out)|((with_reducible refine gate_ (.store 3 (.tmp 31) (.tmp 28)) rfl ?_);refine store_ev rfl rfl 3 _ _ rfl g 1 80 _ Br.out rfl _ rfl [.int .i64 2] rfl (by kernel_rfl) (by show 1+1≤8;decide) (by simp [Value.oneCell']) #[.slice A l.length c,.int .i64 2,.int .i64 1,.int .u8 0,.slice none 0 0,.string ⟨#[]⟩,.int .u8 0,.string ⟨#[]⟩] rfl ?_;intro w4 hS hg;replace HB:=gb HB hg Gr;replace HK:=Aside0.mk (Kept.of_grown hg HK.out (fun k hk=>.inl (by injection hk with hk;exact hk.symm)));clear Br qr hg;have Br:=Aside0.mk hS;clear hS;have qr:=cells8 Br.out)|(go_at_call 59;refine (rparams_calls g A c l 2 m 1 0 0 p y ⟨#[]⟩ ⟨#[]⟩ T w0 _ HC.out HL.out HLC.out HB.out Gr.out Br.out HPK.out HP.out HT.out HTL.out HTD.out HM.out HY.out (.inr HY2.out)).mono ?_;rintro e w5 ⟨rfl,v,hbr,hR,hb,hk⟩;have HR:=Aside0.mk hR;have HK_:=Aside0.mk (Kept.then_ HK.out hk (fun _ h=>.inl h));clear Br HB HK qr;have HK:=HK_;clear HK_;have Br:=Aside0.mk (show w5.heap[g]?=some (.cells #[.slice A l.length c,.int .i64 ((2+m:Nat):Int),.int .i64 1,.int .u8 0,v,.string ⟨#[]⟩,.int .u8 0,.string ⟨#[]⟩] 80 (0,0)) from hbr);have HB:=Aside0.mk hb;clear hbr hb hk hR;have qr:=cells8 Br.out)|(go_at_call 60;refine (rest_calls g A c l (2+m) 1 0 0 v ⟨#[]⟩ ⟨#[]⟩ w0 _ HC.out HL.out HB.out Gr.out Br.out HLC.out y HY.out (.inr HY3.out)).mono ?_;rintro e w6 ⟨rfl,hbr,hb,hk⟩;have HR_:=Aside0.mk (R_keptG HR.out hk Br.out);have HK_:=Aside0.mk (Kept.then_ HK.out hk (fun _ h=>.inl h));clear Br HB HK HR qr;have HK:=HK_;have HR:=HR_;clear HK_ HR_;have Br:=Aside0.mk hbr;have HB:=Aside0.mk hb;clear hbr hb hk))
  go_end0
  exact ⟨rfl,_,Br.out,HR.out,HB.out,HK.out⟩
end Go.Proofs.YthjacokachgmfaaGreatDoor.H
end
section
namespace Go.Proofs.YthjacokachgmfaaGreatDoor.H
open Go.RowKit Go.Maps
def look:List (Int × Value)→Int→Option Value
  | [],_=>none
  | p :: l,a=>if a=p.1 then some p.2 else look l a
section
variable {P:Program}
def objAt (W:World) (n:Nat):Option Obj:=W.heap[n]?
theorem objAt_alloc (W:World) (o:Obj) (n:Nat):objAt (W.alloc o) n=if n=W.heap.size then some o else objAt W n:=by
  show (W.heap.push o)[n]?=_
  simp [Array.getElem?_push,objAt]
theorem objAt_drew (W:World) (n:Nat):objAt W.drew n=objAt W n:=by unfold objAt;rw [show W.drew.heap=W.heap from rfl]
theorem objAt_drewN (W:World) (k n:Nat):objAt (W.drewN k) n=objAt W n:=by unfold objAt;rw [World.heap_drewN]
theorem objAt_setCell (W:World) (a:Addr) (v:Value) (n:Nat) (h:n≠a.block):objAt (W.setCell a v) n=objAt W n:=Below.heap_setCell W a v n h
theorem look_nil (a:Int):look [] a=none:=by rw [look]
theorem look_cons (p:Int × Value) (l:List (Int × Value)) (a:Int):look (p :: l) a=if a=p.1 then some p.2 else look l a:=by rw [look]
end
end Go.Proofs.YthjacokachgmfaaGreatDoor.H
end
section
namespace Go.Proofs.YthjacokachgmfaaGreatDoor.H
open Go Go.RowKit Go.Maps YthjacokachgmfaaGreatDoorW.PrintWords YthjacokachgmfaaGreatDoorW.PrintLast
@[reducible] def foldV:List (Int × Value):=[(32,.int .i64 0),(50,.int .i64 0),(64,.int .i64 0),(51,.int .i64 27),(91,.int .i64 27),(52,.int .i64 28),(92,.int .i64 28),(53,.int .i64 29),(93,.int .i64 29),(54,.int .i64 30),(94,.int .i64 30),(55,.int .i64 31),(47,.int .i64 31),(95,.int .i64 31),(56,.int .i64 127),(63,.int .i64 127)]
attribute [local go_sem] objAt_alloc objAt_drew objAt_drewN objAt_setCell look_nil look_cons
end Go.Proofs.YthjacokachgmfaaGreatDoor.H
end
section
namespace Go.Proofs.YthjacokachgmfaaGreatDoor.R
open YthjacokachgmfaaGreatDoor.H Go.RowKit YthjacokachgmfaaGreatDoorW.PrintWords YthjacokachgmfaaGreatDoorW.PrintLast YthjacokachgmfaaGreatDoorW.PrintMore
attribute [local go_sem] max2_int min2_int max_two min_two max_three min_three max_four min_four
def errW:Option Int→Value
  | none=>.nilIface
  | some c=>.iface 0 (.int .i64 c)
theorem errW_none:errW none=.nilIface:=rfl
theorem errW_some (c:Int):errW (some c)=.iface 0 (.int .i64 c):=rfl
theorem info3:(Tryz.prog.info? 3).map (fun i=>(i.zero,i.size,i.bytes))=some (some (.int .i64 0),1,8):=by kernel_rfl
theorem info5:(Tryz.prog.info? 5).map (fun i=>(i.zero,i.size,i.bytes))=some (some (.int .u8 0),1,1):=by kernel_rfl
end Go.Proofs.YthjacokachgmfaaGreatDoor.R
end
section
namespace Go.Proofs.YthjacokachgmfaaGreatDoor.R
open YthjacokachgmfaaGreatDoor.H Go.RowKit YthjacokachgmfaaGreatDoorW.PrintWords YthjacokachgmfaaGreatDoorW.PrintLast YthjacokachgmfaaGreatDoorW.PrintMore
attribute [local go_sem] max2_int min2_int max_two min_two max_three min_three max_four min_four
def clavierref08_Flags.f (a0:Int):Option (Int):=some ((mx a0 0) % 32)
set_option maxHeartbeats 8000000 in
set_option maxRecDepth 100000 in
theorem clavierref08_Flags.calls (a0:Int) (r:Int) (w:World) (h:clavierref08_Flags.f a0=some r) :
    Calls Tryz.prog 32 #[.int .i64 a0] w fun e w'=>e=.returned (.int .i64 r)∧Below w.heap.size w w':=by
  have HB:=Aside0.mk (Below.refl w.heap.size w)
  have H:(some ((mx a0 0) % 32))=some r:=h
  clear h
  obtain ⟨ji2,hji2⟩:∃ j_:Int,(mx a0 0)=j_:=⟨_,rfl⟩
  replace H:(some ((ji2) % 32))=some r:=by first|(rw [hji2] at H;exact H)|(simp only [hji2] at H ⊢;exact H)
  (try (have hji2l:0≤ji2:=by (rw [← hji2];unfold mx;(repeat' split)<;>omega)))
  (try (have hji2m:0≤ji2:=by omega))
  have hji2_:(if a0 < 0 then 0 else a0)=ji2:=hji2
  obtain rfl:=Option.some.inj H
  go_enter Tryz.func32,Tryz.ntmps32
  go_wp2
  go_ret
  exact ⟨by first | rfl|(simp [errW_none,errW_some]<;>rfl)|(simp only [← hji2];first | rfl|(simp [errW_none,errW_some]<;>rfl))|(simp [*,errW_none,errW_some]<;>rfl),by repeat (first|(with_reducible first | exact HB.out | apply below_alloc | apply pw_below_drewN | apply below_drew1) | exact HB.out)⟩
def clavierref10_Has.f (a0:Int) (a1:Int):Option (Bool):=if a1=0 then (none) else (some ((Int.tmod (wrap64 ((mx a0 0) / a1)) 2) == 1))
set_option maxHeartbeats 8000000 in
set_option maxRecDepth 100000 in
theorem clavierref10_Has.calls (a0:Int) (a1:Int) (r:Bool) (w:World) (h:clavierref10_Has.f a0 a1=some r) :
    Calls Tryz.prog 34 #[.int .i64 a0,.int .i64 a1] w fun e w'=>e=.returned (.bool r)∧Below w.heap.size w w':=by
  have HB:=Aside0.mk (Below.refl w.heap.size w)
  have H:(if a1=0 then (none) else (some ((Int.tmod (wrap64 ((mx a0 0) / a1)) 2) == 1)))=some r:=h
  clear h
  obtain ⟨ji3,hji3⟩:∃ j_:Int,(mx a0 0)=j_:=⟨_,rfl⟩
  replace H:(if a1=0 then (none) else (some ((Int.tmod (wrap64 ((ji3) / a1)) 2) == 1)))=some r:=by first|(rw [hji3] at H;exact H)|(simp only [hji3] at H ⊢;exact H)
  (try (have hji3l:0≤ji3:=by (rw [← hji3];unfold mx;(repeat' split)<;>omega)))
  (try (have hji3m:0≤ji3:=by omega))
  have hji3_:(if a0 < 0 then 0 else a0)=ji3:=hji3
  by_cases c4:a1=0
  · rw [if_pos c4] at H
    exact absurd H (by simp)
  · rw [if_neg c4] at H
    have c4b0:(a1 == 0)=false:=beq_eq_false_iff_ne.mpr c4
    have c4b1:(a1 != 0)=true:=bne_iff_ne.mpr c4
    obtain rfl:=Option.some.inj H
    go_enter Tryz.func34,Tryz.ntmps34
    go_wp2
    go_ret
    exact ⟨by first | rfl|(rw [Int.tdiv_eq_ediv_of_nonneg (by assumption)];done)|(rw [Int.tdiv_eq_ediv_of_nonneg (by assumption)];rfl)|(simp [errW_none,errW_some]<;>rfl)|(simp only [← hji3];first | rfl|(simp [errW_none,errW_some]<;>rfl))|(simp [*,errW_none,errW_some]<;>rfl),by repeat (first|(with_reducible first | exact HB.out | apply below_alloc | apply pw_below_drewN | apply below_drew1) | exact HB.out)⟩
end Go.Proofs.YthjacokachgmfaaGreatDoor.R
end
section
namespace Go.Proofs.YthjacokachgmfaaGreatDoor.R
open YthjacokachgmfaaGreatDoor.H Go.RowKit YthjacokachgmfaaGreatDoorW.PrintWords YthjacokachgmfaaGreatDoorW.PrintLast YthjacokachgmfaaGreatDoorW.PrintMore
attribute [local go_sem] max2_int min2_int max_two min_two max_three min_three max_four min_four
def kitty_event_has.f (a0_0:Int) (a0_1:Int) (a0_2:Int) (a0_3:Int) (a0_4:Int) (a0_5:ByteArray) (a0_6:Int) (a0_7:Int) (a1:Int):Option (Bool):=some ((Go.bits .and .i64 (mx a0_6 0) a1) != 0)
set_option maxHeartbeats 8000000 in
set_option maxRecDepth 100000 in
theorem kitty_event_has.calls (a0_0:Int) (a0_1:Int) (a0_2:Int) (a0_3:Int) (a0_4:Int) (a0_5:ByteArray) (a0_6:Int) (a0_7:Int) (a1:Int) (r:Bool) (w:World) (h:kitty_event_has.f a0_0 a0_1 a0_2 a0_3 a0_4 a0_5 a0_6 a0_7 a1=some r) :
    Calls Tryz.prog 76 #[.agg #[.int .i64 a0_0,.int .i64 a0_1,.int .i64 a0_2,.int .i64 a0_3,.int .i64 a0_4,.string a0_5,.int .i64 a0_6,.int .i64 a0_7],.int .i64 a1] w fun e w'=>e=.returned (.bool r)∧Below w.heap.size w w':=by
  have hu96:=Tryz.underlying96
  have HB:=Aside0.mk (Below.refl w.heap.size w)
  have H:(some ((Go.bits .and .i64 (mx a0_6 0) a1) != 0))=some r:=h
  clear h
  obtain ⟨ji3,hji3⟩:∃ j_:Int,(mx a0_6 0)=j_:=⟨_,rfl⟩
  replace H:(some ((Go.bits .and .i64 (ji3) a1) != 0))=some r:=by first|(rw [hji3] at H;exact H)|(simp only [hji3] at H ⊢;exact H)
  (try (have hji3l:0≤ji3:=by (rw [← hji3];unfold mx;(repeat' split)<;>omega)))
  (try (have hji3m:0≤ji3:=by omega))
  have hji3_:(if a0_6 < 0 then 0 else a0_6)=ji3:=hji3
  obtain rfl:=Option.some.inj H
  go_enter Tryz.func76,Tryz.ntmps76
  go_wp2_with (first|((with_reducible refine gate_dst (N:=2) rfl ?_);refine box_event ?hg (N:=2) ?hd (cs:=#[.int .i64 a0_0,.int .i64 a0_1,.int .i64 a0_2,.int .i64 a0_3,.int .i64 a0_4,.string a0_5,.int .i64 a0_6,.int .i64 a0_7]) (t:=96) ?hr ?_;(case hd=>rfl);(case hg=>rfl);(case hr=>first|(go_simp;done)|(go_simp;rfl));intro gb223 hg w4 hbox hb;have n0_:=bh HB hb;have n1_:=Aside0.mk (hbox);have n2_:=Aside0.mk ((by rw [hg];exact (below_size (by repeat (first|(with_reducible first | exact HB.out | apply below_alloc | apply pw_below_drewN | apply below_drew1) | exact HB.out))):w.heap.size≤gb223));have n3_:=Aside0.mk ((by rw [hg];exact (below_size (by repeat (first|(with_reducible first | exact HB.out | apply below_alloc | apply pw_below_drewN | apply below_drew1) | exact HB.out))):w.heap.size≤gb223));clear HB;have HB:=n0_;have BK223:=n1_;have GW223:=n2_;have GE223:=n3_;clear n0_ n1_ n2_ n3_;clear hb hbox hg;have hcz5_0:w4.cell? ⟨gb223,0,none⟩=some (.int .i64 a0_0):=(blk_cell BK223.out 0).trans rfl;have hcz5_1:w4.cell? ⟨gb223,1,none⟩=some (.int .i64 a0_1):=(blk_cell BK223.out 1).trans rfl;have hcz5_2:w4.cell? ⟨gb223,2,none⟩=some (.int .i64 a0_2):=(blk_cell BK223.out 2).trans rfl;have hcz5_3:w4.cell? ⟨gb223,3,none⟩=some (.int .i64 a0_3):=(blk_cell BK223.out 3).trans rfl;have hcz5_4:w4.cell? ⟨gb223,4,none⟩=some (.int .i64 a0_4):=(blk_cell BK223.out 4).trans rfl;have hcz5_5:w4.cell? ⟨gb223,5,none⟩=some (.string a0_5):=(blk_cell BK223.out 5).trans rfl;have hcz5_6:w4.cell? ⟨gb223,6,none⟩=some (.int .i64 a0_6):=(blk_cell BK223.out 6).trans rfl;have hcz5_7:w4.cell? ⟨gb223,7,none⟩=some (.int .i64 a0_7):=(blk_cell BK223.out 7).trans rfl;have hfz5_0:=blk_frozen BK223.out 0;have hfz5_1:=blk_frozen BK223.out 1;have hfz5_2:=blk_frozen BK223.out 2;have hfz5_3:=blk_frozen BK223.out 3;have hfz5_4:=blk_frozen BK223.out 4;have hfz5_5:=blk_frozen BK223.out 5;have hfz5_6:=blk_frozen BK223.out 6;have hfz5_7:=blk_frozen BK223.out 7))
  go_ret
  exact ⟨by first | rfl|(simp [errW_none,errW_some]<;>rfl)|(simp only [← hji3];first | rfl|(simp [errW_none,errW_some]<;>rfl))|(simp [*,errW_none,errW_some]<;>rfl),by repeat (first|(with_reducible first | exact HB.out | apply below_alloc | apply pw_below_drewN | apply below_drew1 | refine below_set ?_ GE223.out) | exact HB.out)⟩
end Go.Proofs.YthjacokachgmfaaGreatDoor.R
end
section
namespace Go.Proofs.YthjacokachgmfaaGreatDoor.R
open Go Go.RowKit YthjacokachgmfaaGreatDoorW.PrintWords YthjacokachgmfaaGreatDoorW.PrintLast YthjacokachgmfaaGreatDoorW.PrintMore
open YthjacokachgmfaaGreatDoor.H
open YthjacokachgmfaaGreatDoor.H.Ev
set_option maxRecDepth 100000
def kitty_event_code.f (k:Nat) (a0 a1 a2 a3 a4:Int) (s:ByteArray) (fl kd n fin:Int):Option (List Int) :=
  if (!(Go.bits .and .i64 (mx fl 0) 4 != 0))=true then some [n] else if (fin != 117)=true then some [n] else if (a3 != 0)=true then (if (Go.bits .and .i64 a1 1 != 0)=true then (if (a4 != 0)=true then (if (a4 != a0)=true then some (([n]++[a3])++[a4]) else some ([n]++[a3])) else some ([n]++[a3])) else (if (a4 != 0)=true then (if (a4 != a0)=true then some (([n]++[-1])++[a4]) else some [n]) else some [n])) else (if (a4 != 0)=true then (if (a4 != a0)=true then some (([n]++[-1])++[a4]) else some [n]) else some [n])
set_option maxHeartbeats 16000000 in
theorem kitty_event_code.calls (k:Nat) (a0 a1 a2 a3 a4:Int) (s:ByteArray) (fl kd n fin:Int) (r:List Int) (w:World) (h:kitty_event_code.f k a0 a1 a2 a3 a4 s fl kd n fin=some r) :
    Calls Tryz.prog 41 #[.agg #[.int .i64 a0,.int .i64 a1,.int .i64 a2,.int .i64 a3,.int .i64 a4,.string s,.int .i64 fl,.int .i64 kd],.int .i64 n,.int .u8 fin] w fun e w'=>∃ v,e=.returned v∧Kd.R (Kd.int .i64) 3 w' w.heap.size (fun _=>True) v r∧Below w.heap.size w w':=by
  have HB:=Aside0.mk (Below.refl w.heap.size w)
  unfold kitty_event_code.f at h
  rcases c0:(Go.bits .and .i64 (mx fl 0) 4 != 0) with _ | _
  rotate_left 1
  rcases c1:(fin != 117) with _ | _
  rcases c2:(a3 != 0) with _ | _
  rotate_left 1
  rcases c3:(Go.bits .and .i64 a1 1 != 0) with _ | _
  rcases c4:(a4 != 0) with _ | _
  rotate_left 1
  rcases c5:(a4 != a0) with _ | _
  rotate_left 2
  rcases c4:(a4 != 0) with _ | _
  rotate_left 1
  rcases c5:(a4 != a0) with _ | _
  rotate_left 2
  rotate_left 2
  rcases c4:(a4 != 0) with _ | _
  rotate_left 1
  rcases c5:(a4 != a0) with _ | _
  rotate_left 2
  all_goals simp only [*,Bool.not_true,Bool.not_false,if_true,if_false,reduceIte,Bool.false_eq_true] at h
  all_goals obtain rfl:=Option.some.inj h
  all_goals
    clear h
    go_enter Tryz.func41,Tryz.ntmps41
    go_wp2_with (first|(refine bx 3 #[.int .i64 a0,.int .i64 a1,.int .i64 a2,.int .i64 a3,.int .i64 a4,.string s,.int .i64 fl,.int .i64 kd] 96 (h:=?_);intro g3 hg w1 hbox hb;replace HB:=bh HB hb;have B3:=Aside0.mk hbox;have q3:=cells8 B3.out;clear hbox hb hg)|((with_reducible refine gate_dst (N:=9) rfl ?_);refine Kd.R_lit (Kd.int .i64) _ 3 ?hg (N:=9) ?hd (xs:=([n]:List Int)) (inner:=[.int .i64 n]) (ok:=fun _=>True) (okp:=fun _=>True) ?hr ?hp (fun _ hk=>hk) trivial (Below.refl _ _) (Nat.le_refl _) (by simp) ?_;(case hd=>rfl);(case hg=>rfl);(case hr=>first|(go_simp;done)|(go_simp;rfl));(case hp=>exact (Reps.one (show Kd.M (Kd.int .i64) _ _ _ n [.int .i64 n] from rfl) (Reps.none _ _)));intro v w2 ho hb hg_ hnew_;clear hg_ hnew_;obtain ⟨A,c,rfl⟩:=Kd.R_slice ho;have HO:=Aside0.mk (Kd.R_lower ho (below_size HB.out));replace B3:=kb B3 hb;clear q3;have q3:=cells8 B3.out;replace HB:=bh HB hb;clear hb ho)|(go_at_call 76;refine (kitty_event_has.calls a0 a1 a2 a3 a4 s fl kd 4 _ _ rfl).mono ?_;rintro e w3 ⟨rfl,hb⟩;replace HO:=Aside0.mk (Kd.R_below HO.out hb);replace B3:=kb B3 hb;clear q3;have q3:=cells8 B3.out;replace HB:=bh HB hb;clear hb)|((with_reducible refine gate_builtin (b:=.append) (xs:=#[.tmp 29,.tmp 33]) rfl ?_);at_builtin;refine Kd.R_append (Kd.int .i64) (w0:=w) w.heap.size rfl (.tmp 29) (.tmp 33) 66 3 (.int .i64 0) 8 rfl Tryz.underlying66 info3 rfl (by decide) (by omega) _ _ a3 [.int .i64 a3] (fun _=>True) (fun _=>False) rfl rfl rfl (fun _ hk=>hk.elim) (fun _ _=>trivial) (by (with_reducible repeat (first | apply Kd.R_alloc | apply Kd.R_drewN | apply Kd.R_drew));exact HO.out) (by repeat (first|(with_reducible first | exact HB.out | apply below_alloc | apply pw_below_drewN | apply below_drew1) | exact HB.out)) (below_size (by repeat (first|(with_reducible first | exact HB.out | apply below_alloc | apply pw_below_drewN | apply below_drew1) | exact HB.out))) (by simp) ?_;intro v w5 ho hb hg hat;replace B3:=Aside0.mk (blk_grown (o:=.cells #[.int .i64 a0,.int .i64 a1,.int .i64 a2,.int .i64 a3,.int .i64 a4,.string s,.int .i64 fl,.int .i64 kd] 96 (0,0)) (by (with_reducible repeat (first | refine blk_drewN ?_ _ | refine blk_drew ?_ | refine blk_alloc ?_ _));exact B3.out) hg (Kd.R_ne HO.out B3.out (by decide)));clear q3 HO HB hg hat;obtain ⟨A',c',rfl⟩:=Kd.R_slice ho;have HO:=Aside0.mk ho;have HB:=Aside0.mk hb;have q3:=cells8 B3.out;clear ho hb)|((with_reducible refine gate_builtin (b:=.append) (xs:=#[.tmp 51,.tmp 52]) rfl ?_);at_builtin;refine Kd.R_append (Kd.int .i64) (w0:=w) w.heap.size rfl (.tmp 51) (.tmp 52) 66 3 (.int .i64 0) 8 rfl Tryz.underlying66 info3 rfl (by decide) (by omega) _ _ (-1) [.int .i64 (-1)] (fun _=>True) (fun _=>False) rfl rfl rfl (fun _ hk=>hk.elim) (fun _ _=>trivial) (by (with_reducible repeat (first | apply Kd.R_alloc | apply Kd.R_drewN | apply Kd.R_drew));exact HO.out) (by repeat (first|(with_reducible first | exact HB.out | apply below_alloc | apply pw_below_drewN | apply below_drew1) | exact HB.out)) (below_size (by repeat (first|(with_reducible first | exact HB.out | apply below_alloc | apply pw_below_drewN | apply below_drew1) | exact HB.out))) (by simp) ?_;intro v w5 ho hb hg hat;replace B3:=Aside0.mk (blk_grown (o:=.cells #[.int .i64 a0,.int .i64 a1,.int .i64 a2,.int .i64 a3,.int .i64 a4,.string s,.int .i64 fl,.int .i64 kd] 96 (0,0)) (by (with_reducible repeat (first | refine blk_drewN ?_ _ | refine blk_drew ?_ | refine blk_alloc ?_ _));exact B3.out) hg (Kd.R_ne HO.out B3.out (by decide)));clear q3 HO HB hg hat;obtain ⟨A',c',rfl⟩:=Kd.R_slice ho;have HO:=Aside0.mk ho;have HB:=Aside0.mk hb;have q3:=cells8 B3.out;clear ho hb)|((with_reducible refine gate_builtin (b:=.append) (xs:=#[.tmp 54,.tmp 58]) rfl ?_);at_builtin;refine Kd.R_append (Kd.int .i64) (w0:=w) w.heap.size rfl (.tmp 54) (.tmp 58) 66 3 (.int .i64 0) 8 rfl Tryz.underlying66 info3 rfl (by decide) (by omega) _ _ a4 [.int .i64 a4] (fun _=>True) (fun _=>False) rfl rfl rfl (fun _ hk=>hk.elim) (fun _ _=>trivial) (by (with_reducible repeat (first | apply Kd.R_alloc | apply Kd.R_drewN | apply Kd.R_drew));exact HO.out) (by repeat (first|(with_reducible first | exact HB.out | apply below_alloc | apply pw_below_drewN | apply below_drew1) | exact HB.out)) (below_size (by repeat (first|(with_reducible first | exact HB.out | apply below_alloc | apply pw_below_drewN | apply below_drew1) | exact HB.out))) (by simp) ?_;intro v w5 ho hb hg hat;replace B3:=Aside0.mk (blk_grown (o:=.cells #[.int .i64 a0,.int .i64 a1,.int .i64 a2,.int .i64 a3,.int .i64 a4,.string s,.int .i64 fl,.int .i64 kd] 96 (0,0)) (by (with_reducible repeat (first | refine blk_drewN ?_ _ | refine blk_drew ?_ | refine blk_alloc ?_ _));exact B3.out) hg (Kd.R_ne HO.out B3.out (by decide)));clear q3 HO HB hg hat;obtain ⟨A',c',rfl⟩:=Kd.R_slice ho;have HO:=Aside0.mk ho;have HB:=Aside0.mk hb;have q3:=cells8 B3.out;clear ho hb))
    go_ret
    exact ⟨_,rfl,HO.out,HB.out⟩
end Go.Proofs.YthjacokachgmfaaGreatDoor.R
end
section
namespace Go.Proofs.YthjacokachgmfaaGreatDoor.H
open Go Go.RowKit YthjacokachgmfaaGreatDoorW.PrintWords YthjacokachgmfaaGreatDoorW.PrintLast YthjacokachgmfaaGreatDoorW.PrintMore
set_option maxRecDepth 100000
def untoldT (p:List Int) (first:Bool):Bool:=decide (p.length=1)&&((p.getD 0 0 == -1)||(first&&(p.getD 0 0 == 1)))
set_option maxHeartbeats 4000000 in
theorem untold_calls (A:Option Addr) (c:Nat) (p:List Int) (first:Bool) (w:World) (hr:Kd.C (Kd.int .i64) w A p.length p) (hl:p.length≤100000) :
    Calls Tryz.prog 80 #[.slice A p.length c,.bool first] w fun e w'=>e=.returned (.bool (untoldT p first))∧Below w.heap.size w w':=by
  have HR:=Aside0.mk hr
  by_cases h1:p.length=1
  · obtain ⟨x,rfl⟩:=List.length_eq_one_iff.1 h1
    obtain ⟨ad,n,eA,hn,hcell⟩:=at_I hr (k:=0) (by simp)
    subst eA
    obtain rfl:x=n:=by simpa using hn
    have hc0:w.cell? ad=some (.int .i64 x):=hcell
    clear hr h1 hn hcell hl
    show Calls Tryz.prog 80 #[.slice (some ad) 1 c,.bool first] w _
    by_cases hx:x=-1
    · subst hx
      go_enter Tryz.func80,Tryz.ntmps80
      go_wp2
      go_ret
      exact ⟨by simp [untoldT],Below.refl _ _⟩
    · have e1:(x == -1)=false:=beq_eq_false_iff_ne.2 hx
      have E1:=Aside0.mk e1
      clear hx
      cases first with
      | false =>
        go_enter Tryz.func80,Tryz.ntmps80
        go_wp2
        go_ret
        exact ⟨by simp [untoldT,E1.out],Below.refl _ _⟩
      | true =>
        go_enter Tryz.func80,Tryz.ntmps80
        go_wp2
        go_ret
        exact ⟨by simp [untoldT,E1.out],Below.refl _ _⟩
  · have e1:((p.length:Int) == 1)=false:=by rw [beq_eq_false_iff_ne];omega
    have E1:=Aside0.mk h1
    clear hr hl h1
    go_enter Tryz.func80,Tryz.ntmps80
    go_wp2
    go_ret
    exact ⟨by simp [untoldT,E1.out],Below.refl _ _⟩
def trimN (ps:List (List Int)):Nat→Nat
  | 0=>0
  | n+1=>if untoldT (rdL ps n) (decide (n=0)) then trimN ps n else n+1
theorem trimN_le (ps:List (List Int)):∀ n,trimN ps n≤n
  | 0=>Nat.le_refl _
  | n+1=>by
    unfold trimN
    split
    · exact Nat.le_succ_of_le (trimN_le ps n)
    · exact Nat.le_refl _
theorem trimN_t {ps:List (List Int)} {n:Nat} {b:Bool} (hb:b=decide (n=0)) (h:untoldT (rdL ps n) b=true):trimN ps (n+1)=trimN ps n:=by
  subst hb
  show (if _ then _ else _)=_
  rw [if_pos h]
theorem trimN_f {ps:List (List Int)} {n:Nat} {b:Bool} (hb:b=decide (n=0)) (h:untoldT (rdL ps n) b=false):trimN ps (n+1)=n+1:=by
  subst hb
  show (if _ then _ else _)=_
  rw [h]
  rfl
set_option maxHeartbeats 4000000 in
theorem params_calls (A:Option Addr) (c:Nat) (ps:List (List Int)) (w:World) (hr:Kd.C kli w A ps.length ps) (hc:ps.length≤c) (hl:ps.length≤100000) (hp:∀ p∈ps,p.length≤100000) :
    Calls Tryz.prog 40 #[.slice A ps.length c] w fun e w'=>e=.returned (.slice A (trimN ps ps.length) c)∧Below w.heap.size w w':=by
  have HR:=Aside0.mk hr
  have HL:=Aside0.mk hl
  have HC:=Aside0.mk hc
  have HP:=Aside0.mk hp
  clear hr hl hc hp
  go_enter Tryz.func40,Tryz.ntmps40
  go_wp2
  show Code.wp _ _ _ _ _
  go_loopg [0,4] (ps.length+1) (fun kq v0 v4 W=>∃ k:Nat,v0=.slice A k c∧v4=.int .i64 (k:Int)∧Aside0 (k≤ps.length∧k < kq)∧Aside0 (trimN ps k=trimN ps ps.length)∧Aside0 (Below w.heap.size w W))
  case atStart=>exact ⟨ps.length,rfl,rfl,⟨by omega⟩,⟨rfl⟩,⟨Below.refl _ _⟩⟩
  case round =>
    obtain ⟨k,rfl,rfl,HK,HO,HBr⟩:=hrel
    cases gk with
    | zero=>exact absurd HK.out (by omega)
    | succ k1 =>
      rcases Nat.eq_zero_or_pos k with h0 | h0
      · subst h0
        have HO2:=Aside0.mk (show trimN ps ps.length=0 from HO.out.symm)
        go_wp2
        go_ret
        exact ⟨by rw [HO2.out];rfl,HBr.out⟩
      · obtain ⟨j,hj⟩:∃ j,k=j+1:=⟨k - 1,by omega⟩
        have hx:j < ps.length:=by have:=HK.out;omega
        have c1:decide ((0:Int) < (k:Int))=true:=decide_eq_true (by omega)
        obtain ⟨ad,A0,c0,eA,hcell,hlc,hC⟩:=at_L HR.out j hx
        obtain ⟨hmem,hget⟩:=rdL_mem hx
        subst eA
        have hlt:=lt_of_cellT hcell
        have hy0:=(HBr.out.cell hlt).trans hcell
        have HC0:=Aside0.mk hC
        have HM:=Aside0.mk hmem
        have HJ:=Aside0.mk hj
        have HX:=Aside0.mk hx
        have HF:=Aside0.mk (show ((k:Int) == 1)=decide (j=0) by rw [Bool.eq_iff_iff];simp;omega)
        have e3:wrap64 ((k:Int) - 1)=(j:Int):=by have:=HL.out;rw [IntWalk.wrap64_in _ (by omega)];omega
        have p1:(0:Int)≤(j:Int):=by omega
        have p2:(j:Int) < (k:Int):=by omega
        have p3:(j:Int)≤(c:Int):=by have:=HC.out;have:=HK.out;omega
        clear hcell hmem hget hlc hC hj hx h0
        cases hu:untoldT (rdL ps j) ((k:Int) == 1) with
        | true =>
          have hcl:=untold_calls A0 c0 (rdL ps j) ((k:Int) == 1) wr (Kd.C_below HC0.out HBr.out) (HP.out _ HM.out)
          rw [hu] at hcl
          have HCL:=Aside0.mk hcl
          have HU:=Aside0.mk hu
          clear hcl hu
          go_wp2_with (go_at_call 80;refine HCL.out.mono ?_;rintro e W1 ⟨rfl,hb⟩;have HBA:=Aside0.mk (below_step HBr.out hb);clear hb)
          go_roundg k1
          case measure=>omega
          case rel=>exact ⟨j,by first | rfl|(congr 1;omega),by first | rfl|(congr 1),⟨by have:=HK.out;have:=HJ.out;omega⟩,⟨by rw [← HO.out,HJ.out,trimN_t HF.out HU.out]⟩,HBA⟩
        | false =>
          have hcl:=untold_calls A0 c0 (rdL ps j) ((k:Int) == 1) wr (Kd.C_below HC0.out HBr.out) (HP.out _ HM.out)
          rw [hu] at hcl
          have HCL:=Aside0.mk hcl
          have HU:=Aside0.mk hu
          clear hcl hu
          go_wp2_with (go_at_call 80;refine HCL.out.mono ?_;rintro e W1 ⟨rfl,hb⟩;have HBA:=Aside0.mk (below_step HBr.out hb);clear hb)
          go_ret
          have hT:trimN ps ps.length=k:=by rw [← HO.out,HJ.out,trimN_f HF.out HU.out]
          exact ⟨by rw [hT];rfl,HBA.out⟩
end Go.Proofs.YthjacokachgmfaaGreatDoor.H
end
