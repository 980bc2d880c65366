import Derived.Test.YthjacokachgmfaaGreatDoorProg
import Derived.Below
import Derived.Deep.Draws
import Derived.Deep.AppendLies
import Derived.Maps.AppendAt
import Derived.OwnWalk
import Derived.Laws.BytesArg
import Derived.Laws.MakeOwn
import Derived.Laws.OwnMore
import Derived.Deep.OwnRows
import Derived.Tactics
import Derived.Lib.ConvBytes
import Derived.Laws.Slices
import Derived.WalkKit
import Derived.KernelRfl
import Derived.RowKit3
import Derived.Deep.LoopGhost
import Derived.Deep.QuietTactic
import Derived.BigQuiet
import Derived.WideLaws
import Derived.Deep.DeepCutAuto
import Derived.Deep.CutBlock
import Derived.Deep.RegionHeld3
import Derived.Laws.Rows
import Derived.Lib.AppendStr
import Derived.ArgAppend
import Derived.Laws.IdiomCopy
import Derived.OrdersHeld
import Derived.Laws.BitsLemmas
import Derived.RowKit
import Derived.BigRegion
import Derived.Outline
import Derived.Deep.RegionWith
import Derived.Shelf.Abstract
import Derived.Shelf.RegionOpen
import Derived.OwnWalkIn
import Derived.TacticsInMore
import Derived.LoopNIn
import Derived.LoopIn
import Derived.RangeFuncBox
import Derived.Test.YthjacokachgmfaaGreatDoorT01
import Derived.Test.YthjacokachgmfaaGreatDoorT02
import Derived.Test.YthjacokachgmfaaGreatDoorT03
import Derived.Test.YthjacokachgmfaaGreatDoorT04
import Derived.Test.YthjacokachgmfaaGreatDoorT05
import Derived.Test.YthjacokachgmfaaGreatDoorT07
import Derived.Test.YthjacokachgmfaaGreatDoorT08
import Derived.Test.YthjacokachgmfaaGreatDoorT09
set_option linter.unusedVariables false
set_option linter.unusedSimpArgs false
section
namespace Go.Proofs.YthjacokachgmfaaGreatDoorW.PrintWords
open Go.RowKit
end Go.Proofs.YthjacokachgmfaaGreatDoorW.PrintWords
namespace Go.Proofs.YthjacokachgmfaaGreatDoorW.PrintLast
section
variable {ops:Array Oper} {a:Act} {o og:Oper} {g:Nat} {t:Tmp} {u:Bool}
end
end Go.Proofs.YthjacokachgmfaaGreatDoorW.PrintLast
end
section
namespace Go.Proofs.YthjacokachgmfaaGreatDoor.E
open YthjacokachgmfaaGreatDoor.H Go.RowKit YthjacokachgmfaaGreatDoorW.PrintWords YthjacokachgmfaaGreatDoorW.PrintLast YthjacokachgmfaaGreatDoorW.PrintMore
attribute [local go_sem] max2_int min2_int max_two min_two max_three min_three max_four min_four
def errW:Option Int→Value
  | none=>.nilIface
  | some c=>.iface 0 (.int .i64 c)
theorem errW_none:errW none=.nilIface:=rfl
theorem errW_some (c:Int):errW (some c)=.iface 0 (.int .i64 c):=rfl
end Go.Proofs.YthjacokachgmfaaGreatDoor.E
end
section
namespace Go.Proofs.YthjacokachgmfaaGreatDoor.E
open YthjacokachgmfaaGreatDoor.H Go.RowKit YthjacokachgmfaaGreatDoorW.PrintWords YthjacokachgmfaaGreatDoorW.PrintLast YthjacokachgmfaaGreatDoorW.PrintMore
attribute [local go_sem] max2_int min2_int max_two min_two max_three min_three max_four min_four
def slices_Equal_byte_byte.l0:Nat→List Int→List Int→Int→Int→Option (Bool)
  | 0,_,_,_,_=>none
  | k+1,x0,x1,x12,x13=>if x13 < x12 then (if 0≤x13 then (if x13 < (x0.length:Int) then (if x13 < (x1.length:Int) then (if (rd x0 x13)=(rd x1 x13) then (slices_Equal_byte_byte.l0 k x0 x1 x12 (wrap64 (x13+1))) else (some false)) else (none)) else (none)) else (none)) else (some true)
def slices_Equal_byte_byte.f (k:Nat) (l0:List Int) (l1:List Int):Option (Bool):=if (l0.length:Int)=(l1.length:Int) then (slices_Equal_byte_byte.l0 k l0 l1 (l0.length:Int) 0) else (some false)
set_option maxHeartbeats 8000000 in
set_option maxRecDepth 100000 in
theorem slices_Equal_byte_byte.calls (k:Nat) (A0:Option Addr) (c0:Nat) (l0:List Int) (A1:Option Addr) (c1:Nat) (l1:List Int) (r:Bool) (w:World) (hr0:Kd.C (Kd.int .u8) w A0 l0.length l0) (hc0:l0.length≤c0) (hr1:Kd.C (Kd.int .u8) w A1 l1.length l1) (hc1:l1.length≤c1) (h:slices_Equal_byte_byte.f k l0 l1=some r) :
    Calls Tryz.prog 237 #[.slice A0 l0.length c0,.slice A1 l1.length c1] w fun e w'=>e=.returned (.bool r)∧Drawn0 w w':=by
  have HR0:=Aside0.mk hr0
  have HC0:=Aside0.mk hc0
  clear hr0 hc0
  have HR1:=Aside0.mk hr1
  have HC1:=Aside0.mk hc1
  clear hr1 hc1
  have H:(if (l0.length:Int)=(l1.length:Int) then (slices_Equal_byte_byte.l0 k l0 l1 (l0.length:Int) 0) else (some false))=some r:=h
  clear h
  by_cases c3:(l0.length:Int)=(l1.length:Int)
  · rw [if_pos c3] at H
    have c3b0:((l0.length:Int) == (l1.length:Int))=true:=beq_iff_eq.mpr c3
    have c3b1:((l0.length:Int) != (l1.length:Int))=false:=bne_eq_false_iff_eq.mpr c3
    have c3b2:(l0.length == l1.length)=true:=by first | simpa using c3|(simp at c3 ⊢;omega)
    clear c3
    have H':=Aside0.mk H
    clear H
    go_enter Tryz.func237,Tryz.ntmps237
    go_wp2
    repeat (go_quiet (fail);try go_wp2)
    go_loopg [13] k (fun kq v13 w'=>∃ (x13_1:Int),v13=.int .i64 x13_1∧Aside0 (slices_Equal_byte_byte.l0 kq l0 l1 (l0.length:Int) x13_1=some r)∧Aside0 (kq≤k)∧Drawn0 w w')
    case atStart=>exact ⟨(0),(by first | rfl|(simp;done)|(simp [*];done)),H',⟨Nat.le_refl _⟩,by repeat (first | exact Drawn0.refl _ | apply Drawn0.step)⟩
    case round =>
      clear H'
      obtain ⟨x13_1,rfl,HA,HK1,⟨m1,rfl⟩⟩:=hrel
      cases gk with
      | zero=>exact absurd HA.out (by simp [slices_Equal_byte_byte.l0])
      | succ k1 =>
        have H:=HA.out
        clear HA
        simp only [slices_Equal_byte_byte.l0] at H
        by_cases c4:x13_1 < (l0.length:Int)
        · rw [if_pos c4] at H
          have c4b0:decide (x13_1 < (l0.length:Int))=true:=decide_eq_true c4
          clear c4
          by_cases c5:0≤x13_1
          · rw [if_pos c5] at H
            have c5b0:decide (0≤x13_1)=true:=decide_eq_true c5
            clear c5
            by_cases c6:x13_1 < (l0.length:Int)
            · rw [if_pos c6] at H
              have c6b0:decide (x13_1 < (l0.length:Int))=true:=decide_eq_true c6
              clear c6
              by_cases c7:x13_1 < (l1.length:Int)
              · rw [if_pos c7] at H
                have c7b0:decide (x13_1 < (l1.length:Int))=true:=decide_eq_true c7
                clear c7
                by_cases c8:(rd l0 x13_1)=(rd l1 x13_1)
                · rw [if_pos c8] at H
                  have c8b0:((rd l0 x13_1) == (rd l1 x13_1))=true:=beq_iff_eq.mpr c8
                  have c8b1:((rd l0 x13_1) != (rd l1 x13_1))=false:=bne_eq_false_iff_eq.mpr c8
                  clear c8
                  have H':=Aside0.mk H
                  clear H
                  have p101:0≤(x13_1:Int):=of_decide_eq_true (by first|(with_reducible assumption) | assumption)
                  have q101:x13_1 < (l0.length:Int):=of_decide_eq_true (by first|(with_reducible assumption) | assumption)
                  obtain ⟨ad101,e101,hx101_0⟩:=Kd.at_int HR0.out x13_1 p101 q101
                  cases e101
                  replace p101:=eq_true p101
                  replace q101:=eq_true q101
                  have p102:0≤(x13_1:Int):=of_decide_eq_true (by first|(with_reducible assumption) | assumption)
                  have q102:x13_1 < (l1.length:Int):=of_decide_eq_true (by first|(with_reducible assumption) | assumption)
                  obtain ⟨ad102,e102,hx102_0⟩:=Kd.at_int HR1.out x13_1 p102 q102
                  cases e102
                  replace p102:=eq_true p102
                  replace q102:=eq_true q102
                  go_wp2
                  repeat (go_quiet (fail);try go_wp2)
                  go_roundg k1
                  case measure=>have:=HK1.out;omega
                  case rel=>exact ⟨(wrap64 (x13_1+1)),(by first | rfl|(simp;done)|(simp [*];done)),H',⟨by have:=HK1.out;omega⟩,by repeat (first | exact Drawn0.refl _ | apply Drawn0.step)⟩
                · rw [if_neg c8] at H
                  have c8b0:((rd l0 x13_1) == (rd l1 x13_1))=false:=beq_eq_false_iff_ne.mpr c8
                  have c8b1:((rd l0 x13_1) != (rd l1 x13_1))=true:=bne_iff_ne.mpr c8
                  obtain rfl:=Option.some.inj H
                  have p101:0≤(x13_1:Int):=of_decide_eq_true (by first|(with_reducible assumption) | assumption)
                  have q101:x13_1 < (l0.length:Int):=of_decide_eq_true (by first|(with_reducible assumption) | assumption)
                  obtain ⟨ad101,e101,hx101_0⟩:=Kd.at_int HR0.out x13_1 p101 q101
                  cases e101
                  replace p101:=eq_true p101
                  replace q101:=eq_true q101
                  have p102:0≤(x13_1:Int):=of_decide_eq_true (by first|(with_reducible assumption) | assumption)
                  have q102:x13_1 < (l1.length:Int):=of_decide_eq_true (by first|(with_reducible assumption) | assumption)
                  obtain ⟨ad102,e102,hx102_0⟩:=Kd.at_int HR1.out x13_1 p102 q102
                  cases e102
                  replace p102:=eq_true p102
                  replace q102:=eq_true q102
                  go_wp2
                  repeat (go_quiet (fail);try go_wp2)
                  go_ret
                  exact fD
              · rw [if_neg c7] at H
                exact absurd H (by simp)
            · rw [if_neg c6] at H
              exact absurd H (by simp)
          · rw [if_neg c5] at H
            exact absurd H (by simp)
        · rw [if_neg c4] at H
          have c4b0:decide (x13_1 < (l0.length:Int))=false:=decide_eq_false c4
          clear c4
          obtain rfl:=Option.some.inj H
          go_wp2
          repeat (go_quiet (fail);try go_wp2)
          go_ret
          exact fD
  · rw [if_neg c3] at H
    have c3b0:((l0.length:Int) == (l1.length:Int))=false:=beq_eq_false_iff_ne.mpr c3
    have c3b1:((l0.length:Int) != (l1.length:Int))=true:=bne_iff_ne.mpr c3
    have c3b2:(l0.length == l1.length)=false:=by first | simpa using c3|(simp at c3 ⊢;omega)
    obtain rfl:=Option.some.inj H
    go_enter Tryz.func237,Tryz.ntmps237
    go_wp2
    repeat (go_quiet (fail);try go_wp2)
    go_ret
    exact fD
end Go.Proofs.YthjacokachgmfaaGreatDoor.E
end
section
namespace Go.Proofs.YthjacokachgmfaaGreatDoor.H
open Go.RowKit YthjacokachgmfaaGreatDoorW.PrintWords YthjacokachgmfaaGreatDoorW.PrintLast YthjacokachgmfaaGreatDoorW.PrintMore
theorem info5:(Tryz.prog.info? 5).map (fun i=>(i.zero,i.size,i.bytes))=some (some (.int .u8 0),1,1):=by kernel_rfl
theorem byte_at {ad:Addr} {l:List Int} {w wr:World} {j:Nat} (h:Kd.C (Kd.int .u8) w (some ad) l.length l) (hb:Below w.heap.size w wr) (hj:j < l.length):wr.cell? (ad.add j)=some (.int .u8 (l.getD j 0)):=by
  have:=Kd.foot_int h (j:Int) (Int.natCast_nonneg j) (by omega)
  exact pw_cell_below hb this
theorem some_byte {A:Option Addr} {l:List Int} {w:World} {j:Nat} (h:Kd.C (Kd.int .u8) w A l.length l) (hj:j < l.length):∃ ad,A=some ad:=by
  obtain ⟨ad,e,_⟩:=h.2.2 (by omega)
  exact ⟨ad,e⟩
theorem cutm {w:World} {ad:Addr} {l:List Int} {c:Nat} (n:Nat) (h1:1≤n) (hn:n≤l.length) (h:Kd.C (Kd.int .u8) w (some ad) l.length l) (hc:l.length≤c) :
    ∃ A1 c1,(∀ W,(Instr.slice 22 (.slice (some ad) l.length c) (some (.int .i64 1)) (some (.int .i64 (n:Int))) none).run Tryz.prog W=.ok (.slice A1 (n - 1) c1) W)∧∀ j,j < n - 1→∃ ad1,A1=some ad1∧w.cell? (ad1.add j)=some (.int .u8 (l.getD (j+1) 0)):=by
  obtain ⟨i0,hi0,_,hsz,_⟩:=info_parts info5
  refine ⟨_,_,fun W=>cut_mid (P:=Tryz.prog) 22 5 .i64 .i64 Tryz.underlying22 hi0 1 hsz (some ad) l.length c 1 (n:Int) (by decide) (by omega) (by omega) hc W,fun j hj=>?_⟩
  have hC:=Kd.C_mid (lo:=1) (hi:=n) (c:=c) h h1 hn hc
  have hl:((l.take n).drop 1).length=n - 1:=by rw [List.length_drop,List.length_take];omega
  obtain ⟨ad1,e,hc1⟩:=Kd.at_int hC (j:Int) (Int.natCast_nonneg j) (by rw [hl];omega)
  refine ⟨ad1,e,hc1.trans ?_⟩
  show some (Value.int .u8 (((l.take n).drop 1).getD ((j:Int)).toNat 0))=_
  rw [Int.toNat_natCast,List.getD_eq_getElem?_getD,List.getD_eq_getElem?_getD,List.getElem?_drop,List.getElem?_take_of_lt (by omega),Nat.add_comm 1 j]
theorem cutt {A:Option Addr} {l:List Int} {c:Nat} (n:Nat) (hn:n≤l.length) (hc:l.length≤c) :
    ∀ W,(Instr.slice 22 (.slice A l.length c) none (some (.int .i64 (n:Int))) none).run Tryz.prog W=.ok (.slice A n c) W:=by
  intro W
  obtain ⟨i0,hi0,_,hsz,_⟩:=info_parts info5
  have:=cut_to (P:=Tryz.prog) 22 5 .i64 Tryz.underlying22 hi0 A l.length c (n:Int) (Int.natCast_nonneg n) (by omega) hc W
  rw [Int.toNat_natCast] at this
  exact this
theorem add_zero' (ad:Addr):ad.add 0=ad:=if_pos rfl
def tStart (rest b:Int):Int:=wrap64 (Go.bits .and .u8 b rest)
def tStep (x c:Int):Int:=Go.bits .or .i64 (wrap64 (x * 64)) (wrap64 (Go.bits .and .u8 c 63))
def acc1 (l:List Int):Int:=tStart 127 (l.getD 0 0)
def acc2 (l:List Int):Int:=tStep (tStart 31 (l.getD 0 0)) (l.getD 1 0)
def acc3 (l:List Int):Int:=tStep (tStep (tStart 15 (l.getD 0 0)) (l.getD 1 0)) (l.getD 2 0)
def acc4 (l:List Int):Int:=tStep (tStep (tStep (tStart 7 (l.getD 0 0)) (l.getD 1 0)) (l.getD 2 0)) (l.getD 3 0)
def ok1 (l:List Int):Prop:=1≤l.length∧Go.bits .andNot .u8 (l.getD 0 0) 127=0∧putP (acc1 l)=l.take 1
def ok2 (l:List Int):Prop:=2≤l.length∧Go.bits .andNot .u8 (l.getD 0 0) 31=192∧putP (acc2 l)=l.take 2
def ok3 (l:List Int):Prop:=3≤l.length∧Go.bits .andNot .u8 (l.getD 0 0) 15=224∧putP (acc3 l)=l.take 3
def ok4 (l:List Int):Prop:=4≤l.length∧Go.bits .andNot .u8 (l.getD 0 0) 7=240∧putP (acc4 l)=l.take 4
instance (l:List Int):Decidable (ok1 l):=by unfold ok1;infer_instance
instance (l:List Int):Decidable (ok2 l):=by unfold ok2;infer_instance
instance (l:List Int):Decidable (ok3 l):=by unfold ok3;infer_instance
instance (l:List Int):Decidable (ok4 l):=by unfold ok4;infer_instance
def takeC (l:List Int):Int × Int:=if ok1 l then (acc1 l,1) else if ok2 l then (acc2 l,2) else if ok3 l then (acc3 l,3) else if ok4 l then (acc4 l,4) else (0,0)
def nots (l:List Int) (i:Nat):Prop:=(0 < i→¬ ok1 l)∧(1 < i→¬ ok2 l)∧(2 < i→¬ ok3 l)∧(3 < i→¬ ok4 l)
theorem nots_0 (l:List Int):nots l 0:=⟨fun h=>absurd h (by decide),fun h=>absurd h (by decide),fun h=>absurd h (by decide),fun h=>absurd h (by decide)⟩
theorem nots_next1 {l:List Int} (h:nots l 0) (hn:¬ ok1 l):nots l 1:=⟨fun _=>hn,fun h=>absurd h (by decide),fun h=>absurd h (by decide),fun h=>absurd h (by decide)⟩
theorem nots_next2 {l:List Int} (h:nots l 1) (hn:¬ ok2 l):nots l 2:=⟨fun _=>h.1 (by decide),fun _=>hn,fun h=>absurd h (by decide),fun h=>absurd h (by decide)⟩
theorem nots_next3 {l:List Int} (h:nots l 2) (hn:¬ ok3 l):nots l 3:=⟨fun _=>h.1 (by decide),fun _=>h.2.1 (by decide),fun _=>hn,fun h=>absurd h (by decide)⟩
theorem nots_next4 {l:List Int} (h:nots l 3) (hn:¬ ok4 l):nots l 4:=⟨fun _=>h.1 (by decide),fun _=>h.2.1 (by decide),fun _=>h.2.2.1 (by decide),fun _=>hn⟩
theorem takeC_0 {l:List Int} (h:ok1 l):takeC l=(acc1 l,1):=if_pos h
theorem takeC_1 {l:List Int} (h:nots l 1) (h2:ok2 l):takeC l=(acc2 l,2):=(if_neg (h.1 (by decide))).trans (if_pos h2)
theorem takeC_2 {l:List Int} (h:nots l 2) (h2:ok3 l):takeC l=(acc3 l,3):=(if_neg (h.1 (by decide))).trans ((if_neg (h.2.1 (by decide))).trans (if_pos h2))
theorem takeC_3 {l:List Int} (h:nots l 3) (h2:ok4 l):takeC l=(acc4 l,4):=(if_neg (h.1 (by decide))).trans ((if_neg (h.2.1 (by decide))).trans ((if_neg (h.2.2.1 (by decide))).trans (if_pos h2)))
theorem takeC_4 {l:List Int} (h:nots l 4):takeC l=(0,0):=(if_neg (h.1 (by decide))).trans ((if_neg (h.2.1 (by decide))).trans ((if_neg (h.2.2.1 (by decide))).trans (if_neg (h.2.2.2 (by decide)))))
theorem eq_loop (l m:List Int) (hlm:l.length=m.length) (hb:l.length < 1000):∀ (r i k:Nat),i+r=l.length →
    Go.Proofs.YthjacokachgmfaaGreatDoor.E.slices_Equal_byte_byte.l0 (k+r+1) l m (l.length:Int) i=some (decide (l.drop i=m.drop i)):=by
  have rdn:∀ (l:List Int) (i:Nat) (h:i < l.length),rd l (i:Int)=l[i]:=by
    intro l i h
    show l.getD ((i:Int)).toNat 0=_
    rw [Int.toNat_natCast,List.getD_eq_getElem?_getD,List.getElem?_eq_getElem h];rfl
  have w64:∀ n:Int,-9223372036854775808≤n→n≤9223372036854775807→wrap64 n=n:=by intro n h0 h1;unfold wrap64;omega
  intro r
  induction r with
  | zero =>
    intro i k hi
    rw [Go.Proofs.YthjacokachgmfaaGreatDoor.E.slices_Equal_byte_byte.l0,if_neg (by omega),List.drop_of_length_le (by omega),List.drop_of_length_le (by omega)]
    simp
  | succ r ih =>
    intro i k hi
    rw [show k+(r+1)+1=(k+r+1)+1 by omega,Go.Proofs.YthjacokachgmfaaGreatDoor.E.slices_Equal_byte_byte.l0,if_pos (by omega),if_pos (by omega),if_pos (by omega),if_pos (by omega)]
    have h1:i < l.length:=by omega
    have h2:i < m.length:=by omega
    rw [rdn l i h1,rdn m i h2,List.drop_eq_getElem_cons h1,List.drop_eq_getElem_cons h2]
    by_cases h:l[i]=m[i]
    · rw [if_pos h,w64 _ (by omega) (by omega)]
      have:=ih (i+1) k (by omega)
      rw [show ((i:Int)+1)=((i+1:Nat):Int) by omega,this,h]
      exact congrArg some (decide_eq_decide.mpr ⟨fun e=>by rw [e],fun e=>(List.cons.inj e).2⟩)
    · rw [if_neg h]
      exact congrArg some (decide_eq_false (fun e=>h (List.cons.inj e).1)).symm
theorem eq_eq (l m:List Int) (hl:l.length < 1000):∃ k,Go.Proofs.YthjacokachgmfaaGreatDoor.E.slices_Equal_byte_byte.f k l m=some (decide (l=m)):=by
  refine ⟨l.length+1,?_⟩
  unfold Go.Proofs.YthjacokachgmfaaGreatDoor.E.slices_Equal_byte_byte.f
  by_cases h:l.length=m.length
  · rw [if_pos (by omega)]
    have:=eq_loop l m h hl l.length 0 0 (by omega)
    rw [Nat.zero_add] at this
    exact this
  · rw [if_neg (by omega)]
    have:¬ l=m:=fun e=>h (by rw [e])
    simp [this]
theorem equal_c (A0:Option Addr) (c0 n0:Nat) (l0:List Int) (A1:Option Addr) (c1 n1:Nat) (l1:List Int) (w:World) (e0:l0.length=n0) (e1:l1.length=n1) (hs:l0.length < 1000) (hr0:Kd.C (Kd.int .u8) w A0 l0.length l0) (hc0:l0.length≤c0) (hr1:Kd.C (Kd.int .u8) w A1 l1.length l1) (hc1:l1.length≤c1) :
    Calls Tryz.prog 237 #[.slice A0 n0 c0,.slice A1 n1 c1] w fun e w'=>e=.returned (.bool (decide (l0=l1)))∧Below w.heap.size w w':=by
  subst e0 e1
  obtain ⟨k,hk⟩:=eq_eq l0 l1 hs
  refine (Go.Proofs.YthjacokachgmfaaGreatDoor.E.slices_Equal_byte_byte.calls k A0 c0 l0 A1 c1 l1 _ w hr0 hc0 hr1 hc1 hk).mono ?_
  rintro e w' ⟨he,hd⟩
  exact ⟨he,hd.below⟩
theorem putP_len (r:Int):(putP r).length≤4:=by
  unfold putP
  repeat' split
  all_goals simp
def accJ (rest:Int) (l:List Int) (j:Nat):Int:=((l.drop 1).take j).foldl tStep (tStart rest (l.getD 0 0))
theorem accJ_0 (rest:Int) (l:List Int):accJ rest l 0=tStart rest (l.getD 0 0):=by unfold accJ;rw [List.take_zero,List.foldl_nil]
theorem accJ_succ (rest:Int) (l:List Int) (j:Nat) (h:j+1 < l.length):accJ rest l (j+1)=tStep (accJ rest l j) (l.getD (j+1) 0):=by
  have e:(l.drop 1)[j]?=some l[j+1]:=by rw [List.getElem?_drop,Nat.add_comm 1 j,List.getElem?_eq_getElem h]
  have e2:l.getD (j+1) 0=l[j+1]:=by rw [List.getD_eq_getElem?_getD,List.getElem?_eq_getElem h,Option.getD_some]
  unfold accJ
  rw [e2,List.take_add_one,e,Option.toList_some,List.foldl_append,List.foldl_cons,List.foldl_nil]
theorem accJ_1 (l:List Int):accJ 127 l 0=acc1 l:=by rw [accJ_0,acc1]
theorem accJ_2 (l:List Int) (h:2≤l.length):accJ 31 l 1=acc2 l:=by rw [accJ_succ _ _ _ (by omega),accJ_0,acc2]
theorem accJ_3 (l:List Int) (h:3≤l.length):accJ 15 l 2=acc3 l:=by rw [accJ_succ _ _ _ (by omega),accJ_succ _ _ _ (by omega),accJ_0,acc3]
theorem accJ_4 (l:List Int) (h:4≤l.length):accJ 7 l 3=acc4 l:=by rw [accJ_succ _ _ _ (by omega),accJ_succ _ _ _ (by omega),accJ_succ _ _ _ (by omega),accJ_0,acc4]
def Row (i:Nat) (most mark rest:Int):Prop:=(i=0∧most=127∧mark=0∧rest=127)∨(i=1∧most=2047∧mark=192∧rest=31)∨(i=2∧most=65535∧mark=224∧rest=15)∨(i=3∧most=1114111∧mark=240∧rest=7)
theorem row_at (i:Nat) (h:i < 4):∃ most mark rest,Row i most mark rest∧∀ W,(Instr.index 188 (.agg sizeCells) (.int .i64 (i:Int))).run Tryz.prog W=.ok (.agg #[.int .i64 ((i:Int)+1),.int .i64 most,.int .u8 mark,.int .u8 rest]) W:=by
  have hc:i=0∨i=1∨i=2∨i=3:=by omega
  rcases hc with rfl | rfl | rfl | rfl
  · exact ⟨127,0,127,.inl ⟨rfl,rfl,rfl,rfl⟩,ix0⟩
  · exact ⟨2047,192,31,.inr (.inl ⟨rfl,rfl,rfl,rfl⟩),ix1⟩
  · exact ⟨65535,224,15,.inr (.inr (.inl ⟨rfl,rfl,rfl,rfl⟩)),ix2⟩
  · exact ⟨1114111,240,7,.inr (.inr (.inr ⟨rfl,rfl,rfl,rfl⟩)),ix3⟩
theorem skip_row {l:List Int} {i:Nat} {most mark rest:Int} (hr:Row i most mark rest) (h:nots l i) (hn:¬ (i+1≤l.length∧Go.bits .andNot .u8 (l.getD 0 0) rest=mark∧putP (accJ rest l i)=l.take (i+1))):nots l (i+1):=by
  rcases hr with ⟨rfl,_,rfl,rfl⟩ | ⟨rfl,_,rfl,rfl⟩ | ⟨rfl,_,rfl,rfl⟩ | ⟨rfl,_,rfl,rfl⟩
  · exact nots_next1 h (fun k=>hn ⟨k.1,k.2.1,by rw [accJ_1];exact k.2.2⟩)
  · exact nots_next2 h (fun k=>hn ⟨k.1,k.2.1,by rw [accJ_2 l k.1];exact k.2.2⟩)
  · exact nots_next3 h (fun k=>hn ⟨k.1,k.2.1,by rw [accJ_3 l k.1];exact k.2.2⟩)
  · exact nots_next4 h (fun k=>hn ⟨k.1,k.2.1,by rw [accJ_4 l k.1];exact k.2.2⟩)
theorem take_row {l:List Int} {i:Nat} {most mark rest:Int} (hr:Row i most mark rest) (h:nots l i) (h1:i+1≤l.length) (h2:Go.bits .andNot .u8 (l.getD 0 0) rest=mark) (h3:putP (accJ rest l i)=l.take (i+1)):takeC l=(accJ rest l i,(i:Int)+1):=by
  rcases hr with ⟨rfl,_,rfl,rfl⟩ | ⟨rfl,_,rfl,rfl⟩ | ⟨rfl,_,rfl,rfl⟩ | ⟨rfl,_,rfl,rfl⟩
  · rw [accJ_1] at h3 ⊢;exact takeC_0 ⟨h1,h2,h3⟩
  · rw [accJ_2 l h1] at h3 ⊢;exact takeC_1 h ⟨h1,h2,h3⟩
  · rw [accJ_3 l h1] at h3 ⊢;exact takeC_2 h ⟨h1,h2,h3⟩
  · rw [accJ_4 l h1] at h3 ⊢;exact takeC_3 h ⟨h1,h2,h3⟩
set_option maxHeartbeats 8000000 in
theorem utake_t (A0:Option Addr) (c0:Nat) (l0:List Int) (w:World) (hr0:Kd.C (Kd.int .u8) w A0 l0.length l0) (hc0:l0.length≤c0) :
    Calls Tryz.prog 183 #[.slice A0 l0.length c0] w fun e w'=>e=.returned (.tuple #[.int .i64 (takeC l0).1,.int .i64 (takeC l0).2])∧Below w.heap.size w w':=by
  have HR:=Aside0.mk hr0
  have HC:=Aside0.mk hc0
  have hmax:=hr0.2.1
  clear hr0 hc0
  have HB:=Aside0.mk (Below.refl w.heap.size w)
  go_enter Tryz.func183,Tryz.ntmps183
  go_wp2_with (go_at_call 123;(with_reducible refine (sizes_c _).mono ?_);rintro e w2 ⟨rfl,hb⟩;have HB':=Aside0.mk (below_step HB.out hb);clear HB;have HB:=HB';clear HB' hb)
  go_loopw [10] (fun v10 wr=>∃ i:Nat,v10=.int .i64 i∧i≤4∧Aside0 (nots l0 i)∧Aside0 (Below w.heap.size w wr)) (fun v10 _=>4 - (intOf v10).toNat)
  case atStart=>exact ⟨0,rfl,by omega,⟨nots_0 l0⟩,HB⟩
  case round =>
    clear HB
    obtain ⟨i,rfl,hi,hnot,HB⟩:=hrel
    by_cases hi4:i < 4
    · obtain ⟨most,mark,rest,HRow,hix⟩:=row_at i hi4
      have HRow':=Aside0.mk HRow
      clear HRow
      go_wp2
      have B4:(wr.alloc (.cells #[.int .i64 ((i:Int)+1),.int .i64 most,.int .u8 mark,.int .u8 rest] 187 (0,0))).heap[wr.heap.size]?=some (.cells #[.int .i64 ((i:Int)+1),.int .i64 most,.int .u8 mark,.int .u8 rest] 187 (0,0)):=(show (wr.heap.push _)[wr.heap.size]?=_ from Array.getElem?_push_size)
      have HB0:=below_alloc HB.out (.cells #[.int .i64 ((i:Int)+1),.int .i64 most,.int .u8 mark,.int .u8 rest] 187 (0,0))
      generalize (wr.alloc (.cells #[.int .i64 ((i:Int)+1),.int .i64 most,.int .u8 mark,.int .u8 rest] 187 (0,0)))=W0 at B4 HB0 ⊢
      generalize wr.heap.size=g4 at B4 ⊢
      have hcz0:=(blk_cell B4 0).trans rfl
      have hcz1:=(blk_cell B4 1).trans rfl
      have hcz2:=(blk_cell B4 2).trans rfl
      have hcz3:=(blk_cell B4 3).trans rfl
      have hlt4:=blk_lt B4
      have HB1:=Aside0.mk HB0
      have B4':=Aside0.mk B4
      clear B4 HB0 HB
      by_cases hlen:(l0.length:Int) < (i:Int)+1
      · go_region
        go_wp2
        exact ⟨⟨i+1,by push_cast;rfl,by omega,⟨skip_row HRow'.out hnot.out (fun h=>by have:=h.1;omega)⟩,⟨below_drew1 HB1.out⟩⟩,by show 4 - ((i:Int)+1).toNat < 4 - ((i:Int)).toNat;omega⟩
      · obtain ⟨ad,rfl⟩:=some_byte HR.out (j:=0) (by omega)
        have hx0:=byte_at HR.out HB1.out (j:=0) (by omega)
        rw [add_zero'] at hx0
        have hpos:0 < l0.length:=by omega
        obtain ⟨b0,hb0⟩:∃ b,l0.getD 0 0=b:=⟨_,rfl⟩
        rw [hb0] at hx0
        have Hb0:=Aside0.mk hb0
        clear hb0
        by_cases hcl:Go.bits .andNot .u8 b0 rest=mark
        · obtain ⟨A1,c1,hcut,hel⟩:=cutm (i+1) (by omega) (by omega) HR.out HC.out
          have hcut':∀ W,(Instr.slice 22 (.slice (some ad) l0.length c0) (some (.int .i64 1)) (some (.int .i64 ((i:Int)+1))) none).run Tryz.prog W=.ok (.slice A1 i c1) W:=by
            intro W
            have:=hcut W
            rw [show ((i+1:Nat):Int)=(i:Int)+1 by omega,Nat.add_sub_cancel] at this
            exact this
          clear hcut
          have Hel:=Aside0.mk hel
          clear hel
          go_region
          go_wp2
          go_region
          go_wp2
          clear hcz0 hcz1 hcz2 hcz3 hlt4 hx0
          have B5:=Aside0.mk (blk_drew (blk_drew B4'.out))
          have HB5:=Aside0.mk (below_drew1 (below_drew1 HB1.out))
          clear B4' HB1
          generalize W0.drew.drew=W5 at B5 HB5 ⊢
          go_loopw [6,8,41] (fun v6 v8 v41 w'=>∃ j:Nat,v6=.int .i64 (accJ rest l0 j)∧v41=.int .i64 j∧j≤i∧Aside0 (w'.heap[g4]?=some (.cells #[.int .i64 ((i:Int)+1),.int .i64 most,.int .u8 mark,.int .u8 rest] 187 (0,0)))∧Aside0 (Below w.heap.size w w')) (fun v6 v8 v41 _=>i - (intOf v41).toNat)
          case atStart=>exact ⟨0,by rw [accJ_0,Hb0.out,tStart],rfl,Nat.zero_le _,B5,HB5⟩
          case round =>
            clear B5 HB5
            obtain ⟨j,rfl,rfl,hj,B5,HB5⟩:=hrel
            obtain ⟨x,hx⟩:∃ x,accJ rest l0 j=x:=⟨_,rfl⟩
            rw [hx]
            have HX:=Aside0.mk hx
            clear hx
            by_cases hji:j < i
            · obtain ⟨ad1,hA1,hc1⟩:=Hel.out j (by omega)
              subst hA1
              obtain ⟨bj,hbj⟩:∃ b,l0.getD (j+1) 0=b:=⟨_,rfl⟩
              rw [hbj] at hc1
              have HBJ:=Aside0.mk hbj
              clear hbj
              have hce:=pw_cell_below HB5.out hc1
              clear hc1
              go_wp2
              exact ⟨⟨j+1,by rw [accJ_succ _ _ _ (by omega),HX.out,HBJ.out,tStep],by push_cast;rfl,by omega,B5,HB5⟩,by show i - ((j:Int)+1).toNat < i - ((j:Int)).toNat;omega⟩
            · obtain rfl:j=i:=by omega
              have hcutt:∀ W,(Instr.slice 22 (.slice (some ad) l0.length c0) none (some (.int .i64 ((j:Int)+1))) none).run Tryz.prog W=.ok (.slice (some ad) (j+1) c0) W:=by
                intro W
                have:=cutt (A:=some ad) (c:=c0) (l:=l0) (j+1) (by omega) HC.out W
                rw [show ((j+1:Nat):Int)=(j:Int)+1 by omega] at this
                exact this
              have HT:=Aside0.mk (show (l0.take (j+1)).length=j+1 by rw [List.length_take];omega)
              have HCT:=Aside0.mk (Kd.C_take (m:=j+1) HR.out (by omega))
              have HNC:=Aside0.mk (show (l0.take (j+1)).length≤c0 by rw [HT.out];have:=HC.out;omega)
              have hcz0:=(blk_cell B5.out 0).trans rfl
              have hlt4:=blk_lt B5.out
              obtain ⟨D,hD⟩:∃ D,decide (putP x=l0.take (j+1))=D:=⟨_,rfl⟩
              have HD:=Aside0.mk hD
              clear hD
              go_wp2
              go_region_with (first|(go_at_call 72;(with_reducible refine (utf_Put.calls x _ _ rfl).mono ?_);rintro e w3 ⟨v3,rfl,hv3,hb⟩;obtain ⟨A3,c3,rfl⟩:=Kd.R_slice hv3;have HO:=Aside0.mk hv3;have B5':=Aside0.mk (blk_below (by (with_reducible repeat (first | refine blk_drewN ?_ _ | refine blk_drew ?_ | refine blk_alloc ?_ _));exact B5.out) hb);have HB5':=Aside0.mk (below_step (by repeat (first|(with_reducible first | exact HB5.out | apply below_alloc | apply pw_below_drewN | apply below_drew1) | exact HB5.out)) hb);clear B5 HB5 hcz0 hlt4 hv3 hb;have B5:=B5';have HB5:=HB5';clear B5' HB5';have hcz0:=(blk_cell B5.out 0).trans rfl;have hlt4:=blk_lt B5.out)|(go_at_call 237;(with_reducible refine (equal_c A3 c3 _ (putP x) (some ad) c0 (j+1) (l0.take (j+1)) _ rfl HT.out (by have:=putP_len x;omega) (Kd.R_reads' HO.out).2.2 (Kd.R_reads' HO.out).2.1 (Kd.C_below HCT.out HB5.out) HNC.out).mono ?_);rintro e w4 ⟨rfl,hb⟩;rw [HD.out];have B5':=Aside0.mk (blk_below (by (with_reducible repeat (first | refine blk_drewN ?_ _ | refine blk_drew ?_ | refine blk_alloc ?_ _));exact B5.out) hb);have HB5':=Aside0.mk (below_step (by repeat (first|(with_reducible first | exact HB5.out | apply below_alloc | apply pw_below_drewN | apply below_drew1) | exact HB5.out)) hb);clear B5 HB5 hcz0 hlt4 hb;have B5:=B5';have HB5:=HB5';clear B5' HB5';have hcz0:=(blk_cell B5.out 0).trans rfl;have hlt4:=blk_lt B5.out))
              all_goals cases D
              all_goals go_wp2
              all_goals (first|(go_region;go_wp2;go_ret2;rw [take_row HRow'.out hnot.out (by omega) (by rw [Hb0.out];exact hcl) (by rw [HX.out];exact of_decide_eq_true HD.out),HX.out];exact ⟨rfl,by first | exact HB5.out | exact below_drew1 HB5.out⟩) | exact ⟨⟨j+1,by push_cast;rfl,by omega,⟨skip_row HRow'.out hnot.out (fun h=>of_decide_eq_false HD.out (by rw [← HX.out];exact h.2.2))⟩,HB5⟩,by show 4 - ((j:Int)+1).toNat < 4 - ((j:Int)).toNat;omega⟩)
        · go_region
          go_wp2
          exact ⟨⟨i+1,by push_cast;rfl,by omega,⟨skip_row HRow'.out hnot.out (fun h=>hcl (by have:=h.2.1;rw [Hb0.out] at this;exact this))⟩,⟨below_drew1 HB1.out⟩⟩,by show 4 - ((i:Int)+1).toNat < 4 - ((i:Int)).toNat;omega⟩
    · obtain rfl:i=4:=by omega
      go_wp2
      go_ret2
      rw [takeC_4 hnot.out]
      exact ⟨rfl,HB.out⟩
def utf_Take.f (l0:List Int):Option (Int × Int):=some (takeC l0)
theorem utf_Take.calls (A0:Option Addr) (c0:Nat) (l0:List Int) (r1 r2:Int) (w:World) (hr0:Kd.C (Kd.int .u8) w A0 l0.length l0) (hc0:l0.length≤c0) (h:utf_Take.f l0=some (r1,r2)) :
    Calls Tryz.prog 183 #[.slice A0 l0.length c0] w fun e w'=>e=.returned (.tuple #[.int .i64 r1,.int .i64 r2])∧Below w.heap.size w w':=by
  have e:takeC l0=(r1,r2):=Option.some.inj h
  have:=utake_t A0 c0 l0 w hr0 hc0
  rw [e] at this
  exact this
end Go.Proofs.YthjacokachgmfaaGreatDoor.H
end
section
namespace Go.Proofs.YthjacokachgmfaaGreatDoor.H
open Go Go.RowKit Go.Shelf YthjacokachgmfaaGreatDoorW.PrintWords YthjacokachgmfaaGreatDoorW.PrintLast YthjacokachgmfaaGreatDoorW.PrintMore
attribute [local go_sem] Oper.semAt_some
theorem takeC_len (l:List Int):(takeC l).2=0∨(1≤(takeC l).2∧(takeC l).2≤l.length):=by
  unfold takeC
  repeat' split
  · rename_i h;have:=h.1;exact .inr ⟨by simp,by simp;omega⟩
  · rename_i h;have:=h.1;exact .inr ⟨by simp,by simp;omega⟩
  · rename_i h;have:=h.1;exact .inr ⟨by simp,by simp;omega⟩
  · rename_i h;have:=h.1;exact .inr ⟨by simp,by simp;omega⟩
  · exact .inl rfl
def pts:Nat→List Int→List (Int × Bool)
  | 0,_=>[]
  | k+1,l=>if l.length=0 then [] else if (takeC l).2=0 then [((takeC l).1,false)] else ((takeC l).1,true) :: pts k (l.drop (takeC l).2.toNat)
@[reducible] def encP (x:Int × Bool):Array Value:=#[.int .i64 x.1,.bool x.2]
def leftAt (b:Nat) (W:World):Nat:=match W.cell? ⟨b,0,none⟩ with | some (.slice _ n _)=>n | _=>0
theorem leftAt_of {b n c:Nat} {A:Option Addr} {W:World} (h:W.heap[b]?=some (.cells #[.slice A n c] 22 (0,0))):leftAt b W=n:=by
  unfold leftAt
  rw [(blk_cell h 0).trans rfl]
  rfl
theorem grown_of_below {W W':World} (h:Below W.heap.size W W'):W.grownBy W' none:=⟨h.os,h.tape,h.output,h.size,fun k hk _=>h.block k hk⟩
set_option maxRecDepth 100000 in
set_option maxHeartbeats 2000000 in
theorem points_seq (w:World) (n:Nat) (hn:3≤n) (b:Nat) (A0:Option Addr) (c0:Nat) (l0:List Int) (hr0:Kd.C (Kd.int .u8) w A0 l0.length l0) (hc0:l0.length≤c0) (hb:w.heap.size≤b) (W:World) (hW:Below w.heap.size w W)
    (hcell:W.heap[b]?=some (.cells #[.slice A0 l0.length c0] 22 (0,0))):SeqCell b w.heap.size Fence.wide n Tryz.prog 182 #[.pointer (some ⟨b,0,none⟩)] encP (pts (l0.length+1) l0) W:=by
  intro l J Jx hJ hJx hJb hJxb hY h0
  refine callsIn_of_wp Tryz.func182 rfl trivial ?_ rfl
  simp only [Tryz.ntmps182,List.size_toArray,List.length_cons,List.length_nil,Nat.reduceAdd,Nat.reduceSub,Array.replicate_succ,Array.replicate_zero,List.push_toArray,List.append_toArray,List.nil_append,List.cons_append]
  gi_wp2
  gi_loopw [3] (fun v3 wr=>∃ (k m:Nat) (pre:List (Int × Bool)) (A:Option Addr) (c:Nat),m≤l0.length∧l0.length - m < k∧Aside0 (pts (l0.length+1) l0=pre++pts k (l0.drop m))∧Aside0 (wr.heap[b]?=some (.cells #[.slice A (l0.drop m).length c] 22 (0,0)))∧Aside0 (Kd.C (Kd.int .u8) w A (l0.drop m).length (l0.drop m)∧(l0.drop m).length≤c)∧Aside0 (J pre wr)∧Aside0 (Below w.heap.size w wr)) (fun _ wr=>leftAt b wr)
  case atStart=>exact ⟨l0.length+1,0,[],A0,c0,Nat.zero_le _,by omega,⟨rfl⟩,⟨hcell⟩,⟨hr0,hc0⟩,⟨h0⟩,⟨hW⟩⟩
  case round =>
    obtain ⟨k,m,pre,A,c,hm,hk,HP,HC,HR,HJ,HB⟩:=hrel
    have hcz:=(blk_cell HC.out 0).trans rfl
    have hfz:=blk_frozen HC.out 0
    have hlt:=blk_lt HC.out
    obtain ⟨L,hL⟩:∃ L,l0.drop m=L:=⟨_,rfl⟩
    rw [hL] at HC HR HP hcz
    have HLl:=Aside0.mk (show L.length=l0.length - m by rw [← hL,List.length_drop])
    have HLd:=Aside0.mk hL
    clear hL
    obtain ⟨k,rfl⟩:∃ q,k=q+1:=⟨k - 1,by omega⟩
    by_cases hz:L.length=0
    · have hall:pts (l0.length+1) l0=pre:=by rw [HP.out,pts,if_pos hz,List.append_nil]
      have Hall:=Aside0.mk hall
      clear hall
      gi_wp2
      go_end0
      exact ⟨⟨_,rfl⟩,.inl (by rw [Hall.out];exact HJ.out)⟩
    · obtain ⟨r1,r2,hT⟩:∃ r1 r2,takeC L=(r1,r2):=⟨_,_,rfl⟩
      have hlen2:=takeC_len L
      rw [hT] at hlen2
      by_cases hr2:r2=0
      · have hall:pts (l0.length+1) l0=pre++[(r1,false)]:=by rw [HP.out,pts,if_neg hz,hT,if_pos hr2]
        have Hall:=Aside0.mk hall
        have HT:=Aside0.mk (show utf_Take.f L=some (r1,r2) by rw [utf_Take.f,hT])
        clear hall hT
        subst hr2
        gi_wp2
        refine ⟨trivial,fun _=>by omega,?_⟩
        refine (callsIn_wide.2 (utf_Take.calls A c L r1 0 _ (Kd.C_below HR.out.1 HB.out) HR.out.2 HT.out)).mono ?_
        rintro e w1 ⟨rfl,hb1⟩
        have HJ1:=hJ pre wr w1 none HJ.out (grown_of_below hb1) (fun _ e=>by cases e)
        obtain ⟨fn,tmps,assign,body,hy,hR⟩:=hY pre (r1,false) w1 HJ1 (by rw [Hall.out];exact List.prefix_refl _)
        dsimp only [encP] at hy
        gi_wp2
        refine ⟨fun _=>by omega,hR.mono ?_⟩
        rintro e W3 (⟨rfl,hJ3,hk3⟩ | ⟨rfl,hJx3⟩)
        · gi_wp2
          refine bodyPost_ret (results_none rfl _ _ _) rfl ?_
          exact ⟨⟨_,rfl⟩,.inl (by rw [Hall.out];exact hJ3)⟩
        · gi_wp2
          refine bodyPost_ret (results_none rfl _ _ _) rfl ?_
          exact ⟨⟨_,rfl⟩,.inr ⟨pre++[(r1,false)],by rw [Hall.out];exact List.prefix_refl _,hJx3⟩⟩
      · have hp2:1≤r2∧r2≤L.length:=by omega
        have hdp:decide (0 < r2)=true:=decide_eq_true (by omega)
        have hnext:pts (l0.length+1) l0=(pre++[(r1,true)])++pts k (l0.drop (m+r2.toNat)):=by
          rw [HP.out,pts,if_neg hz,hT,if_neg hr2,← List.drop_drop,HLd.out,List.append_assoc]
          rfl
        have Hnext:=Aside0.mk hnext
        have HT:=Aside0.mk (show utf_Take.f L=some (r1,r2) by rw [utf_Take.f,hT])
        have HP2:=Aside0.mk hp2
        clear hnext hT hlen2
        gi_wp2
        refine ⟨trivial,fun _=>by omega,?_⟩
        refine (callsIn_wide.2 (utf_Take.calls A c L r1 r2 _ (Kd.C_below HR.out.1 HB.out) HR.out.2 HT.out)).mono ?_
        rintro e w1 ⟨rfl,hb1⟩
        have HJ1:=hJ pre wr w1 none HJ.out (grown_of_below hb1) (fun _ e=>by cases e)
        have HB1:=Aside0.mk (below_step HB.out hb1)
        have HC1:=Aside0.mk (blk_below HC.out hb1)
        obtain ⟨fn,tmps,assign,body,hy,hR⟩:=hY pre (r1,true) w1 HJ1 (by rw [Hnext.out];exact List.prefix_append _ _)
        dsimp only [encP] at hy
        gi_wp2
        refine ⟨fun _=>by omega,hR.mono ?_⟩
        rintro e W3 (⟨rfl,hJ3,hk3⟩ | ⟨rfl,hJx3⟩)
        · have HC3:=Aside0.mk (hk3.cell.trans HC1.out)
          have HB3:=Aside0.mk (HB1.out.trans hk3.low)
          have hcz3:=(blk_cell HC3.out 0).trans rfl
          have hfz3:=blk_frozen HC3.out 0
          have hb0:(r2 == 0)=false:=by simpa using hr2
          obtain ⟨i0,hi0,_,hsz,_⟩:=info_parts info5
          have hcut:=cut_from (P:=Tryz.prog) 22 5 .i64 Tryz.underlying22 hi0 1 hsz A L.length c r2 (by omega) (by omega)
          have hCd:=Kd.C_drop (m:=r2.toNat) (c:=c) HR.out.1 (by omega) HR.out.2
          have hdd:L.drop r2.toNat=l0.drop (m+r2.toNat):=by rw [← HLd.out,List.drop_drop]
          have hdl:L.length - r2.toNat=(l0.drop (m+r2.toNat)).length:=by rw [← hdd,List.length_drop]
          rw [hdd] at hCd
          rw [hdl] at hcut
          obtain ⟨A',hA'⟩:∃ A',(if c=r2.toNat then A else A.map (·.add (r2.toNat * 1)))=A':=⟨_,rfl⟩
          obtain ⟨c',hc'⟩:∃ c',c - r2.toNat=c':=⟨_,rfl⟩
          have hcl:(l0.drop (m+r2.toNat)).length≤c':=by have:=HR.out.2;omega
          rw [hA',hc'] at hcut
          have hCd':Kd.C (Kd.int .u8) w A' (l0.drop (m+r2.toNat)).length (l0.drop (m+r2.toNat)):=hA' ▸ hCd
          have HCd:=Aside0.mk hCd'
          have HCl:=Aside0.mk hcl
          have HDl:=Aside0.mk hdl
          clear hCd hCd' hcl hdd hA' hc' hdl hi0 hsz
          obtain ⟨n',hn'⟩:∃ n',(l0.drop (m+r2.toNat)).length=n':=⟨_,rfl⟩
          rw [hn'] at hcut
          have HN':=Aside0.mk hn'
          clear hn'
          gi_wp2
          have hB:=blk_put (cs:=#[.slice A L.length c]) HC3.out 0 (.slice A' n' c') rfl
          have e1:=HLl.out
          have e2:=HP2.out
          have e3:=HDl.out
          have e4:=HN'.out
          refine ⟨⟨k,m+r2.toNat,pre++[(r1,true)],A',c',by omega,by omega,Hnext,⟨by rw [HN'.out];exact hB⟩,⟨HCd.out,HCl.out⟩,⟨hJb _ _ _ hJ3⟩,⟨below_set HB3.out hb⟩⟩,?_⟩
          rw [leftAt_of hB,leftAt_of HC.out]
          omega
        · gi_wp2
          refine bodyPost_ret (results_none rfl _ _ _) rfl ?_
          exact ⟨⟨_,rfl⟩,.inr ⟨pre++[(r1,true)],by rw [Hnext.out];exact List.prefix_append _ _,hJx3⟩⟩
end Go.Proofs.YthjacokachgmfaaGreatDoor.H
end
