import Derived.Test.YthjacokachgmfaaGreatDoorT04
import Derived.Test.YthjacokachgmfaaGreatDoorT11
set_option linter.unusedVariables false
set_option linter.unusedSimpArgs false
section
namespace Go.Proofs.YthjacokachgmfaaGreatDoor.F
open YthjacokachgmfaaGreatDoor.H Go.RowKit YthjacokachgmfaaGreatDoorW.PrintWords YthjacokachgmfaaGreatDoorW.PrintLast YthjacokachgmfaaGreatDoorW.PrintMore
attribute [local go_sem] max2_int min2_int max_two min_two max_three min_three max_four min_four
def clavierref02_guess.f (l0:List Int) (a1:Int):Option (Int):=if a1=1 then (if 0 < (l0.length:Int) then (some (wrap64 (rd l0 0))) else (none)) else (if a1=2 then (if 0 < (l0.length:Int) then (if 1 < (l0.length:Int) then (some (((((rd l0 0) - 192) % 256) * 64)+(((rd l0 1) - 128) % 256))) else (none)) else (none)) else (if a1=3 then (if 0 < (l0.length:Int) then (if 1 < (l0.length:Int) then (if 2 < (l0.length:Int) then (some ((((((rd l0 0) - 224) % 256) * 4096)+((((rd l0 1) - 128) % 256) * 64))+(((rd l0 2) - 128) % 256))) else (none)) else (none)) else (none)) else (if 0 < (l0.length:Int) then (if 1 < (l0.length:Int) then (if 2 < (l0.length:Int) then (if 3 < (l0.length:Int) then (some (((((((rd l0 0) - 240) % 256) * 262144)+((((rd l0 1) - 128) % 256) * 4096))+((((rd l0 2) - 128) % 256) * 64))+(((rd l0 3) - 128) % 256))) else (none)) else (none)) else (none)) else (none))))
set_option maxHeartbeats 8000000 in
set_option maxRecDepth 100000 in
theorem clavierref02_guess.calls (A0:Option Addr) (c0:Nat) (l0:List Int) (a1:Int) (r:Int) (w:World) (hr0:Kd.C (Kd.int .u8) w A0 l0.length l0) (hc0:l0.length≤c0) (h:clavierref02_guess.f l0 a1=some r) :
    Calls Tryz.prog 180 #[.slice A0 l0.length c0,.int .i64 a1] w fun e w'=>e=.returned (.int .i64 r)∧Drawn0 w w':=by
  have HR0:=Aside0.mk hr0
  have HC0:=Aside0.mk hc0
  clear hr0 hc0
  have H:(if a1=1 then (if 0 < (l0.length:Int) then (some (wrap64 (rd l0 0))) else (none)) else (if a1=2 then (if 0 < (l0.length:Int) then (if 1 < (l0.length:Int) then (some (((((rd l0 0) - 192) % 256) * 64)+(((rd l0 1) - 128) % 256))) else (none)) else (none)) else (if a1=3 then (if 0 < (l0.length:Int) then (if 1 < (l0.length:Int) then (if 2 < (l0.length:Int) then (some ((((((rd l0 0) - 224) % 256) * 4096)+((((rd l0 1) - 128) % 256) * 64))+(((rd l0 2) - 128) % 256))) else (none)) else (none)) else (none)) else (if 0 < (l0.length:Int) then (if 1 < (l0.length:Int) then (if 2 < (l0.length:Int) then (if 3 < (l0.length:Int) then (some (((((((rd l0 0) - 240) % 256) * 262144)+((((rd l0 1) - 128) % 256) * 4096))+((((rd l0 2) - 128) % 256) * 64))+(((rd l0 3) - 128) % 256))) else (none)) else (none)) else (none)) else (none)))))=some r:=h
  clear h
  by_cases c3:a1=1
  · rw [if_pos c3] at H
    have c3b0:(a1 == 1)=true:=beq_iff_eq.mpr c3
    have c3b1:(a1 != 1)=false:=bne_eq_false_iff_eq.mpr c3
    clear c3
    by_cases c4:0 < (l0.length:Int)
    · rw [if_pos c4] at H
      have c4b0:decide (0 < (l0.length:Int))=true:=decide_eq_true c4
      have c4b1:decide (0 < l0.length)=true:=decide_eq_true (by omega)
      clear c4
      obtain rfl:=Option.some.inj H
      have p101:0≤(0:Int):=(by omega)
      have q101:0 < (l0.length:Int):=of_decide_eq_true (by first|(with_reducible assumption) | assumption)
      obtain ⟨ad101,e101,hx101_0⟩:=Kd.at_int HR0.out 0 p101 q101
      cases e101
      have qi101:(0 < l0.length)=True:=eq_true (by omega)
      (try rw [show ((0:Int)).toNat=0 from rfl] at hx101_0)
      (try rw [Addr.add_zero'] at hx101_0)
      replace p101:=eq_true p101
      replace q101:=eq_true q101
      go_enter Tryz.func180,Tryz.ntmps180
      go_wp2
      repeat (go_quiet (fail);try go_wp2)
      go_ret
      exact fD
    · rw [if_neg c4] at H
      exact absurd H (by simp)
  · rw [if_neg c3] at H
    have c3b0:(a1 == 1)=false:=beq_eq_false_iff_ne.mpr c3
    have c3b1:(a1 != 1)=true:=bne_iff_ne.mpr c3
    by_cases c5:a1=2
    · rw [if_pos c5] at H
      have c5b0:(a1 == 2)=true:=beq_iff_eq.mpr c5
      have c5b1:(a1 != 2)=false:=bne_eq_false_iff_eq.mpr c5
      clear c5
      by_cases c6:0 < (l0.length:Int)
      · rw [if_pos c6] at H
        have c6b0:decide (0 < (l0.length:Int))=true:=decide_eq_true c6
        have c6b1:decide (0 < l0.length)=true:=decide_eq_true (by omega)
        clear c6
        by_cases c7:1 < (l0.length:Int)
        · rw [if_pos c7] at H
          have c7b0:decide (1 < (l0.length:Int))=true:=decide_eq_true c7
          have c7b1:decide (1 < l0.length)=true:=decide_eq_true (by omega)
          clear c7
          obtain rfl:=Option.some.inj H
          have p102:0≤(0:Int):=(by omega)
          have q102:0 < (l0.length:Int):=of_decide_eq_true (by first|(with_reducible assumption) | assumption)
          obtain ⟨ad102,e102,hx102_0⟩:=Kd.at_int HR0.out 0 p102 q102
          cases e102
          have qi102:(0 < l0.length)=True:=eq_true (by omega)
          (try rw [show ((0:Int)).toNat=0 from rfl] at hx102_0)
          (try rw [Addr.add_zero'] at hx102_0)
          replace p102:=eq_true p102
          replace q102:=eq_true q102
          have p103:0≤(1:Int):=(by omega)
          have q103:1 < (l0.length:Int):=of_decide_eq_true (by first|(with_reducible assumption) | assumption)
          obtain ⟨ad103,e103,hx103_0⟩:=Kd.at_int HR0.out 1 p103 q103
          obtain rfl:ad102=ad103:=(by injection e103)
          (try simp only [show (1:Int).toNat=1 from rfl,Nat.reduceMul,Nat.reduceEqDiff,Go.Addr.add,↓reduceIte] at hx103_0)
          have qi103:(1 < l0.length)=True:=eq_true (by omega)
          (try rw [show ((1:Int)).toNat=1 from rfl] at hx103_0)
          replace p103:=eq_true p103
          replace q103:=eq_true q103
          go_enter Tryz.func180,Tryz.ntmps180
          go_wp2
          repeat (go_quiet (fail);try go_wp2)
          go_ret
          exact fD
        · rw [if_neg c7] at H
          exact absurd H (by simp)
      · rw [if_neg c6] at H
        exact absurd H (by simp)
    · rw [if_neg c5] at H
      have c5b0:(a1 == 2)=false:=beq_eq_false_iff_ne.mpr c5
      have c5b1:(a1 != 2)=true:=bne_iff_ne.mpr c5
      by_cases c8:a1=3
      · rw [if_pos c8] at H
        have c8b0:(a1 == 3)=true:=beq_iff_eq.mpr c8
        have c8b1:(a1 != 3)=false:=bne_eq_false_iff_eq.mpr c8
        clear c8
        by_cases c9:0 < (l0.length:Int)
        · rw [if_pos c9] at H
          have c9b0:decide (0 < (l0.length:Int))=true:=decide_eq_true c9
          have c9b1:decide (0 < l0.length)=true:=decide_eq_true (by omega)
          clear c9
          by_cases c10:1 < (l0.length:Int)
          · rw [if_pos c10] at H
            have c10b0:decide (1 < (l0.length:Int))=true:=decide_eq_true c10
            have c10b1:decide (1 < l0.length)=true:=decide_eq_true (by omega)
            clear c10
            by_cases c11:2 < (l0.length:Int)
            · rw [if_pos c11] at H
              have c11b0:decide (2 < (l0.length:Int))=true:=decide_eq_true c11
              have c11b1:decide (2 < l0.length)=true:=decide_eq_true (by omega)
              clear c11
              obtain rfl:=Option.some.inj H
              have p104:0≤(0:Int):=(by omega)
              have q104:0 < (l0.length:Int):=of_decide_eq_true (by first|(with_reducible assumption) | assumption)
              obtain ⟨ad104,e104,hx104_0⟩:=Kd.at_int HR0.out 0 p104 q104
              cases e104
              have qi104:(0 < l0.length)=True:=eq_true (by omega)
              (try rw [show ((0:Int)).toNat=0 from rfl] at hx104_0)
              (try rw [Addr.add_zero'] at hx104_0)
              replace p104:=eq_true p104
              replace q104:=eq_true q104
              have p105:0≤(1:Int):=(by omega)
              have q105:1 < (l0.length:Int):=of_decide_eq_true (by first|(with_reducible assumption) | assumption)
              obtain ⟨ad105,e105,hx105_0⟩:=Kd.at_int HR0.out 1 p105 q105
              obtain rfl:ad104=ad105:=(by injection e105)
              (try simp only [show (1:Int).toNat=1 from rfl,Nat.reduceMul,Nat.reduceEqDiff,Go.Addr.add,↓reduceIte] at hx105_0)
              have qi105:(1 < l0.length)=True:=eq_true (by omega)
              (try rw [show ((1:Int)).toNat=1 from rfl] at hx105_0)
              replace p105:=eq_true p105
              replace q105:=eq_true q105
              have p106:0≤(2:Int):=(by omega)
              have q106:2 < (l0.length:Int):=of_decide_eq_true (by first|(with_reducible assumption) | assumption)
              obtain ⟨ad106,e106,hx106_0⟩:=Kd.at_int HR0.out 2 p106 q106
              obtain rfl:ad104=ad106:=(by injection e106)
              (try simp only [show (2:Int).toNat=2 from rfl,Nat.reduceMul,Nat.reduceEqDiff,Go.Addr.add,↓reduceIte] at hx106_0)
              have qi106:(2 < l0.length)=True:=eq_true (by omega)
              (try rw [show ((2:Int)).toNat=2 from rfl] at hx106_0)
              replace p106:=eq_true p106
              replace q106:=eq_true q106
              go_enter Tryz.func180,Tryz.ntmps180
              go_wp2
              repeat (go_quiet (fail);try go_wp2)
              go_ret
              exact fD
            · rw [if_neg c11] at H
              exact absurd H (by simp)
          · rw [if_neg c10] at H
            exact absurd H (by simp)
        · rw [if_neg c9] at H
          exact absurd H (by simp)
      · rw [if_neg c8] at H
        have c8b0:(a1 == 3)=false:=beq_eq_false_iff_ne.mpr c8
        have c8b1:(a1 != 3)=true:=bne_iff_ne.mpr c8
        by_cases c12:0 < (l0.length:Int)
        · rw [if_pos c12] at H
          have c12b0:decide (0 < (l0.length:Int))=true:=decide_eq_true c12
          have c12b1:decide (0 < l0.length)=true:=decide_eq_true (by omega)
          clear c12
          by_cases c13:1 < (l0.length:Int)
          · rw [if_pos c13] at H
            have c13b0:decide (1 < (l0.length:Int))=true:=decide_eq_true c13
            have c13b1:decide (1 < l0.length)=true:=decide_eq_true (by omega)
            clear c13
            by_cases c14:2 < (l0.length:Int)
            · rw [if_pos c14] at H
              have c14b0:decide (2 < (l0.length:Int))=true:=decide_eq_true c14
              have c14b1:decide (2 < l0.length)=true:=decide_eq_true (by omega)
              clear c14
              by_cases c15:3 < (l0.length:Int)
              · rw [if_pos c15] at H
                have c15b0:decide (3 < (l0.length:Int))=true:=decide_eq_true c15
                have c15b1:decide (3 < l0.length)=true:=decide_eq_true (by omega)
                clear c15
                obtain rfl:=Option.some.inj H
                have p107:0≤(0:Int):=(by omega)
                have q107:0 < (l0.length:Int):=of_decide_eq_true (by first|(with_reducible assumption) | assumption)
                obtain ⟨ad107,e107,hx107_0⟩:=Kd.at_int HR0.out 0 p107 q107
                cases e107
                have qi107:(0 < l0.length)=True:=eq_true (by omega)
                (try rw [show ((0:Int)).toNat=0 from rfl] at hx107_0)
                (try rw [Addr.add_zero'] at hx107_0)
                replace p107:=eq_true p107
                replace q107:=eq_true q107
                have p108:0≤(1:Int):=(by omega)
                have q108:1 < (l0.length:Int):=of_decide_eq_true (by first|(with_reducible assumption) | assumption)
                obtain ⟨ad108,e108,hx108_0⟩:=Kd.at_int HR0.out 1 p108 q108
                obtain rfl:ad107=ad108:=(by injection e108)
                (try simp only [show (1:Int).toNat=1 from rfl,Nat.reduceMul,Nat.reduceEqDiff,Go.Addr.add,↓reduceIte] at hx108_0)
                have qi108:(1 < l0.length)=True:=eq_true (by omega)
                (try rw [show ((1:Int)).toNat=1 from rfl] at hx108_0)
                replace p108:=eq_true p108
                replace q108:=eq_true q108
                have p109:0≤(2:Int):=(by omega)
                have q109:2 < (l0.length:Int):=of_decide_eq_true (by first|(with_reducible assumption) | assumption)
                obtain ⟨ad109,e109,hx109_0⟩:=Kd.at_int HR0.out 2 p109 q109
                obtain rfl:ad107=ad109:=(by injection e109)
                (try simp only [show (2:Int).toNat=2 from rfl,Nat.reduceMul,Nat.reduceEqDiff,Go.Addr.add,↓reduceIte] at hx109_0)
                have qi109:(2 < l0.length)=True:=eq_true (by omega)
                (try rw [show ((2:Int)).toNat=2 from rfl] at hx109_0)
                replace p109:=eq_true p109
                replace q109:=eq_true q109
                have p110:0≤(3:Int):=(by omega)
                have q110:3 < (l0.length:Int):=of_decide_eq_true (by first|(with_reducible assumption) | assumption)
                obtain ⟨ad110,e110,hx110_0⟩:=Kd.at_int HR0.out 3 p110 q110
                obtain rfl:ad107=ad110:=(by injection e110)
                (try simp only [show (3:Int).toNat=3 from rfl,Nat.reduceMul,Nat.reduceEqDiff,Go.Addr.add,↓reduceIte] at hx110_0)
                have qi110:(3 < l0.length)=True:=eq_true (by omega)
                (try rw [show ((3:Int)).toNat=3 from rfl] at hx110_0)
                replace p110:=eq_true p110
                replace q110:=eq_true q110
                go_enter Tryz.func180,Tryz.ntmps180
                go_wp2
                repeat (go_quiet (fail);try go_wp2)
                go_ret
                exact fD
              · rw [if_neg c15] at H
                exact absurd H (by simp)
            · rw [if_neg c14] at H
              exact absurd H (by simp)
          · rw [if_neg c13] at H
            exact absurd H (by simp)
        · rw [if_neg c12] at H
          exact absurd H (by simp)
def clavierref02_Is.f (a0:Int):Option (Bool):=if a0≥0 then (if a0≤1114111 then (if a0 < 55296 then (some true) else (some (decide (a0 > 57343)))) else (some false)) else (some false)
set_option maxHeartbeats 8000000 in
set_option maxRecDepth 100000 in
theorem clavierref02_Is.calls (a0:Int) (r:Bool) (w:World) (h:clavierref02_Is.f a0=some r) :
    Calls Tryz.prog 117 #[.int .i64 a0] w fun e w'=>e=.returned (.bool r)∧Drawn0 w w':=by
  have H:(if a0≥0 then (if a0≤1114111 then (if a0 < 55296 then (some true) else (some (decide (a0 > 57343)))) else (some false)) else (some false))=some r:=h
  clear h
  by_cases c2:a0≥0
  · rw [if_pos c2] at H
    have c2b0:decide (0≤a0)=true:=decide_eq_true c2
    clear c2
    by_cases c3:a0≤1114111
    · rw [if_pos c3] at H
      have c3b0:decide (a0≤1114111)=true:=decide_eq_true c3
      clear c3
      by_cases c4:a0 < 55296
      · rw [if_pos c4] at H
        have c4b0:decide (a0 < 55296)=true:=decide_eq_true c4
        clear c4
        obtain rfl:=Option.some.inj H
        go_enter Tryz.func117,Tryz.ntmps117
        go_wp2
        go_ret
        exact fD
      · rw [if_neg c4] at H
        have c4b0:decide (a0 < 55296)=false:=decide_eq_false c4
        clear c4
        obtain rfl:=Option.some.inj H
        go_enter Tryz.func117,Tryz.ntmps117
        go_wp2
        go_ret
        exact fD
    · rw [if_neg c3] at H
      have c3b0:decide (a0≤1114111)=false:=decide_eq_false c3
      clear c3
      obtain rfl:=Option.some.inj H
      go_enter Tryz.func117,Tryz.ntmps117
      go_wp2
      go_ret
      exact fD
  · rw [if_neg c2] at H
    have c2b0:decide (0≤a0)=false:=decide_eq_false c2
    clear c2
    obtain rfl:=Option.some.inj H
    go_enter Tryz.func117,Tryz.ntmps117
    go_wp2
    go_ret
    exact fD
def clavierref02_Put.f (a0:Int):Option (List Int):=(clavierref02_Is.f a0).bind fun t111=>(if t111=true then (if a0 < 128 then (some (([(a0) % 256]:List Int))) else (if a0 < 2048 then (some (([(wrap64 (192+(wrap64 (Int.tdiv a0 64)))) % 256,(wrap64 (128+(Int.tmod a0 64))) % 256]:List Int))) else (if a0 < 65536 then (some (([(wrap64 (224+(wrap64 (Int.tdiv a0 4096)))) % 256,(wrap64 (128+(Int.tmod (wrap64 (Int.tdiv a0 64)) 64))) % 256,(wrap64 (128+(Int.tmod a0 64))) % 256]:List Int))) else (some (([(wrap64 (240+(wrap64 (Int.tdiv a0 262144)))) % 256,(wrap64 (128+(Int.tmod (wrap64 (Int.tdiv a0 4096)) 64))) % 256,(wrap64 (128+(Int.tmod (wrap64 (Int.tdiv a0 64)) 64))) % 256,(wrap64 (128+(Int.tmod a0 64))) % 256]:List Int)))))) else (some ([]:List Int)))
set_option maxHeartbeats 8000000 in
set_option maxRecDepth 100000 in
theorem clavierref02_Put.calls (a0:Int) (r:List Int) (w:World) (h:clavierref02_Put.f a0=some r) :
    Calls Tryz.prog 181 #[.int .i64 a0] w fun e w'=>∃ v0_:Value,e=.returned (v0_)∧Kd.R (Kd.int .u8) 5 w' w.heap.size (fun _=>True) v0_ r∧Below w.heap.size w w':=by
  have HB:=Aside0.mk (Below.refl w.heap.size w)
  have H:((clavierref02_Is.f a0).bind fun t111=>(if t111=true then (if a0 < 128 then (some (([(a0) % 256]:List Int))) else (if a0 < 2048 then (some (([(wrap64 (192+(wrap64 (Int.tdiv a0 64)))) % 256,(wrap64 (128+(Int.tmod a0 64))) % 256]:List Int))) else (if a0 < 65536 then (some (([(wrap64 (224+(wrap64 (Int.tdiv a0 4096)))) % 256,(wrap64 (128+(Int.tmod (wrap64 (Int.tdiv a0 64)) 64))) % 256,(wrap64 (128+(Int.tmod a0 64))) % 256]:List Int))) else (some (([(wrap64 (240+(wrap64 (Int.tdiv a0 262144)))) % 256,(wrap64 (128+(Int.tmod (wrap64 (Int.tdiv a0 4096)) 64))) % 256,(wrap64 (128+(Int.tmod (wrap64 (Int.tdiv a0 64)) 64))) % 256,(wrap64 (128+(Int.tmod a0 64))) % 256]:List Int)))))) else (some ([]:List Int))))=some r:=h
  clear h
  replace H:=Option.bind_eq_some_iff.mp H
  obtain ⟨t111,A20,H⟩:=H
  replace H:(if t111=true then (if a0 < 128 then (some (([(a0) % 256]:List Int))) else (if a0 < 2048 then (some (([(wrap64 (192+(wrap64 (Int.tdiv a0 64)))) % 256,(wrap64 (128+(Int.tmod a0 64))) % 256]:List Int))) else (if a0 < 65536 then (some (([(wrap64 (224+(wrap64 (Int.tdiv a0 4096)))) % 256,(wrap64 (128+(Int.tmod (wrap64 (Int.tdiv a0 64)) 64))) % 256,(wrap64 (128+(Int.tmod a0 64))) % 256]:List Int))) else (some (([(wrap64 (240+(wrap64 (Int.tdiv a0 262144)))) % 256,(wrap64 (128+(Int.tmod (wrap64 (Int.tdiv a0 4096)) 64))) % 256,(wrap64 (128+(Int.tmod (wrap64 (Int.tdiv a0 64)) 64))) % 256,(wrap64 (128+(Int.tmod a0 64))) % 256]:List Int)))))) else (some ([]:List Int)))=some r:=H
  have A2:=Aside0.mk A20
  clear A20
  by_cases c3:t111=true
  · subst c3
    have H1:(if a0 < 128 then (some (([(a0) % 256]:List Int))) else (if a0 < 2048 then (some (([(wrap64 (192+(wrap64 (Int.tdiv a0 64)))) % 256,(wrap64 (128+(Int.tmod a0 64))) % 256]:List Int))) else (if a0 < 65536 then (some (([(wrap64 (224+(wrap64 (Int.tdiv a0 4096)))) % 256,(wrap64 (128+(Int.tmod (wrap64 (Int.tdiv a0 64)) 64))) % 256,(wrap64 (128+(Int.tmod a0 64))) % 256]:List Int))) else (some (([(wrap64 (240+(wrap64 (Int.tdiv a0 262144)))) % 256,(wrap64 (128+(Int.tmod (wrap64 (Int.tdiv a0 4096)) 64))) % 256,(wrap64 (128+(Int.tmod (wrap64 (Int.tdiv a0 64)) 64))) % 256,(wrap64 (128+(Int.tmod a0 64))) % 256]:List Int))))))=some r:=by rw [if_pos rfl] at H;exact H
    clear H
    have H:=H1
    clear H1
    by_cases c4:a0 < 128
    · rw [if_pos c4] at H
      have c4b0:decide (a0 < 128)=true:=decide_eq_true c4
      clear c4
      obtain ⟨y112,hy112⟩:∃ y_:List Int,y_=(([(a0) % 256]:List Int)):=⟨_,rfl⟩
      replace H:(some y112)=some r:=by first|(rw [hy112];with_reducible exact H)|(have H2_:=(Option.bind_some _ _).symm.trans H;rw [hy112];with_reducible exact H2_)|(have H2_:=(Option.bind_some _ _).symm.trans H;with_reducible exact H2_) | with_reducible exact H|(rw [hy112];exact H) | exact H
      have Ny112:=Aside0.mk hy112
      clear hy112
      obtain rfl:=Option.some.inj H
      go_enter Tryz.func181,Tryz.ntmps181
      go_wp2_with (first|((with_reducible refine gate_callee (f:=117) rfl ?_);refine goesL_ (some 4) rfl rfl Tryz.func117 (by kernel_rfl) rfl #[.int .i64 a0] rfl (by (try simp only [List.map_toArray,List.map_cons,List.map_nil]);first | done | rfl) ?_;(with_reducible refine (clavierref02_Is.calls a0 true _ A2.out).mono ?_);rintro e w' ⟨rfl,⟨nd,rfl⟩⟩;refine ⟨_,rfl,?_⟩)|((with_reducible refine gate_dst (N:=10) rfl ?_);refine Kd.R_lit (Kd.int .u8) _ 5 ?hg (N:=10) ?hd (xs:=([(a0) % 256]:List Int)) (inner:=[.int .u8 ((a0) % 256)]) (ok:=fun _=>True) (okp:=fun _=>True) ?hr ?hp (fun _ hk=>hk) trivial (Below.refl _ _) (Nat.le_refl _) (by simp) ?_;(case hd=>rfl);(case hg=>rfl);(case hr=>first|(go_simp;done)|(go_simp;rfl));(case hp=>exact (Reps.one (show Kd.M (Kd.int .u8) _ _ _ ((a0) % 256) [.int .u8 ((a0) % 256)] from rfl) (Reps.none _ _)));intro v113 w5 ho6 hb hg_ hnew_;clear hg_ hnew_;(first | rw [← Ny112.out] at ho6|(simp only [Int.reduceToNat] at ho6;rw [← Ny112.out] at ho6));have n0_:=Aside0.mk (Kd.R_lower ho6 (below_size (by repeat (first|(with_reducible first | exact HB.out | apply below_alloc | apply pw_below_drewN | apply below_drew1) | exact HB.out))));have n1_:=bh HB hb;clear HB;have HO114:=n0_;have HB:=n1_;clear n0_ n1_;clear hb ho6))
      go_ret
      exact ⟨_,by first | rfl|(simp [errW_none,errW_some]<;>rfl)|(simp [*,errW_none,errW_some]<;>rfl),by (with_reducible repeat (first | apply Kd.R_alloc | apply Kd.R_drewN | apply Kd.R_drew));exact HO114.out,by repeat (first|(with_reducible first | exact HB.out | apply below_alloc | apply pw_below_drewN | apply below_drew1) | exact HB.out)⟩
    · rw [if_neg c4] at H
      have c4b0:decide (a0 < 128)=false:=decide_eq_false c4
      clear c4
      by_cases c7:a0 < 2048
      · rw [if_pos c7] at H
        have c7b0:decide (a0 < 2048)=true:=decide_eq_true c7
        clear c7
        obtain ⟨y115,hy115⟩:∃ y_:List Int,y_=(([(wrap64 (192+(wrap64 (Int.tdiv a0 64)))) % 256,(wrap64 (128+(Int.tmod a0 64))) % 256]:List Int)):=⟨_,rfl⟩
        replace H:(some y115)=some r:=by first|(rw [hy115];with_reducible exact H)|(have H2_:=(Option.bind_some _ _).symm.trans H;rw [hy115];with_reducible exact H2_)|(have H2_:=(Option.bind_some _ _).symm.trans H;with_reducible exact H2_) | with_reducible exact H|(rw [hy115];exact H) | exact H
        have Ny115:=Aside0.mk hy115
        clear hy115
        obtain rfl:=Option.some.inj H
        go_enter Tryz.func181,Tryz.ntmps181
        go_wp2_with (first|((with_reducible refine gate_callee (f:=117) rfl ?_);refine goesL_ (some 4) rfl rfl Tryz.func117 (by kernel_rfl) rfl #[.int .i64 a0] rfl (by (try simp only [List.map_toArray,List.map_cons,List.map_nil]);first | done | rfl) ?_;(with_reducible refine (clavierref02_Is.calls a0 true _ A2.out).mono ?_);rintro e w' ⟨rfl,⟨nd,rfl⟩⟩;refine ⟨_,rfl,?_⟩)|((with_reducible refine gate_dst (N:=21) rfl ?_);refine Kd.R_lit (Kd.int .u8) _ 5 ?hg (N:=21) ?hd (xs:=([(wrap64 (192+(wrap64 (Int.tdiv a0 64)))) % 256,(wrap64 (128+(Int.tmod a0 64))) % 256]:List Int)) (inner:=[.int .u8 ((wrap64 (192+(wrap64 (Int.tdiv a0 64)))) % 256),.int .u8 ((wrap64 (128+(Int.tmod a0 64))) % 256)]) (ok:=fun _=>True) (okp:=fun _=>True) ?hr ?hp (fun _ hk=>hk) trivial (Below.refl _ _) (Nat.le_refl _) (by simp) ?_;(case hd=>rfl);(case hg=>rfl);(case hr=>first|(go_simp;done)|(go_simp;rfl));(case hp=>exact (Reps.one (show Kd.M (Kd.int .u8) _ _ _ ((wrap64 (192+(wrap64 (Int.tdiv a0 64)))) % 256) [.int .u8 ((wrap64 (192+(wrap64 (Int.tdiv a0 64)))) % 256)] from rfl) (Reps.one (show Kd.M (Kd.int .u8) _ _ _ ((wrap64 (128+(Int.tmod a0 64))) % 256) [.int .u8 ((wrap64 (128+(Int.tmod a0 64))) % 256)] from rfl) (Reps.none _ _))));intro v116 w8 ho9 hb hg_ hnew_;clear hg_ hnew_;(first | rw [← Ny115.out] at ho9|(simp only [Int.reduceToNat] at ho9;rw [← Ny115.out] at ho9));have n0_:=Aside0.mk (Kd.R_lower ho9 (below_size (by repeat (first|(with_reducible first | exact HB.out | apply below_alloc | apply pw_below_drewN | apply below_drew1) | exact HB.out))));have n1_:=bh HB hb;clear HB;have HO117:=n0_;have HB:=n1_;clear n0_ n1_;clear hb ho9))
        go_ret
        exact ⟨_,by first | rfl|(simp [errW_none,errW_some]<;>rfl)|(simp [*,errW_none,errW_some]<;>rfl),by (with_reducible repeat (first | apply Kd.R_alloc | apply Kd.R_drewN | apply Kd.R_drew));exact HO117.out,by repeat (first|(with_reducible first | exact HB.out | apply below_alloc | apply pw_below_drewN | apply below_drew1) | exact HB.out)⟩
      · rw [if_neg c7] at H
        have c7b0:decide (a0 < 2048)=false:=decide_eq_false c7
        clear c7
        by_cases c10:a0 < 65536
        · rw [if_pos c10] at H
          have c10b0:decide (a0 < 65536)=true:=decide_eq_true c10
          clear c10
          obtain ⟨y118,hy118⟩:∃ y_:List Int,y_=(([(wrap64 (224+(wrap64 (Int.tdiv a0 4096)))) % 256,(wrap64 (128+(Int.tmod (wrap64 (Int.tdiv a0 64)) 64))) % 256,(wrap64 (128+(Int.tmod a0 64))) % 256]:List Int)):=⟨_,rfl⟩
          replace H:(some y118)=some r:=by first|(rw [hy118];with_reducible exact H)|(have H2_:=(Option.bind_some _ _).symm.trans H;rw [hy118];with_reducible exact H2_)|(have H2_:=(Option.bind_some _ _).symm.trans H;with_reducible exact H2_) | with_reducible exact H|(rw [hy118];exact H) | exact H
          have Ny118:=Aside0.mk hy118
          clear hy118
          obtain rfl:=Option.some.inj H
          go_enter Tryz.func181,Tryz.ntmps181
          go_wp2_with (first|((with_reducible refine gate_callee (f:=117) rfl ?_);refine goesL_ (some 4) rfl rfl Tryz.func117 (by kernel_rfl) rfl #[.int .i64 a0] rfl (by (try simp only [List.map_toArray,List.map_cons,List.map_nil]);first | done | rfl) ?_;(with_reducible refine (clavierref02_Is.calls a0 true _ A2.out).mono ?_);rintro e w' ⟨rfl,⟨nd,rfl⟩⟩;refine ⟨_,rfl,?_⟩)|((with_reducible refine gate_dst (N:=37) rfl ?_);refine Kd.R_lit (Kd.int .u8) _ 5 ?hg (N:=37) ?hd (xs:=([(wrap64 (224+(wrap64 (Int.tdiv a0 4096)))) % 256,(wrap64 (128+(Int.tmod (wrap64 (Int.tdiv a0 64)) 64))) % 256,(wrap64 (128+(Int.tmod a0 64))) % 256]:List Int)) (inner:=[.int .u8 ((wrap64 (224+(wrap64 (Int.tdiv a0 4096)))) % 256),.int .u8 ((wrap64 (128+(Int.tmod (wrap64 (Int.tdiv a0 64)) 64))) % 256),.int .u8 ((wrap64 (128+(Int.tmod a0 64))) % 256)]) (ok:=fun _=>True) (okp:=fun _=>True) ?hr ?hp (fun _ hk=>hk) trivial (Below.refl _ _) (Nat.le_refl _) (by simp) ?_;(case hd=>rfl);(case hg=>rfl);(case hr=>first|(go_simp;done)|(go_simp;rfl));(case hp=>exact (Reps.one (show Kd.M (Kd.int .u8) _ _ _ ((wrap64 (224+(wrap64 (Int.tdiv a0 4096)))) % 256) [.int .u8 ((wrap64 (224+(wrap64 (Int.tdiv a0 4096)))) % 256)] from rfl) (Reps.one (show Kd.M (Kd.int .u8) _ _ _ ((wrap64 (128+(Int.tmod (wrap64 (Int.tdiv a0 64)) 64))) % 256) [.int .u8 ((wrap64 (128+(Int.tmod (wrap64 (Int.tdiv a0 64)) 64))) % 256)] from rfl) (Reps.one (show Kd.M (Kd.int .u8) _ _ _ ((wrap64 (128+(Int.tmod a0 64))) % 256) [.int .u8 ((wrap64 (128+(Int.tmod a0 64))) % 256)] from rfl) (Reps.none _ _)))));intro v119 w11 ho12 hb hg_ hnew_;clear hg_ hnew_;(first | rw [← Ny118.out] at ho12|(simp only [Int.reduceToNat] at ho12;rw [← Ny118.out] at ho12));have n0_:=Aside0.mk (Kd.R_lower ho12 (below_size (by repeat (first|(with_reducible first | exact HB.out | apply below_alloc | apply pw_below_drewN | apply below_drew1) | exact HB.out))));have n1_:=bh HB hb;clear HB;have HO120:=n0_;have HB:=n1_;clear n0_ n1_;clear hb ho12))
          go_ret
          exact ⟨_,by first | rfl|(simp [errW_none,errW_some]<;>rfl)|(simp [*,errW_none,errW_some]<;>rfl),by (with_reducible repeat (first | apply Kd.R_alloc | apply Kd.R_drewN | apply Kd.R_drew));exact HO120.out,by repeat (first|(with_reducible first | exact HB.out | apply below_alloc | apply pw_below_drewN | apply below_drew1) | exact HB.out)⟩
        · rw [if_neg c10] at H
          have c10b0:decide (a0 < 65536)=false:=decide_eq_false c10
          clear c10
          obtain ⟨y121,hy121⟩:∃ y_:List Int,y_=(([(wrap64 (240+(wrap64 (Int.tdiv a0 262144)))) % 256,(wrap64 (128+(Int.tmod (wrap64 (Int.tdiv a0 4096)) 64))) % 256,(wrap64 (128+(Int.tmod (wrap64 (Int.tdiv a0 64)) 64))) % 256,(wrap64 (128+(Int.tmod a0 64))) % 256]:List Int)):=⟨_,rfl⟩
          replace H:(some y121)=some r:=by first|(rw [hy121];with_reducible exact H)|(have H2_:=(Option.bind_some _ _).symm.trans H;rw [hy121];with_reducible exact H2_)|(have H2_:=(Option.bind_some _ _).symm.trans H;with_reducible exact H2_) | with_reducible exact H|(rw [hy121];exact H) | exact H
          have Ny121:=Aside0.mk hy121
          clear hy121
          obtain rfl:=Option.some.inj H
          go_enter Tryz.func181,Tryz.ntmps181
          go_wp2_with (first|((with_reducible refine gate_callee (f:=117) rfl ?_);refine goesL_ (some 4) rfl rfl Tryz.func117 (by kernel_rfl) rfl #[.int .i64 a0] rfl (by (try simp only [List.map_toArray,List.map_cons,List.map_nil]);first | done | rfl) ?_;(with_reducible refine (clavierref02_Is.calls a0 true _ A2.out).mono ?_);rintro e w' ⟨rfl,⟨nd,rfl⟩⟩;refine ⟨_,rfl,?_⟩)|((with_reducible refine gate_dst (N:=56) rfl ?_);refine Kd.R_lit (Kd.int .u8) _ 5 ?hg (N:=56) ?hd (xs:=([(wrap64 (240+(wrap64 (Int.tdiv a0 262144)))) % 256,(wrap64 (128+(Int.tmod (wrap64 (Int.tdiv a0 4096)) 64))) % 256,(wrap64 (128+(Int.tmod (wrap64 (Int.tdiv a0 64)) 64))) % 256,(wrap64 (128+(Int.tmod a0 64))) % 256]:List Int)) (inner:=[.int .u8 ((wrap64 (240+(wrap64 (Int.tdiv a0 262144)))) % 256),.int .u8 ((wrap64 (128+(Int.tmod (wrap64 (Int.tdiv a0 4096)) 64))) % 256),.int .u8 ((wrap64 (128+(Int.tmod (wrap64 (Int.tdiv a0 64)) 64))) % 256),.int .u8 ((wrap64 (128+(Int.tmod a0 64))) % 256)]) (ok:=fun _=>True) (okp:=fun _=>True) ?hr ?hp (fun _ hk=>hk) trivial (Below.refl _ _) (Nat.le_refl _) (by simp) ?_;(case hd=>rfl);(case hg=>rfl);(case hr=>first|(go_simp;done)|(go_simp;rfl));(case hp=>exact (Reps.one (show Kd.M (Kd.int .u8) _ _ _ ((wrap64 (240+(wrap64 (Int.tdiv a0 262144)))) % 256) [.int .u8 ((wrap64 (240+(wrap64 (Int.tdiv a0 262144)))) % 256)] from rfl) (Reps.one (show Kd.M (Kd.int .u8) _ _ _ ((wrap64 (128+(Int.tmod (wrap64 (Int.tdiv a0 4096)) 64))) % 256) [.int .u8 ((wrap64 (128+(Int.tmod (wrap64 (Int.tdiv a0 4096)) 64))) % 256)] from rfl) (Reps.one (show Kd.M (Kd.int .u8) _ _ _ ((wrap64 (128+(Int.tmod (wrap64 (Int.tdiv a0 64)) 64))) % 256) [.int .u8 ((wrap64 (128+(Int.tmod (wrap64 (Int.tdiv a0 64)) 64))) % 256)] from rfl) (Reps.one (show Kd.M (Kd.int .u8) _ _ _ ((wrap64 (128+(Int.tmod a0 64))) % 256) [.int .u8 ((wrap64 (128+(Int.tmod a0 64))) % 256)] from rfl) (Reps.none _ _))))));intro v122 w13 ho14 hb hg_ hnew_;clear hg_ hnew_;(first | rw [← Ny121.out] at ho14|(simp only [Int.reduceToNat] at ho14;rw [← Ny121.out] at ho14));have n0_:=Aside0.mk (Kd.R_lower ho14 (below_size (by repeat (first|(with_reducible first | exact HB.out | apply below_alloc | apply pw_below_drewN | apply below_drew1) | exact HB.out))));have n1_:=bh HB hb;clear HB;have HO123:=n0_;have HB:=n1_;clear n0_ n1_;clear hb ho14))
          go_ret
          exact ⟨_,by first | rfl|(simp [errW_none,errW_some]<;>rfl)|(simp [*,errW_none,errW_some]<;>rfl),by (with_reducible repeat (first | apply Kd.R_alloc | apply Kd.R_drewN | apply Kd.R_drew));exact HO123.out,by repeat (first|(with_reducible first | exact HB.out | apply below_alloc | apply pw_below_drewN | apply below_drew1) | exact HB.out)⟩
  · replace c3:=Bool.eq_false_iff.mpr c3
    subst c3
    have H1:(some ([]:List Int))=some r:=by rw [if_neg (show ¬ (false=true) by decide)] at H;exact H
    clear H
    have H:=H1
    clear H1
    obtain rfl:=Option.some.inj H
    go_enter Tryz.func181,Tryz.ntmps181
    go_wp2_with (first|((with_reducible refine gate_callee (f:=117) rfl ?_);refine goesL_ (some 4) rfl rfl Tryz.func117 (by kernel_rfl) rfl #[.int .i64 a0] rfl (by (try simp only [List.map_toArray,List.map_cons,List.map_nil]);first | done | rfl) ?_;(with_reducible refine (clavierref02_Is.calls a0 false _ A2.out).mono ?_);rintro e w' ⟨rfl,⟨nd,rfl⟩⟩;refine ⟨_,rfl,?_⟩))
    go_ret
    exact ⟨_,by first | rfl|(simp [errW_none,errW_some]<;>rfl)|(simp [*,errW_none,errW_some]<;>rfl),by first | exact Kd.R_nil _ _ _ _ _ | exact Kd.N_nil _ _ _ _ _ | exact Kd.V_nil _ _ _ _ _ | exact Kd.Q_nil _ _ _ _ _ | exact Kd.S_nil _ _ _ _ _,by repeat (first|(with_reducible first | exact HB.out | apply below_alloc | apply pw_below_drewN | apply below_drew1) | exact HB.out)⟩
end Go.Proofs.YthjacokachgmfaaGreatDoor.F
end
