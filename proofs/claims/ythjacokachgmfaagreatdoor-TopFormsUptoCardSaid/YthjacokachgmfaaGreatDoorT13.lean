import Derived.Test.YthjacokachgmfaaGreatDoorT04
import Derived.Test.YthjacokachgmfaaGreatDoorT11
import Derived.Test.YthjacokachgmfaaGreatDoorT12
set_option linter.unusedVariables false
set_option linter.unusedSimpArgs false
section
namespace Go.Proofs.YthjacokachgmfaaGreatDoor.F
open YthjacokachgmfaaGreatDoor.H Go.RowKit YthjacokachgmfaaGreatDoorW.PrintWords YthjacokachgmfaaGreatDoorW.PrintLast YthjacokachgmfaaGreatDoorW.PrintMore
attribute [local go_sem] max2_int min2_int max_two min_two max_three min_three max_four min_four
mutual
def clavierref02_Take.l0:Nat→List Int→Int→Option (Int × Int)
  | 0,_,_=>none
  | k+1,x0,x4=>if x4≤4 then (clavierref02_Take.j1 k x0 x4 (decide (x4≤(x0.length:Int)))) else (clavierref02_Take.j1 k x0 x4 false)
def clavierref02_Take.j1:Nat→List Int→Int→Bool→Option (Int × Int)
  | 0,_,_,_=>none
  | k+1,x0,x4,x13=>if x13=true then ((clavierref02_guess.f x0 x4).bind fun t124=>((clavierref02_Put.f t124).bind fun t125=>(if (t125.length:Int)=x4 then ((clavierref02_Put.f t124).bind fun t128=>(if 0≤x4 then (if x4≤(x0.length:Int) then (if (strOfNums t128).toList=(strOfNums (x0.take (x4:Int).toNat)).toList then (some (t124,x4)) else (clavierref02_Take.l0 k x0 (wrap64 (x4+1)))) else (none)) else (none))) else (clavierref02_Take.l0 k x0 (wrap64 (x4+1)))))) else (some (0,0))
end
def clavierref02_Take.f (k:Nat) (l0:List Int):Option (Int × Int):=clavierref02_Take.l0 k l0 1
def clavierref02_Take.T5:Bool × List (List Nat × List Nat):=(true,[([],[]),([0],[0]),([1],[1]),([],[]),([2,3],[2,3]),([4,1],[4]),([5],[5]),([6,5,5],[5,6]),([7,5],[5,7]),([5],[5]),([5],[5]),([9,10,5],[5,9,10]),([11,5],[5,11]),([8,12,5],[5,8,12]),([5,13],[5,13])])
def clavierref02_Take.B5:List Nat:=[0,1,3,0,15,31,63,127,255,63,63,1599,3647,8191,16383]
theorem clavierref02_Take.tab5:rtab .any (opsOf Tryz.f118 5)=clavierref02_Take.T5:=by kernel_rfl
theorem clavierref02_Take.bits5:waitsOk clavierref02_Take.T5.2 clavierref02_Take.B5=true:=by kernel_rfl
set_option maxHeartbeats 8000000 in
set_option maxRecDepth 100000 in
theorem clavierref02_Take.calls (k:Nat) (A0:Option Addr) (c0:Nat) (l0:List Int) (r1:Int) (r2:Int) (w:World) (hr0:Kd.C (Kd.int .u8) w A0 l0.length l0) (hc0:l0.length≤c0) (h:clavierref02_Take.f k l0=some (r1,r2)) :
    Calls Tryz.prog 118 #[.slice A0 l0.length c0] w fun e w'=>e=.returned (.tuple #[.int .i64 r1,.int .i64 r2])∧Below w.heap.size w w':=by
  have HR0:=Aside0.mk hr0
  have HC0:=Aside0.mk hc0
  clear hr0 hc0
  have HB:=Aside0.mk (Below.refl w.heap.size w)
  have H:(clavierref02_Take.l0 k l0 1)=some (r1,r2):=h
  clear h
  have H':=Aside0.mk H
  clear H
  go_enter Tryz.func118,Tryz.ntmps118
  go_wp2
  go_loopg [4] k (fun kq v4 w'=>∃ (x4_1:Int),v4=.int .i64 x4_1∧Aside0 (clavierref02_Take.l0 kq l0 x4_1=some (r1,r2))∧Aside0 (kq≤k)∧Aside0 (Below w.heap.size w w'))
  case atStart=>exact ⟨(1),(by first | rfl|(simp;done)|(simp [*];done)),H',⟨Nat.le_refl _⟩,⟨by repeat (first|(with_reducible first | exact HB.out | apply below_alloc | apply pw_below_drewN | apply below_drew1) | exact HB.out)⟩⟩
  case round =>
    clear H'
    obtain ⟨x4_1,rfl,HA,HK1,HB⟩:=hrel
    cases gk with
    | zero=>exact absurd HA.out (by simp [clavierref02_Take.l0])
    | succ k1 =>
      have H:=HA.out
      clear HA
      simp only [clavierref02_Take.l0] at H
      have HC2:=Aside0.mk H
      clear H
      go_upto_region 2 with (fail)
      go_cut [13] (fun v13 wc=>∃ (kq:Nat) (x13_1:Bool),v13=.bool x13_1∧Aside0 (clavierref02_Take.j1 kq l0 x4_1 x13_1=some (r1,r2))∧Aside0 (kq≤k1)∧Aside0 (Below w.heap.size w wc))
      case first =>
        have H:=HC2.out
        clear HC2
        by_cases c3:x4_1≤4
        · rw [if_pos c3] at H
          have c3b0:decide (x4_1≤4)=true:=decide_eq_true c3
          clear c3
          (first | rw [c3b0] | (simp only [i64_w,i32_w];rw [c3b0]) | skip)
          have H':=Aside0.mk H
          clear H
          go_wp2
          go_meet
          case rel=>exact ⟨_,(decide (x4_1≤(l0.length:Int))),(by first | rfl|(simp;done)|(simp [*];done)),H',⟨by have:=HK1.out;first | omega | exact Nat.le_refl _⟩,⟨by repeat (first|(with_reducible first | exact HB.out | apply below_alloc | apply pw_below_drewN | apply below_drew1) | exact HB.out)⟩⟩
        · rw [if_neg c3] at H
          have c3b0:decide (x4_1≤4)=false:=decide_eq_false c3
          clear c3
          (first | rw [c3b0] | (simp only [i64_w,i32_w];rw [c3b0]) | skip)
          have H':=Aside0.mk H
          clear H
          go_wp2
          go_meet
          case rel=>exact ⟨_,(false),(by first | rfl|(simp;done)|(simp [*];done)),H',⟨by have:=HK1.out;first | omega | exact Nat.le_refl _⟩,⟨by repeat (first|(with_reducible first | exact HB.out | apply below_alloc | apply pw_below_drewN | apply below_drew1) | exact HB.out)⟩⟩
      case rest =>
        clear HC2
        obtain ⟨kq,x13_1,rfl,HA,HJ1,HB⟩:=hcut
        cases kq with
        | zero=>exact absurd HA.out (by simp [clavierref02_Take.j1])
        | succ kj1 =>
          have H:=HA.out
          clear HA
          simp only [clavierref02_Take.j1] at H
          by_cases c4:x13_1=true
          · subst c4
            have H1:((clavierref02_guess.f l0 x4_1).bind fun t124=>((clavierref02_Put.f t124).bind fun t125=>(if (t125.length:Int)=x4_1 then ((clavierref02_Put.f t124).bind fun t128=>(if 0≤x4_1 then (if x4_1≤(l0.length:Int) then (if (strOfNums t128).toList=(strOfNums (l0.take (x4_1:Int).toNat)).toList then (some (t124,x4_1)) else (clavierref02_Take.l0 kj1 l0 (wrap64 (x4_1+1)))) else (none)) else (none))) else (clavierref02_Take.l0 kj1 l0 (wrap64 (x4_1+1))))))=some (r1,r2):=by rw [if_pos rfl] at H;exact H
            clear H
            have H:=H1
            clear H1
            replace H:=Option.bind_eq_some_iff.mp H
            obtain ⟨t124,A50,H⟩:=H
            replace H:((clavierref02_Put.f t124).bind fun t125=>(if (t125.length:Int)=x4_1 then ((clavierref02_Put.f t124).bind fun t128=>(if 0≤x4_1 then (if x4_1≤(l0.length:Int) then (if (strOfNums t128).toList=(strOfNums (l0.take (x4_1:Int).toNat)).toList then (some (t124,x4_1)) else (clavierref02_Take.l0 kj1 l0 (wrap64 (x4_1+1)))) else (none)) else (none))) else (clavierref02_Take.l0 kj1 l0 (wrap64 (x4_1+1)))))=some (r1,r2):=H
            have A5:=Aside0.mk A50
            clear A50
            replace H:=Option.bind_eq_some_iff.mp H
            obtain ⟨t125,A60,H⟩:=H
            replace H:(if (t125.length:Int)=x4_1 then ((clavierref02_Put.f t124).bind fun t128=>(if 0≤x4_1 then (if x4_1≤(l0.length:Int) then (if (strOfNums t128).toList=(strOfNums (l0.take (x4_1:Int).toNat)).toList then (some (t124,x4_1)) else (clavierref02_Take.l0 kj1 l0 (wrap64 (x4_1+1)))) else (none)) else (none))) else (clavierref02_Take.l0 kj1 l0 (wrap64 (x4_1+1))))=some (r1,r2):=H
            have A6:=Aside0.mk A60
            clear A60
            by_cases c7:(t125.length:Int)=x4_1
            · rw [if_pos c7] at H
              have c7b0:((t125.length:Int) == x4_1)=true:=beq_iff_eq.mpr c7
              have c7b1:((t125.length:Int) != x4_1)=false:=bne_eq_false_iff_eq.mpr c7
              clear c7
              replace H:=Option.bind_eq_some_iff.mp H
              obtain ⟨t128,A80,H⟩:=H
              replace H:(if 0≤x4_1 then (if x4_1≤(l0.length:Int) then (if (strOfNums t128).toList=(strOfNums (l0.take (x4_1:Int).toNat)).toList then (some (t124,x4_1)) else (clavierref02_Take.l0 kj1 l0 (wrap64 (x4_1+1)))) else (none)) else (none))=some (r1,r2):=H
              have A8:=Aside0.mk A80
              clear A80
              by_cases c9:0≤x4_1
              · rw [if_pos c9] at H
                have c9b0:=eq_true c9
                have c9b1:decide (0≤x4_1)=true:=decide_eq_true c9
                clear c9
                by_cases c10:x4_1≤(l0.length:Int)
                · rw [if_pos c10] at H
                  have c10b0:=eq_true c10
                  have c10b1:decide (x4_1≤(l0.length:Int))=true:=decide_eq_true c10
                  clear c10
                  by_cases c11:(strOfNums t128).toList=(strOfNums (l0.take (x4_1:Int).toNat)).toList
                  · rw [if_pos c11] at H
                    have c11b0:((strOfNums t128).toList == (strOfNums (l0.take (x4_1:Int).toNat)).toList)=true:=beq_iff_eq.mpr c11
                    have c11b1:((strOfNums t128).toList != (strOfNums (l0.take (x4_1:Int).toNat)).toList)=false:=bne_eq_false_iff_eq.mpr c11
                    clear c11
                    simp only [Option.some.injEq,Prod.mk.injEq] at H
                    obtain ⟨rfl,rfl⟩:=H
                    try go_wp2_with (first|((with_reducible refine gate_callee (f:=180) rfl ?_);refine goesL_ (some 18) rfl rfl Tryz.func180 (by kernel_rfl) rfl #[.slice A0 l0.length c0,.int .i64 x4_1] rfl (by (try simp only [List.map_toArray,List.map_cons,List.map_nil]);first | done | rfl) ?_;(with_reducible refine (clavierref02_guess.calls _ _ l0 x4_1 t124 _ ?side1 ?side2 A5.out).mono ?_);(case side1=>repeat (first | exact (Kd.C_below HR0.out HB.out)|(with_reducible refine Kd.C_alloc ?_ _)|(with_reducible refine Kd.C_drewN ?_ _)|(with_reducible refine Kd.C_drew ?_)));(case side2=>exact HC0.out);rintro e w' ⟨rfl,⟨nd,rfl⟩⟩;refine ⟨_,rfl,?_⟩))
                    (try (rw [drewN_self wc];generalize hq_:World.drewN wc _=wc;have n0_:Aside0 (Below w.heap.size w wc):=⟨by rw [← hq_];exact (by repeat (first|(with_reducible first | exact HB.out | apply below_alloc | apply pw_below_drewN | apply below_drew1) | exact HB.out))⟩;clear HB hq_;have HB:=n0_;clear n0_))
                    have n0_:=Aside0.mk (below_drew1 HB.out)
                    clear HB
                    have HB:=n0_
                    clear n0_
                    refine start_ (n:=15) (S:=fun w'=>Below w.heap.size w w') (ds:=[]) #[false,false,false,false,false,false,false,false,false,false,false,false,false,false,false] (by kernel_rfl) rfl rfl HB.out (fun hHeld=>?_);refine with_tabW clavierref02_Take.tab5 clavierref02_Take.bits5 (fun HT_ HW_=>?_)
                    generalize wc.drew=w12 at HB hHeld ⊢
                    refine pure_ (i:=0) (N:=some 19) (v:=?_) (a':=?_) #[true,false,false,false,false,false,false,false,false,false,false,false,false,false,false] rfl rfl (any_of HT_.out (by kernel_rfl)) (fun _ _ _ h=>h) (Or.inl ⟨by rfl,?_⟩) ?_ ?_
                    rotate_left
                    · intro w'
                      go_simp
                      with_reducible rfl
                    rotate_left
                    · simp only [Act.put,List.setIfInBounds_toArray,List.set_cons_zero,List.set_cons_succ,i64_w,i32_w]
                      rfl
                    refine pure_ (i:=3) (N:=some 22) (v:=?_) (a':=?_) #[true,false,false,true,false,false,false,false,false,false,false,false,false,false,false] rfl rfl (any_of HT_.out (by kernel_rfl)) (fun _ _ _ h=>h) (Or.inl ⟨by rfl,?_⟩) ?_ ?_
                    rotate_left
                    · intro w'
                      go_simp
                      with_reducible rfl
                    rotate_left
                    · simp only [Act.put,List.setIfInBounds_toArray,List.set_cons_zero,List.set_cons_succ,i64_w,i32_w]
                      rfl
                    refine one_ (i:=1) (N:=some 20) #[true,true,false,true,false,false,false,false,false,false,false,false,false,false,false] rfl rfl (one_of HT_.out (by kernel_rfl)) (by decide) (fun K hK=>?_)
                    refine goes_ Tryz.func181 (by kernel_rfl) rfl #[.int .i64 t124] (by rfl) rfl rfl (by (try simp only [List.map_toArray,List.map_cons,List.map_nil]);first | done | rfl) ?_
                    with_reducible refine (clavierref02_Put.calls t124 t125 _ A6.out).mono ?_
                    rintro e w13 ⟨v126,rfl,ho0,hb⟩
                    refine ⟨_,rfl,?_⟩
                    have n0_:=Aside0.mk (Kd.R_lower ho0 (below_size (by repeat (first|(with_reducible first | exact HB.out | apply below_alloc | apply pw_below_drewN | apply below_drew1) | exact HB.out))))
                    have n1_:=bh HB hb
                    clear HB
                    have HO127:=n0_
                    have HB:=n1_
                    clear n0_ n1_
                    (try clear hb)
                    (try clear hb2)
                    (try clear hk)
                    (try clear hi)
                    (try clear ho0)
                    obtain ⟨Ao14,co14,eo14⟩:=Kd.R_slice HO127.out
                    (first | subst eo14|(injection eo14 with f1_ f2_ f3_;have f4_:=f1_.symm;have f5_:=f3_.symm;clear f1_ f2_ f3_;subst f4_;subst f5_))
                    obtain ⟨i015,hi015,_,hsz15,_⟩:=info_parts info5
                    obtain ⟨hcut15,hA15,hC15⟩:=print_take_of (P:=Tryz.prog) (Value.int .u8) 0 22 5 .i64 Tryz.underlying22 hi015 hsz15 A0 c0 l0 x4_1 (of_decide_eq_true (by first|(with_reducible assumption) | assumption)) (of_decide_eq_true (by first|(with_reducible assumption) | assumption)) HC0.out
                    have HR131:=Aside0.mk (Kd.C_of_reads (h1:=fun _=>rfl) (hA15 _ (Kd.reads_of_C HR0.out)))
                    have HC131:=Aside0.mk hC15
                    clear hA15 hC15 hi015 hsz15
                    refine hK.out _ _ HB.out (fun hHeld=>?_)
                    clear hK K
                    refine norm_ (a':=?_) ?_ ?_
                    rotate_left
                    · show Act.put _ (some 20) _=_
                      simp only [Act.put,List.setIfInBounds_toArray,List.set_cons_zero,List.set_cons_succ,i64_w,i32_w]
                      rfl
                    refine pure_ (i:=2) (N:=some 21) (v:=?_) (a':=?_) #[true,true,true,true,false,false,false,false,false,false,false,false,false,false,false] rfl rfl (any_of HT_.out (by kernel_rfl)) (fun _ _ _ h=>h) (Or.inl ⟨by rfl,?_⟩) ?_ ?_
                    rotate_left
                    · intro w'
                      go_simp
                      with_reducible rfl
                    rotate_left
                    · simp only [Act.put,List.setIfInBounds_toArray,List.set_cons_zero,List.set_cons_succ,i64_w,i32_w]
                      rfl
                    refine pure_ (i:=4) (N:=some 23) (v:=?_) (a':=?_) #[true,true,true,true,true,false,false,false,false,false,false,false,false,false,false] rfl rfl (any_of HT_.out (by kernel_rfl)) (fun _ _ _ h=>h) (Or.inl ⟨by rfl,?_⟩) ?_ ?_
                    rotate_left
                    · intro w'
                      go_simp
                      with_reducible rfl
                    rotate_left
                    · simp only [Act.put,List.setIfInBounds_toArray,List.set_cons_zero,List.set_cons_succ,i64_w,i32_w]
                      rfl
                    refine pure_ (i:=5) (N:=some 24) (v:=?_) (a':=?_) #[true,true,true,true,true,true,false,false,false,false,false,false,false,false,false] rfl rfl (any_of HT_.out (by kernel_rfl)) (fun _ _ _ h=>h) (Or.inl ⟨by rfl,?_⟩) ?_ ?_
                    rotate_left
                    · intro w'
                      go_simp
                      with_reducible rfl
                    rotate_left
                    · simp only [Act.put,List.setIfInBounds_toArray,List.set_cons_zero,List.set_cons_succ,i64_w,i32_w]
                      rfl
                    refine pure_ (i:=6) (N:=some 25) (v:=?_) (a':=?_) #[true,true,true,true,true,true,true,false,false,false,false,false,false,false,false] rfl rfl (any_of HT_.out (by kernel_rfl)) (fun _ _ _ h=>h) (Or.inl ⟨by rfl,?_⟩) ?_ ?_
                    rotate_left
                    · intro w'
                      go_simp
                      with_reducible rfl
                    rotate_left
                    · simp only [Act.put,List.setIfInBounds_toArray,List.set_cons_zero,List.set_cons_succ,i64_w,i32_w]
                      rfl
                    refine pure_ (i:=9) (N:=some 28) (v:=?_) (a':=?_) #[true,true,true,true,true,true,true,false,false,true,false,false,false,false,false] rfl rfl (any_of HT_.out (by kernel_rfl)) (fun _ _ _ h=>h) (Or.inl ⟨by rfl,?_⟩) ?_ ?_
                    rotate_left
                    · intro w'
                      go_simp
                      with_reducible rfl
                    rotate_left
                    · simp only [Act.put,List.setIfInBounds_toArray,List.set_cons_zero,List.set_cons_succ,i64_w,i32_w]
                      rfl
                    refine pure_ (i:=10) (N:=some 29) (v:=?_) (a':=?_) #[true,true,true,true,true,true,true,false,false,true,true,false,false,false,false] rfl rfl (any_of HT_.out (by kernel_rfl)) (fun _ _ _ h=>h) (Or.inl ⟨by rfl,?_⟩) ?_ ?_
                    rotate_left
                    · intro w'
                      go_simp
                      with_reducible rfl
                    rotate_left
                    · simp only [Act.put,List.setIfInBounds_toArray,List.set_cons_zero,List.set_cons_succ,i64_w,i32_w]
                      rfl
                    refine pure_ (i:=11) (N:=some 30) (v:=?_) (a':=?_) #[true,true,true,true,true,true,true,false,false,true,true,true,false,false,false] rfl rfl (any_of HT_.out (by kernel_rfl)) (fun _ _ _ h=>h) (Or.inl ⟨by rfl,?_⟩) ?_ ?_
                    rotate_left
                    · intro w'
                      go_simp
                      with_reducible rfl
                    rotate_left
                    · simp only [Act.put,List.setIfInBounds_toArray,List.set_cons_zero,List.set_cons_succ,i64_w,i32_w]
                      rfl
                    refine take_ (i:=12) (N:=some 31) (v:=?_) (a':=?_) #[true,true,true,true,true,true,true,false,false,true,true,true,true,false,false] rfl rfl (by kernel_rfl) (fun _ _ _ h=>h) (Or.inl ⟨by rfl,?_⟩) HB.out ?_ ?_
                    rotate_left
                    · intro w' hS_
                      have hcv18:=Kd.C_string (P:=Tryz.prog) (A:=A0) (c:=c0) Tryz.underlying22 Tryz.underlying5 Tryz.underlying9 (Kd.C_below HR131.out hS_);rw [show (List.take x4_1.toNat l0).length=x4_1.toNat by rw [List.length_take];have:x4_1≤(l0.length:Int):=of_decide_eq_true (by first|(with_reducible assumption) | assumption);omega] at hcv18
                      go_simp
                      with_reducible rfl
                    rotate_left
                    · simp only [Act.put,List.setIfInBounds_toArray,List.set_cons_zero,List.set_cons_succ,i64_w,i32_w]
                      rfl
                    refine one_ (i:=7) (N:=some 26) #[true,true,true,true,true,true,true,true,false,true,true,true,true,false,false] rfl rfl (one_of HT_.out (by kernel_rfl)) (by decide) (fun K hK=>?_)
                    refine goes_ Tryz.func181 (by kernel_rfl) rfl #[.int .i64 t124] (by rfl) rfl rfl (by (try simp only [List.map_toArray,List.map_cons,List.map_nil]);first | done | rfl) ?_
                    with_reducible refine (clavierref02_Put.calls t124 t128 _ A8.out).mono ?_
                    rintro e w16 ⟨v129,rfl,ho0,hb⟩
                    refine ⟨_,rfl,?_⟩
                    have n0_:=Aside0.mk (Kd.R_elder' (by (with_reducible repeat (first | apply Kd.R_alloc | apply Kd.R_drewN | apply Kd.R_drew));exact HO127.out) (Kd.R_base ho0) hb)
                    have n1_:=Aside0.mk (Kd.R_lower (Kd.R_new' ho0 (Kd.R_lt (by (with_reducible repeat (first | apply Kd.R_alloc | apply Kd.R_drewN | apply Kd.R_drew));exact HO127.out))) (below_size (by repeat (first|(with_reducible first | exact HB.out | apply below_alloc | apply pw_below_drewN | apply below_drew1) | exact HB.out))))
                    have n2_:=bh HB hb
                    clear HO127
                    clear HB
                    have HO127:=n0_
                    have HO130:=n1_
                    have HB:=n2_
                    clear n0_ n1_ n2_
                    (try clear hb)
                    (try clear hb2)
                    (try clear hk)
                    (try clear hi)
                    (try clear ho0)
                    have hcv18:=Kd.C_string (P:=Tryz.prog) (A:=A0) (c:=c0) Tryz.underlying22 Tryz.underlying5 Tryz.underlying9 (Kd.C_below HR131.out HB.out)
                    refine hK.out _ _ HB.out (fun hHeld=>?_)
                    clear hK K
                    refine norm_ (a':=?_) ?_ ?_
                    rotate_left
                    · show Act.put _ (some 26) _=_
                      simp only [Act.put,List.setIfInBounds_toArray,List.set_cons_zero,List.set_cons_succ,i64_w,i32_w]
                      rfl
                    refine one_ (i:=8) (N:=some 27) #[true,true,true,true,true,true,true,true,true,true,true,true,true,false,false] rfl rfl (one_of HT_.out (by kernel_rfl)) (by decide) (fun K hK=>?_)
                    have hcv17:=own_string (P:=Tryz.prog) Tryz.underlying22 Tryz.underlying5 Tryz.underlying9 (Kd.own_of_R HO130.out)
                    refine value_ (w1:=?_) (v:=?_) (by rfl) rfl ?_ ?_
                    rotate_left 2
                    · go_simp
                      constructor
                      · rfl
                      · rfl
                    clear hcv17
                    refine hK.out _ _ HB.out (fun hHeld=>?_)
                    clear hK K
                    refine norm_ (a':=?_) ?_ ?_
                    rotate_left
                    · show Act.put _ (some 27) _=_
                      simp only [Act.put,List.setIfInBounds_toArray,List.set_cons_zero,List.set_cons_succ,i64_w,i32_w]
                      rfl
                    refine pure_ (i:=13) (N:=some 32) (v:=?_) (a':=?_) #[true,true,true,true,true,true,true,true,true,true,true,true,true,true,false] rfl rfl (any_of HT_.out (by kernel_rfl)) (fun _ _ _ h=>h) (Or.inl ⟨by rfl,?_⟩) ?_ ?_
                    rotate_left
                    · intro w'
                      go_simp
                      with_reducible rfl
                    rotate_left
                    · simp only [Act.put,List.setIfInBounds_toArray,List.set_cons_zero,List.set_cons_succ,i64_w,i32_w]
                      rfl
                    refine pure_ (i:=14) (N:=some 33) (v:=?_) (a':=?_) #[true,true,true,true,true,true,true,true,true,true,true,true,true,true,true] rfl rfl (any_of HT_.out (by kernel_rfl)) (fun _ _ _ h=>h) (Or.inl ⟨by rfl,?_⟩) ?_ ?_
                    rotate_left
                    · intro w'
                      go_simp
                      with_reducible rfl
                    rotate_left
                    · simp only [Act.put,List.setIfInBounds_toArray,List.set_cons_zero,List.set_cons_succ,i64_w,i32_w]
                      rfl
                    refine done_ (done_of HT_.out (by kernel_rfl)) ?_
                    try go_wp2
                    go_ret2
                    exact fB HB
                  · rw [if_neg c11] at H
                    have c11b0:((strOfNums t128).toList == (strOfNums (l0.take (x4_1:Int).toNat)).toList)=false:=beq_eq_false_iff_ne.mpr c11
                    have c11b1:((strOfNums t128).toList != (strOfNums (l0.take (x4_1:Int).toNat)).toList)=true:=bne_iff_ne.mpr c11
                    have H':=Aside0.mk H
                    clear H
                    try go_wp2_with (first|((with_reducible refine gate_callee (f:=180) rfl ?_);refine goesL_ (some 18) rfl rfl Tryz.func180 (by kernel_rfl) rfl #[.slice A0 l0.length c0,.int .i64 x4_1] rfl (by (try simp only [List.map_toArray,List.map_cons,List.map_nil]);first | done | rfl) ?_;(with_reducible refine (clavierref02_guess.calls _ _ l0 x4_1 t124 _ ?side1 ?side2 A5.out).mono ?_);(case side1=>repeat (first | exact (Kd.C_below HR0.out HB.out)|(with_reducible refine Kd.C_alloc ?_ _)|(with_reducible refine Kd.C_drewN ?_ _)|(with_reducible refine Kd.C_drew ?_)));(case side2=>exact HC0.out);rintro e w' ⟨rfl,⟨nd,rfl⟩⟩;refine ⟨_,rfl,?_⟩))
                    (try (rw [drewN_self wc];generalize hq_:World.drewN wc _=wc;have n0_:Aside0 (Below w.heap.size w wc):=⟨by rw [← hq_];exact (by repeat (first|(with_reducible first | exact HB.out | apply below_alloc | apply pw_below_drewN | apply below_drew1) | exact HB.out))⟩;clear HB hq_;have HB:=n0_;clear n0_))
                    have n0_:=Aside0.mk (below_drew1 HB.out)
                    clear HB
                    have HB:=n0_
                    clear n0_
                    refine start_ (n:=15) (S:=fun w'=>Below w.heap.size w w') (ds:=[]) #[false,false,false,false,false,false,false,false,false,false,false,false,false,false,false] (by kernel_rfl) rfl rfl HB.out (fun hHeld=>?_);refine with_tabW clavierref02_Take.tab5 clavierref02_Take.bits5 (fun HT_ HW_=>?_)
                    generalize wc.drew=w20 at HB hHeld ⊢
                    refine pure_ (i:=0) (N:=some 19) (v:=?_) (a':=?_) #[true,false,false,false,false,false,false,false,false,false,false,false,false,false,false] rfl rfl (any_of HT_.out (by kernel_rfl)) (fun _ _ _ h=>h) (Or.inl ⟨by rfl,?_⟩) ?_ ?_
                    rotate_left
                    · intro w'
                      go_simp
                      with_reducible rfl
                    rotate_left
                    · simp only [Act.put,List.setIfInBounds_toArray,List.set_cons_zero,List.set_cons_succ,i64_w,i32_w]
                      rfl
                    refine pure_ (i:=3) (N:=some 22) (v:=?_) (a':=?_) #[true,false,false,true,false,false,false,false,false,false,false,false,false,false,false] rfl rfl (any_of HT_.out (by kernel_rfl)) (fun _ _ _ h=>h) (Or.inl ⟨by rfl,?_⟩) ?_ ?_
                    rotate_left
                    · intro w'
                      go_simp
                      with_reducible rfl
                    rotate_left
                    · simp only [Act.put,List.setIfInBounds_toArray,List.set_cons_zero,List.set_cons_succ,i64_w,i32_w]
                      rfl
                    refine one_ (i:=1) (N:=some 20) #[true,true,false,true,false,false,false,false,false,false,false,false,false,false,false] rfl rfl (one_of HT_.out (by kernel_rfl)) (by decide) (fun K hK=>?_)
                    refine goes_ Tryz.func181 (by kernel_rfl) rfl #[.int .i64 t124] (by rfl) rfl rfl (by (try simp only [List.map_toArray,List.map_cons,List.map_nil]);first | done | rfl) ?_
                    with_reducible refine (clavierref02_Put.calls t124 t125 _ A6.out).mono ?_
                    rintro e w21 ⟨v126,rfl,ho0,hb⟩
                    refine ⟨_,rfl,?_⟩
                    have n0_:=Aside0.mk (Kd.R_lower ho0 (below_size (by repeat (first|(with_reducible first | exact HB.out | apply below_alloc | apply pw_below_drewN | apply below_drew1) | exact HB.out))))
                    have n1_:=bh HB hb
                    clear HB
                    have HO127:=n0_
                    have HB:=n1_
                    clear n0_ n1_
                    (try clear hb)
                    (try clear hb2)
                    (try clear hk)
                    (try clear hi)
                    (try clear ho0)
                    obtain ⟨Ao22,co22,eo22⟩:=Kd.R_slice HO127.out
                    (first | subst eo22|(injection eo22 with f1_ f2_ f3_;have f4_:=f1_.symm;have f5_:=f3_.symm;clear f1_ f2_ f3_;subst f4_;subst f5_))
                    obtain ⟨i023,hi023,_,hsz23,_⟩:=info_parts info5
                    obtain ⟨hcut23,hA23,hC23⟩:=print_take_of (P:=Tryz.prog) (Value.int .u8) 0 22 5 .i64 Tryz.underlying22 hi023 hsz23 A0 c0 l0 x4_1 (of_decide_eq_true (by first|(with_reducible assumption) | assumption)) (of_decide_eq_true (by first|(with_reducible assumption) | assumption)) HC0.out
                    have HR131:=Aside0.mk (Kd.C_of_reads (h1:=fun _=>rfl) (hA23 _ (Kd.reads_of_C HR0.out)))
                    have HC131:=Aside0.mk hC23
                    clear hA23 hC23 hi023 hsz23
                    refine hK.out _ _ HB.out (fun hHeld=>?_)
                    clear hK K
                    refine norm_ (a':=?_) ?_ ?_
                    rotate_left
                    · show Act.put _ (some 20) _=_
                      simp only [Act.put,List.setIfInBounds_toArray,List.set_cons_zero,List.set_cons_succ,i64_w,i32_w]
                      rfl
                    refine pure_ (i:=2) (N:=some 21) (v:=?_) (a':=?_) #[true,true,true,true,false,false,false,false,false,false,false,false,false,false,false] rfl rfl (any_of HT_.out (by kernel_rfl)) (fun _ _ _ h=>h) (Or.inl ⟨by rfl,?_⟩) ?_ ?_
                    rotate_left
                    · intro w'
                      go_simp
                      with_reducible rfl
                    rotate_left
                    · simp only [Act.put,List.setIfInBounds_toArray,List.set_cons_zero,List.set_cons_succ,i64_w,i32_w]
                      rfl
                    refine pure_ (i:=4) (N:=some 23) (v:=?_) (a':=?_) #[true,true,true,true,true,false,false,false,false,false,false,false,false,false,false] rfl rfl (any_of HT_.out (by kernel_rfl)) (fun _ _ _ h=>h) (Or.inl ⟨by rfl,?_⟩) ?_ ?_
                    rotate_left
                    · intro w'
                      go_simp
                      with_reducible rfl
                    rotate_left
                    · simp only [Act.put,List.setIfInBounds_toArray,List.set_cons_zero,List.set_cons_succ,i64_w,i32_w]
                      rfl
                    refine pure_ (i:=5) (N:=some 24) (v:=?_) (a':=?_) #[true,true,true,true,true,true,false,false,false,false,false,false,false,false,false] rfl rfl (any_of HT_.out (by kernel_rfl)) (fun _ _ _ h=>h) (Or.inl ⟨by rfl,?_⟩) ?_ ?_
                    rotate_left
                    · intro w'
                      go_simp
                      with_reducible rfl
                    rotate_left
                    · simp only [Act.put,List.setIfInBounds_toArray,List.set_cons_zero,List.set_cons_succ,i64_w,i32_w]
                      rfl
                    refine pure_ (i:=6) (N:=some 25) (v:=?_) (a':=?_) #[true,true,true,true,true,true,true,false,false,false,false,false,false,false,false] rfl rfl (any_of HT_.out (by kernel_rfl)) (fun _ _ _ h=>h) (Or.inl ⟨by rfl,?_⟩) ?_ ?_
                    rotate_left
                    · intro w'
                      go_simp
                      with_reducible rfl
                    rotate_left
                    · simp only [Act.put,List.setIfInBounds_toArray,List.set_cons_zero,List.set_cons_succ,i64_w,i32_w]
                      rfl
                    refine pure_ (i:=9) (N:=some 28) (v:=?_) (a':=?_) #[true,true,true,true,true,true,true,false,false,true,false,false,false,false,false] rfl rfl (any_of HT_.out (by kernel_rfl)) (fun _ _ _ h=>h) (Or.inl ⟨by rfl,?_⟩) ?_ ?_
                    rotate_left
                    · intro w'
                      go_simp
                      with_reducible rfl
                    rotate_left
                    · simp only [Act.put,List.setIfInBounds_toArray,List.set_cons_zero,List.set_cons_succ,i64_w,i32_w]
                      rfl
                    refine pure_ (i:=10) (N:=some 29) (v:=?_) (a':=?_) #[true,true,true,true,true,true,true,false,false,true,true,false,false,false,false] rfl rfl (any_of HT_.out (by kernel_rfl)) (fun _ _ _ h=>h) (Or.inl ⟨by rfl,?_⟩) ?_ ?_
                    rotate_left
                    · intro w'
                      go_simp
                      with_reducible rfl
                    rotate_left
                    · simp only [Act.put,List.setIfInBounds_toArray,List.set_cons_zero,List.set_cons_succ,i64_w,i32_w]
                      rfl
                    refine pure_ (i:=11) (N:=some 30) (v:=?_) (a':=?_) #[true,true,true,true,true,true,true,false,false,true,true,true,false,false,false] rfl rfl (any_of HT_.out (by kernel_rfl)) (fun _ _ _ h=>h) (Or.inl ⟨by rfl,?_⟩) ?_ ?_
                    rotate_left
                    · intro w'
                      go_simp
                      with_reducible rfl
                    rotate_left
                    · simp only [Act.put,List.setIfInBounds_toArray,List.set_cons_zero,List.set_cons_succ,i64_w,i32_w]
                      rfl
                    refine take_ (i:=12) (N:=some 31) (v:=?_) (a':=?_) #[true,true,true,true,true,true,true,false,false,true,true,true,true,false,false] rfl rfl (by kernel_rfl) (fun _ _ _ h=>h) (Or.inl ⟨by rfl,?_⟩) HB.out ?_ ?_
                    rotate_left
                    · intro w' hS_
                      have hcv26:=Kd.C_string (P:=Tryz.prog) (A:=A0) (c:=c0) Tryz.underlying22 Tryz.underlying5 Tryz.underlying9 (Kd.C_below HR131.out hS_);rw [show (List.take x4_1.toNat l0).length=x4_1.toNat by rw [List.length_take];have:x4_1≤(l0.length:Int):=of_decide_eq_true (by first|(with_reducible assumption) | assumption);omega] at hcv26
                      go_simp
                      with_reducible rfl
                    rotate_left
                    · simp only [Act.put,List.setIfInBounds_toArray,List.set_cons_zero,List.set_cons_succ,i64_w,i32_w]
                      rfl
                    refine one_ (i:=7) (N:=some 26) #[true,true,true,true,true,true,true,true,false,true,true,true,true,false,false] rfl rfl (one_of HT_.out (by kernel_rfl)) (by decide) (fun K hK=>?_)
                    refine goes_ Tryz.func181 (by kernel_rfl) rfl #[.int .i64 t124] (by rfl) rfl rfl (by (try simp only [List.map_toArray,List.map_cons,List.map_nil]);first | done | rfl) ?_
                    with_reducible refine (clavierref02_Put.calls t124 t128 _ A8.out).mono ?_
                    rintro e w24 ⟨v129,rfl,ho0,hb⟩
                    refine ⟨_,rfl,?_⟩
                    have n0_:=Aside0.mk (Kd.R_elder' (by (with_reducible repeat (first | apply Kd.R_alloc | apply Kd.R_drewN | apply Kd.R_drew));exact HO127.out) (Kd.R_base ho0) hb)
                    have n1_:=Aside0.mk (Kd.R_lower (Kd.R_new' ho0 (Kd.R_lt (by (with_reducible repeat (first | apply Kd.R_alloc | apply Kd.R_drewN | apply Kd.R_drew));exact HO127.out))) (below_size (by repeat (first|(with_reducible first | exact HB.out | apply below_alloc | apply pw_below_drewN | apply below_drew1) | exact HB.out))))
                    have n2_:=bh HB hb
                    clear HO127
                    clear HB
                    have HO127:=n0_
                    have HO130:=n1_
                    have HB:=n2_
                    clear n0_ n1_ n2_
                    (try clear hb)
                    (try clear hb2)
                    (try clear hk)
                    (try clear hi)
                    (try clear ho0)
                    have hcv26:=Kd.C_string (P:=Tryz.prog) (A:=A0) (c:=c0) Tryz.underlying22 Tryz.underlying5 Tryz.underlying9 (Kd.C_below HR131.out HB.out)
                    refine hK.out _ _ HB.out (fun hHeld=>?_)
                    clear hK K
                    refine norm_ (a':=?_) ?_ ?_
                    rotate_left
                    · show Act.put _ (some 26) _=_
                      simp only [Act.put,List.setIfInBounds_toArray,List.set_cons_zero,List.set_cons_succ,i64_w,i32_w]
                      rfl
                    refine one_ (i:=8) (N:=some 27) #[true,true,true,true,true,true,true,true,true,true,true,true,true,false,false] rfl rfl (one_of HT_.out (by kernel_rfl)) (by decide) (fun K hK=>?_)
                    have hcv25:=own_string (P:=Tryz.prog) Tryz.underlying22 Tryz.underlying5 Tryz.underlying9 (Kd.own_of_R HO130.out)
                    refine value_ (w1:=?_) (v:=?_) (by rfl) rfl ?_ ?_
                    rotate_left 2
                    · go_simp
                      constructor
                      · rfl
                      · rfl
                    clear hcv25
                    refine hK.out _ _ HB.out (fun hHeld=>?_)
                    clear hK K
                    refine norm_ (a':=?_) ?_ ?_
                    rotate_left
                    · show Act.put _ (some 27) _=_
                      simp only [Act.put,List.setIfInBounds_toArray,List.set_cons_zero,List.set_cons_succ,i64_w,i32_w]
                      rfl
                    refine pure_ (i:=13) (N:=some 32) (v:=?_) (a':=?_) #[true,true,true,true,true,true,true,true,true,true,true,true,true,true,false] rfl rfl (any_of HT_.out (by kernel_rfl)) (fun _ _ _ h=>h) (Or.inl ⟨by rfl,?_⟩) ?_ ?_
                    rotate_left
                    · intro w'
                      go_simp
                      with_reducible rfl
                    rotate_left
                    · simp only [Act.put,List.setIfInBounds_toArray,List.set_cons_zero,List.set_cons_succ,i64_w,i32_w]
                      rfl
                    refine pure_ (i:=14) (N:=some 33) (v:=?_) (a':=?_) #[true,true,true,true,true,true,true,true,true,true,true,true,true,true,true] rfl rfl (any_of HT_.out (by kernel_rfl)) (fun _ _ _ h=>h) (Or.inl ⟨by rfl,?_⟩) ?_ ?_
                    rotate_left
                    · intro w'
                      go_simp
                      with_reducible rfl
                    rotate_left
                    · simp only [Act.put,List.setIfInBounds_toArray,List.set_cons_zero,List.set_cons_succ,i64_w,i32_w]
                      rfl
                    refine done_ (done_of HT_.out (by kernel_rfl)) ?_
                    try go_wp2
                    go_roundg kj1
                    case measure=>have:=HK1.out;have:=HJ1.out;omega
                    case rel=>exact ⟨(wrap64 (x4_1+1)),(by first | rfl|(simp;done)|(simp [*];done)),H',⟨by have:=HK1.out;have:=HJ1.out;omega⟩,⟨by repeat (first|(with_reducible first | exact HB.out | apply below_alloc | apply pw_below_drewN | apply below_drew1) | exact HB.out)⟩⟩
                · rw [if_neg c10] at H
                  exact absurd H (by simp)
              · rw [if_neg c9] at H
                exact absurd H (by simp)
            · rw [if_neg c7] at H
              have c7b0:((t125.length:Int) == x4_1)=false:=beq_eq_false_iff_ne.mpr c7
              have c7b1:((t125.length:Int) != x4_1)=true:=bne_iff_ne.mpr c7
              have H':=Aside0.mk H
              clear H
              try go_wp2_with (first|((with_reducible refine gate_callee (f:=180) rfl ?_);refine goesL_ (some 18) rfl rfl Tryz.func180 (by kernel_rfl) rfl #[.slice A0 l0.length c0,.int .i64 x4_1] rfl (by (try simp only [List.map_toArray,List.map_cons,List.map_nil]);first | done | rfl) ?_;(with_reducible refine (clavierref02_guess.calls _ _ l0 x4_1 t124 _ ?side1 ?side2 A5.out).mono ?_);(case side1=>repeat (first | exact (Kd.C_below HR0.out HB.out)|(with_reducible refine Kd.C_alloc ?_ _)|(with_reducible refine Kd.C_drewN ?_ _)|(with_reducible refine Kd.C_drew ?_)));(case side2=>exact HC0.out);rintro e w' ⟨rfl,⟨nd,rfl⟩⟩;refine ⟨_,rfl,?_⟩))
              (try (rw [drewN_self wc];generalize hq_:World.drewN wc _=wc;have n0_:Aside0 (Below w.heap.size w wc):=⟨by rw [← hq_];exact (by repeat (first|(with_reducible first | exact HB.out | apply below_alloc | apply pw_below_drewN | apply below_drew1) | exact HB.out))⟩;clear HB hq_;have HB:=n0_;clear n0_))
              have n0_:=Aside0.mk (below_drew1 HB.out)
              clear HB
              have HB:=n0_
              clear n0_
              refine start_ (n:=15) (S:=fun w'=>True) (ds:=[]) #[false,false,false,false,false,false,false,false,false,false,false,false,false,false,false] (by kernel_rfl) rfl rfl trivial (fun hHeld=>?_);refine with_tabW clavierref02_Take.tab5 clavierref02_Take.bits5 (fun HT_ HW_=>?_)
              generalize wc.drew=w28 at HB hHeld ⊢
              refine pure_ (i:=0) (N:=some 19) (v:=?_) (a':=?_) #[true,false,false,false,false,false,false,false,false,false,false,false,false,false,false] rfl rfl (any_of HT_.out (by kernel_rfl)) (fun _ _ _ h=>h) (Or.inl ⟨by rfl,?_⟩) ?_ ?_
              rotate_left
              · intro w'
                go_simp
                with_reducible rfl
              rotate_left
              · simp only [Act.put,List.setIfInBounds_toArray,List.set_cons_zero,List.set_cons_succ,i64_w,i32_w]
                rfl
              refine pure_ (i:=3) (N:=some 22) (v:=?_) (a':=?_) #[true,false,false,true,false,false,false,false,false,false,false,false,false,false,false] rfl rfl (any_of HT_.out (by kernel_rfl)) (fun _ _ _ h=>h) (Or.inl ⟨by rfl,?_⟩) ?_ ?_
              rotate_left
              · intro w'
                go_simp
                with_reducible rfl
              rotate_left
              · simp only [Act.put,List.setIfInBounds_toArray,List.set_cons_zero,List.set_cons_succ,i64_w,i32_w]
                rfl
              refine one_ (i:=1) (N:=some 20) #[true,true,false,true,false,false,false,false,false,false,false,false,false,false,false] rfl rfl (one_of HT_.out (by kernel_rfl)) (by decide) (fun K hK=>?_)
              refine goes_ Tryz.func181 (by kernel_rfl) rfl #[.int .i64 t124] (by rfl) rfl rfl (by (try simp only [List.map_toArray,List.map_cons,List.map_nil]);first | done | rfl) ?_
              with_reducible refine (clavierref02_Put.calls t124 t125 _ A6.out).mono ?_
              rintro e w29 ⟨v126,rfl,ho0,hb⟩
              refine ⟨_,rfl,?_⟩
              have n0_:=Aside0.mk (Kd.R_lower ho0 (below_size (by repeat (first|(with_reducible first | exact HB.out | apply below_alloc | apply pw_below_drewN | apply below_drew1) | exact HB.out))))
              have n1_:=bh HB hb
              clear HB
              have HO127:=n0_
              have HB:=n1_
              clear n0_ n1_
              (try clear hb)
              (try clear hb2)
              (try clear hk)
              (try clear hi)
              (try clear ho0)
              obtain ⟨Ao30,co30,eo30⟩:=Kd.R_slice HO127.out
              (first | subst eo30|(injection eo30 with f1_ f2_ f3_;have f4_:=f1_.symm;have f5_:=f3_.symm;clear f1_ f2_ f3_;subst f4_;subst f5_))
              refine hK.out _ _ trivial (fun hHeld=>?_)
              clear hK K
              refine norm_ (a':=?_) ?_ ?_
              rotate_left
              · show Act.put _ (some 20) _=_
                simp only [Act.put,List.setIfInBounds_toArray,List.set_cons_zero,List.set_cons_succ,i64_w,i32_w]
                rfl
              refine pure_ (i:=2) (N:=some 21) (v:=?_) (a':=?_) #[true,true,true,true,false,false,false,false,false,false,false,false,false,false,false] rfl rfl (any_of HT_.out (by kernel_rfl)) (fun _ _ _ h=>h) (Or.inl ⟨by rfl,?_⟩) ?_ ?_
              rotate_left
              · intro w'
                go_simp
                with_reducible rfl
              rotate_left
              · simp only [Act.put,List.setIfInBounds_toArray,List.set_cons_zero,List.set_cons_succ,i64_w,i32_w]
                rfl
              refine pure_ (i:=4) (N:=some 23) (v:=?_) (a':=?_) #[true,true,true,true,true,false,false,false,false,false,false,false,false,false,false] rfl rfl (any_of HT_.out (by kernel_rfl)) (fun _ _ _ h=>h) (Or.inl ⟨by rfl,?_⟩) ?_ ?_
              rotate_left
              · intro w'
                go_simp
                with_reducible rfl
              rotate_left
              · simp only [Act.put,List.setIfInBounds_toArray,List.set_cons_zero,List.set_cons_succ,i64_w,i32_w]
                rfl
              refine pure_ (i:=5) (N:=some 24) (v:=?_) (a':=?_) #[true,true,true,true,true,true,false,false,false,false,false,false,false,false,false] rfl rfl (any_of HT_.out (by kernel_rfl)) (fun _ _ _ h=>h) (Or.inl ⟨by rfl,?_⟩) ?_ ?_
              rotate_left
              · intro w'
                go_simp
                with_reducible rfl
              rotate_left
              · simp only [Act.put,List.setIfInBounds_toArray,List.set_cons_zero,List.set_cons_succ,i64_w,i32_w]
                rfl
              refine pure_ (i:=6) (N:=some 25) (v:=undef) (a':=?_) #[true,true,true,true,true,true,true,false,false,false,false,false,false,false,false] rfl rfl (any_of HT_.out (by kernel_rfl)) (fun _ _ _ h=>h) (Or.inr ⟨by rfl,rfl⟩) ?_ ?_
              rotate_left
              · simp only [Act.put,List.setIfInBounds_toArray,List.set_cons_zero,List.set_cons_succ,i64_w,i32_w]
                rfl
              refine pure_ (i:=7) (N:=some 26) (v:=undef) (a':=?_) #[true,true,true,true,true,true,true,true,false,false,false,false,false,false,false] rfl rfl (any_of HT_.out (by kernel_rfl)) (fun _ _ _ h=>h) (Or.inr ⟨by rfl,rfl⟩) ?_ ?_
              rotate_left
              · simp only [Act.put,List.setIfInBounds_toArray,List.set_cons_zero,List.set_cons_succ,i64_w,i32_w]
                rfl
              refine pure_ (i:=8) (N:=some 27) (v:=undef) (a':=?_) #[true,true,true,true,true,true,true,true,true,false,false,false,false,false,false] rfl rfl (any_of HT_.out (by kernel_rfl)) (fun _ _ _ h=>h) (Or.inr ⟨by rfl,rfl⟩) ?_ ?_
              rotate_left
              · simp only [Act.put,List.setIfInBounds_toArray,List.set_cons_zero,List.set_cons_succ,i64_w,i32_w]
                rfl
              refine pure_ (i:=9) (N:=some 28) (v:=undef) (a':=?_) #[true,true,true,true,true,true,true,true,true,true,false,false,false,false,false] rfl rfl (any_of HT_.out (by kernel_rfl)) (fun _ _ _ h=>h) (Or.inr ⟨by rfl,rfl⟩) ?_ ?_
              rotate_left
              · simp only [Act.put,List.setIfInBounds_toArray,List.set_cons_zero,List.set_cons_succ,i64_w,i32_w]
                rfl
              refine pure_ (i:=10) (N:=some 29) (v:=undef) (a':=?_) #[true,true,true,true,true,true,true,true,true,true,true,false,false,false,false] rfl rfl (any_of HT_.out (by kernel_rfl)) (fun _ _ _ h=>h) (Or.inr ⟨by rfl,rfl⟩) ?_ ?_
              rotate_left
              · simp only [Act.put,List.setIfInBounds_toArray,List.set_cons_zero,List.set_cons_succ,i64_w,i32_w]
                rfl
              refine pure_ (i:=11) (N:=some 30) (v:=undef) (a':=?_) #[true,true,true,true,true,true,true,true,true,true,true,true,false,false,false] rfl rfl (any_of HT_.out (by kernel_rfl)) (fun _ _ _ h=>h) (Or.inr ⟨by rfl,rfl⟩) ?_ ?_
              rotate_left
              · simp only [Act.put,List.setIfInBounds_toArray,List.set_cons_zero,List.set_cons_succ,i64_w,i32_w]
                rfl
              refine pure_ (i:=12) (N:=some 31) (v:=undef) (a':=?_) #[true,true,true,true,true,true,true,true,true,true,true,true,true,false,false] rfl rfl (any_of HT_.out (by kernel_rfl)) (fun _ _ _ h=>h) (Or.inr ⟨by rfl,rfl⟩) ?_ ?_
              rotate_left
              · simp only [Act.put,List.setIfInBounds_toArray,List.set_cons_zero,List.set_cons_succ,i64_w,i32_w]
                rfl
              refine pure_ (i:=13) (N:=some 32) (v:=undef) (a':=?_) #[true,true,true,true,true,true,true,true,true,true,true,true,true,true,false] rfl rfl (any_of HT_.out (by kernel_rfl)) (fun _ _ _ h=>h) (Or.inr ⟨by rfl,rfl⟩) ?_ ?_
              rotate_left
              · simp only [Act.put,List.setIfInBounds_toArray,List.set_cons_zero,List.set_cons_succ,i64_w,i32_w]
                rfl
              refine pure_ (i:=14) (N:=some 33) (v:=?_) (a':=?_) #[true,true,true,true,true,true,true,true,true,true,true,true,true,true,true] rfl rfl (any_of HT_.out (by kernel_rfl)) (fun _ _ _ h=>h) (Or.inl ⟨by rfl,?_⟩) ?_ ?_
              rotate_left
              · intro w'
                go_simp
                with_reducible rfl
              rotate_left
              · simp only [Act.put,List.setIfInBounds_toArray,List.set_cons_zero,List.set_cons_succ,i64_w,i32_w]
                rfl
              refine done_ (done_of HT_.out (by kernel_rfl)) ?_
              try go_wp2
              go_roundg kj1
              case measure=>have:=HK1.out;have:=HJ1.out;omega
              case rel=>exact ⟨(wrap64 (x4_1+1)),(by first | rfl|(simp;done)|(simp [*];done)),H',⟨by have:=HK1.out;have:=HJ1.out;omega⟩,⟨by repeat (first|(with_reducible first | exact HB.out | apply below_alloc | apply pw_below_drewN | apply below_drew1) | exact HB.out)⟩⟩
          · replace c4:=Bool.eq_false_iff.mpr c4
            subst c4
            have H1:(some (0,0))=some (r1,r2):=by rw [if_neg (show ¬ (false=true) by decide)] at H;exact H
            clear H
            have H:=H1
            clear H1
            simp only [Option.some.injEq,Prod.mk.injEq] at H
            obtain ⟨rfl,rfl⟩:=H
            go_wp2
            go_ret2
            exact fB HB
def clavierref02_All.l0:Nat→List Int→List Int→Int→Option (List Int × Bool)
  | 0,_,_,_=>none
  | k+1,x0,x4,x5=>if x5 < (x0.length:Int) then (if 0≤x5 then (if x5≤(x0.length:Int) then ((clavierref02_Take.f k (x0.drop (x5:Int).toNat)).bind fun bt133=>(if bt133.2=0 then (some (([]:List Int),false)) else (if x4.length < 17592186044416 then (clavierref02_All.l0 k x0 (x4++[bt133.1]) (wrap64 (x5+bt133.2))) else (none)))) else (none)) else (none)) else (some (x4,true))
def clavierref02_All.f (k:Nat) (l0:List Int):Option (List Int × Bool):=clavierref02_All.l0 k l0 ([]:List Int) 0
set_option maxHeartbeats 8000000 in
set_option maxRecDepth 100000 in
theorem clavierref02_All.calls (k:Nat) (A0:Option Addr) (c0:Nat) (l0:List Int) (r1:List Int) (r2:Bool) (w:World) (hr0:Kd.C (Kd.int .u8) w A0 l0.length l0) (hc0:l0.length≤c0) (h:clavierref02_All.f k l0=some (r1,r2)) :
    Calls Tryz.prog 70 #[.slice A0 l0.length c0] w fun e w'=>∃ v0_:Value,e=.returned (.tuple #[v0_,.bool r2])∧Kd.R (Kd.int .i64) 3 w' w.heap.size (fun _=>True) v0_ r1∧Below w.heap.size w w':=by
  have HR0:=Aside0.mk hr0
  have HC0:=Aside0.mk hc0
  clear hr0 hc0
  have HB:=Aside0.mk (Below.refl w.heap.size w)
  have H:(clavierref02_All.l0 k l0 ([]:List Int) 0)=some (r1,r2):=h
  clear h
  have H':=Aside0.mk H
  clear H
  go_enter Tryz.func70,Tryz.ntmps70
  go_wp2
  go_loopg [4,5] k (fun kq v4 v5 w'=>∃ (x4_1:List Int) (x5_1:Int),v5=.int .i64 x5_1∧Aside0 (clavierref02_All.l0 kq l0 x4_1 x5_1=some (r1,r2))∧Aside0 (kq≤k)∧Aside0 (Kd.R (Kd.int .i64) 3 w' w.heap.size (fun _=>True) v4 x4_1)∧Aside0 (Below w.heap.size w w'))
  case atStart=>exact ⟨(([]:List Int)),(0),(by first | rfl|(simp;done)|(simp [*];done)),H',⟨Nat.le_refl _⟩,⟨by first | exact Kd.R_nil _ _ _ _ _ | exact Kd.N_nil _ _ _ _ _ | exact Kd.V_nil _ _ _ _ _ | exact Kd.Q_nil _ _ _ _ _ | exact Kd.S_nil _ _ _ _ _⟩,⟨by repeat (first|(with_reducible first | exact HB.out | apply below_alloc | apply pw_below_drewN | apply below_drew1) | exact HB.out)⟩⟩
  case round =>
    clear H'
    obtain ⟨x4_1,x5_1,rfl,HA,HK1,HO_4,HB⟩:=hrel
    cases gk with
    | zero=>exact absurd HA.out (by simp [clavierref02_All.l0])
    | succ k1 =>
      have H:=HA.out
      clear HA
      simp only [clavierref02_All.l0] at H
      by_cases c2:x5_1 < (l0.length:Int)
      · rw [if_pos c2] at H
        have c2b0:decide (x5_1 < (l0.length:Int))=true:=decide_eq_true c2
        clear c2
        by_cases c3:0≤x5_1
        · rw [if_pos c3] at H
          have c3b0:=eq_true c3
          have c3b1:decide (0≤x5_1)=true:=decide_eq_true c3
          clear c3
          by_cases c4:x5_1≤(l0.length:Int)
          · rw [if_pos c4] at H
            have c4b0:=eq_true c4
            have c4b1:decide (x5_1≤(l0.length:Int))=true:=decide_eq_true c4
            clear c4
            replace H:=Option.bind_eq_some_iff.mp H
            obtain ⟨⟨t133,t134⟩,A50,H⟩:=H
            replace H:(if t134=0 then (some (([]:List Int),false)) else (if x4_1.length < 17592186044416 then (clavierref02_All.l0 k1 l0 (x4_1++[t133]) (wrap64 (x5_1+t134))) else (none)))=some (r1,r2):=H
            have A5:=Aside0.mk A50
            clear A50
            by_cases c6:t134=0
            · rw [if_pos c6] at H
              have c6b0:(t134 == 0)=true:=beq_iff_eq.mpr c6
              have c6b1:(t134 != 0)=false:=bne_eq_false_iff_eq.mpr c6
              clear c6
              simp only [Option.some.injEq,Prod.mk.injEq] at H
              obtain ⟨rfl,rfl⟩:=H
              obtain ⟨i07,hi07,_,hsz7,_⟩:=info_parts info5
              obtain ⟨A7,hcut7,hA7,hC7⟩:=print_drop_of (P:=Tryz.prog) (Value.int .u8) 0 22 5 .i64 Tryz.underlying22 hi07 hsz7 A0 c0 l0 x5_1 (of_decide_eq_true (by first|(with_reducible assumption) | assumption)) (of_decide_eq_true (by first|(with_reducible assumption) | assumption)) HC0.out
              have HR132:=Aside0.mk (Kd.C_of_reads (h1:=fun _=>rfl) (hA7 _ (Kd.reads_of_C HR0.out)))
              have HC132:=Aside0.mk hC7
              clear hA7 hC7 hi07 hsz7
              go_wp2_with (first|((with_reducible refine gate_callee (f:=118) rfl ?_);refine goesL_ (some 16) rfl rfl Tryz.func118 (by kernel_rfl) rfl #[.slice A7 (l0.drop (x5_1:Int).toNat).length (c0 - x5_1.toNat)] rfl (by (try simp only [List.map_toArray,List.map_cons,List.map_nil]);first | done|(rw [show (l0.drop (x5_1:Int).toNat).length=(l0.length - x5_1.toNat) from List.length_drop]<;>rfl) | rfl|(simp only [List.length_drop,List.length_take];rfl)) ?_;(with_reducible refine (clavierref02_Take.calls k1 _ _ (l0.drop (x5_1:Int).toNat) t133 t134 _ ?side1 ?side2 A5.out).mono ?_);(case side1=>repeat (first | exact (Kd.C_below HR132.out HB.out)|(with_reducible refine Kd.C_alloc ?_ _)|(with_reducible refine Kd.C_drewN ?_ _)|(with_reducible refine Kd.C_drew ?_)));(case side2=>exact HC132.out);rintro e w8 ⟨rfl,hb⟩;refine ⟨_,rfl,?_⟩;replace HO_4:=Aside0.mk (Kd.R_below (by (with_reducible repeat (first | apply Kd.R_alloc | apply Kd.R_drewN | apply Kd.R_drew));exact HO_4.out) hb);replace HB:=bh HB hb;(try clear hb)))
              go_ret2
              exact ⟨_,by first | rfl|(simp [errW_none,errW_some]<;>rfl)|(simp [*,errW_none,errW_some]<;>rfl),by first | exact Kd.R_nil _ _ _ _ _ | exact Kd.N_nil _ _ _ _ _ | exact Kd.V_nil _ _ _ _ _ | exact Kd.Q_nil _ _ _ _ _ | exact Kd.S_nil _ _ _ _ _,by repeat (first|(with_reducible first | exact HB.out | apply below_alloc | apply pw_below_drewN | apply below_drew1) | exact HB.out)⟩
            · rw [if_neg c6] at H
              have c6b0:(t134 == 0)=false:=beq_eq_false_iff_ne.mpr c6
              have c6b1:(t134 != 0)=true:=bne_iff_ne.mpr c6
              by_cases c9:x4_1.length < 17592186044416
              · rw [if_pos c9] at H
                have LMc9:=Aside0.mk c9
                clear c9
                obtain ⟨y135,hy135⟩:∃ y_:List Int,y_=(x4_1++[t133]):=⟨_,rfl⟩
                replace H:(clavierref02_All.l0 k1 l0 y135 (wrap64 (x5_1+t134)))=some (r1,r2):=by first|(rw [hy135];with_reducible exact H)|(have H2_:=(Option.bind_some _ _).symm.trans H;rw [hy135];with_reducible exact H2_)|(have H2_:=(Option.bind_some _ _).symm.trans H;with_reducible exact H2_) | with_reducible exact H|(rw [hy135];exact H) | exact H
                have Ny135:=Aside0.mk hy135
                clear hy135
                have H':=Aside0.mk H
                clear H
                obtain ⟨i010,hi010,_,hsz10,_⟩:=info_parts info5
                obtain ⟨A10,hcut10,hA10,hC10⟩:=print_drop_of (P:=Tryz.prog) (Value.int .u8) 0 22 5 .i64 Tryz.underlying22 hi010 hsz10 A0 c0 l0 x5_1 (of_decide_eq_true (by first|(with_reducible assumption) | assumption)) (of_decide_eq_true (by first|(with_reducible assumption) | assumption)) HC0.out
                have HR132:=Aside0.mk (Kd.C_of_reads (h1:=fun _=>rfl) (hA10 _ (Kd.reads_of_C HR0.out)))
                have HC132:=Aside0.mk hC10
                clear hA10 hC10 hi010 hsz10
                go_wp2_with (first|((with_reducible refine gate_callee (f:=118) rfl ?_);refine goesL_ (some 16) rfl rfl Tryz.func118 (by kernel_rfl) rfl #[.slice A10 (l0.drop (x5_1:Int).toNat).length (c0 - x5_1.toNat)] rfl (by (try simp only [List.map_toArray,List.map_cons,List.map_nil]);first | done|(rw [show (l0.drop (x5_1:Int).toNat).length=(l0.length - x5_1.toNat) from List.length_drop]<;>rfl) | rfl|(simp only [List.length_drop,List.length_take];rfl)) ?_;(with_reducible refine (clavierref02_Take.calls k1 _ _ (l0.drop (x5_1:Int).toNat) t133 t134 _ ?side1 ?side2 A5.out).mono ?_);(case side1=>repeat (first | exact (Kd.C_below HR132.out HB.out)|(with_reducible refine Kd.C_alloc ?_ _)|(with_reducible refine Kd.C_drewN ?_ _)|(with_reducible refine Kd.C_drew ?_)));(case side2=>exact HC132.out);rintro e w11 ⟨rfl,hb⟩;refine ⟨_,rfl,?_⟩;replace HO_4:=Aside0.mk (Kd.R_below (by (with_reducible repeat (first | apply Kd.R_alloc | apply Kd.R_drewN | apply Kd.R_drew));exact HO_4.out) hb);replace HB:=bh HB hb;(try clear hb))|((with_reducible refine gate_builtin (b:=.append) (xs:=#[.tmp 21,.tmp 23]) rfl ?_);at_builtin;refine Kd.R_append (Kd.int .i64) (w0:=w) w.heap.size rfl (.tmp 21) (.tmp 23) 66 3 (.int .i64 0) 8 rfl Tryz.underlying66 info3 rfl (by decide) (by omega) u4 x4_1 t133 [.int .i64 t133] (fun _=>True) (fun _=>False) rfl rfl ?aP (fun _ hk=>hk.elim) ?aF ?aO ?aB ?aS ?aL ?_;(case aP=>exact rfl);(case aB=>exact (by repeat (first|(with_reducible first | exact HB.out | apply below_alloc | apply pw_below_drewN | apply below_drew1) | exact HB.out)));(case aF=>exact (fun _ _=>trivial));(case aO=>exact (by (with_reducible repeat (first | apply Kd.R_alloc | apply Kd.R_drewN | apply Kd.R_drew));exact HO_4.out));(case aS=>exact (below_size (by repeat (first|(with_reducible first | exact HB.out | apply below_alloc | apply pw_below_drewN | apply below_drew1) | exact HB.out))));(case aL=>have:=LMc9.out;omega);intro v136 w12 ho hb hg hat;rw [← Ny135.out] at ho;have n0_:=Aside0.mk (hb);have n1_:=Aside0.mk (ho);clear HB;clear HO_4;have HB:=n0_;have HO137:=n1_;clear n0_ n1_;clear ho hb hg hat))
                go_roundg k1
                case measure=>have:=HK1.out;omega
                case rel=>exact ⟨(y135),(wrap64 (x5_1+t134)),(by first | rfl|(simp;done)|(simp [*];done)),H',⟨by have:=HK1.out;omega⟩,⟨by (with_reducible repeat (first | apply Kd.R_alloc | apply Kd.R_drewN | apply Kd.R_drew));exact HO137.out⟩,⟨by repeat (first|(with_reducible first | exact HB.out | apply below_alloc | apply pw_below_drewN | apply below_drew1) | exact HB.out)⟩⟩
              · rw [if_neg c9] at H
                exact absurd H (by simp)
          · rw [if_neg c4] at H
            exact absurd H (by simp)
        · rw [if_neg c3] at H
          exact absurd H (by simp)
      · rw [if_neg c2] at H
        have c2b0:decide (x5_1 < (l0.length:Int))=false:=decide_eq_false c2
        clear c2
        simp only [Option.some.injEq,Prod.mk.injEq] at H
        obtain ⟨rfl,rfl⟩:=H
        go_wp2
        go_ret2
        exact ⟨_,by first | rfl|(simp [errW_none,errW_some]<;>rfl)|(simp [*,errW_none,errW_some]<;>rfl),by (with_reducible repeat (first | apply Kd.R_alloc | apply Kd.R_drewN | apply Kd.R_drew));exact HO_4.out,by repeat (first|(with_reducible first | exact HB.out | apply below_alloc | apply pw_below_drewN | apply below_drew1) | exact HB.out)⟩
end Go.Proofs.YthjacokachgmfaaGreatDoor.F
end
