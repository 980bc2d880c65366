import Derived.Test.YthjacokachgmfaaGreatDoorT04
import Derived.Test.YthjacokachgmfaaGreatDoorT11
import Derived.Test.YthjacokachgmfaaGreatDoorT12
import Derived.Test.YthjacokachgmfaaGreatDoorT16
import Derived.Test.YthjacokachgmfaaGreatDoorT17
import Derived.Test.YthjacokachgmfaaGreatDoorT27
import Derived.Test.YthjacokachgmfaaGreatDoorT28
set_option linter.unusedVariables false
set_option linter.unusedSimpArgs false
section
namespace Go.Proofs.YthjacokachgmfaaGreatDoor.H
open Go Go.RowKit YthjacokachgmfaaGreatDoorW.PrintWords YthjacokachgmfaaGreatDoorW.PrintLast YthjacokachgmfaaGreatDoorW.PrintMore
open YthjacokachgmfaaGreatDoor.F
open Ev
set_option maxRecDepth 100000
def letterT (a:Int):Int:=if (a == 57350)=true then 68 else if (a == 57417)=true then 68 else if (a == 57351)=true then 67 else if (a == 57418)=true then 67 else if (a == 57352)=true then 65 else if (a == 57419)=true then 65 else if (a == 57353)=true then 66 else if (a == 57420)=true then 66 else if (a == 57356)=true then 72 else if (a == 57423)=true then 72 else if (a == 57357)=true then 70 else if (a == 57424)=true then 70 else if (a == 57427)=true then 69 else if (a == 57364)=true then ((wrap64 ((wrap64 (80+a)) - 57364)) % 256) else if (a == 57365)=true then ((wrap64 ((wrap64 (80+a)) - 57364)) % 256) else if (a == 57366)=true then ((wrap64 ((wrap64 (80+a)) - 57364)) % 256) else if (a == 57367)=true then ((wrap64 ((wrap64 (80+a)) - 57364)) % 256) else 0
set_option maxHeartbeats 8000000 in
theorem letter_c (a:Int) (w:World):Calls Tryz.prog 66 #[.int .i64 a] w fun e w'=>e=.returned (.int .u8 (letterT a))∧Below w.heap.size w w':=by
  unfold letterT
  rcases c0:(a == 57350) with _ | _
  rcases c1:(a == 57417) with _ | _
  rcases c2:(a == 57351) with _ | _
  rcases c3:(a == 57418) with _ | _
  rcases c4:(a == 57352) with _ | _
  rcases c5:(a == 57419) with _ | _
  rcases c6:(a == 57353) with _ | _
  rcases c7:(a == 57420) with _ | _
  rcases c8:(a == 57356) with _ | _
  rcases c9:(a == 57423) with _ | _
  rcases c10:(a == 57357) with _ | _
  rcases c11:(a == 57424) with _ | _
  rcases c12:(a == 57427) with _ | _
  rcases c13:(a == 57364) with _ | _
  rcases c14:(a == 57365) with _ | _
  rcases c15:(a == 57366) with _ | _
  rcases c16:(a == 57367) with _ | _
  all_goals
    simp only [*,Bool.false_and,Bool.and_false,Bool.true_and,Bool.and_true,Bool.not_true,Bool.not_false,Bool.true_or,Bool.or_true,Bool.false_or,Bool.or_false,if_true,if_false,reduceIte,Bool.false_eq_true]
    go_enter Tryz.func66,Tryz.ntmps66
    go_wp2
    go_ret
    first | exact ⟨rfl,Below.refl _ _⟩ | exact ⟨rfl,below_drew1 (Below.refl _ _)⟩
theorem isB_of (a:Int):clavierref02_Is.f a=some (isB a):=by
  unfold clavierref02_Is.f isB
  by_cases h1:a≥0
  · by_cases h2:a≤1114111
    · by_cases h3:a < 55296
      · rw [if_pos h1,if_pos h2,if_pos h3];exact congrArg some (decide_eq_true (by omega)).symm
      · rw [if_pos h1,if_pos h2,if_neg h3];exact congrArg some (decide_eq_decide.mpr (by omega))
    · rw [if_pos h1,if_neg h2];exact congrArg some (decide_eq_false (by omega)).symm
  · rw [if_neg h1];exact congrArg some (decide_eq_false (by omega)).symm
def restT (a:Int):Int:=if (a == 9||(a == 13||(a == 27||a == 127)))=true then 2 else if ((decide (57358≤a)&&decide (a≤57362))||((decide (57376≤a)&&decide (a≤57398))||(decide (57428≤a)&&decide (a≤57440))))=true then 6 else if (decide (57441≤a)&&decide (a≤57454))=true then 7 else if (!isB a||(decide (a < 32)||((decide (127≤a)&&decide (a≤159))||(decide (57344≤a)&&decide (a≤63743)))))=true then 0 else 1
set_option maxHeartbeats 8000000 in
theorem rest_c (a:Int) (w:World):Calls Tryz.prog 69 #[.int .i64 a] w fun e w'=>e=.returned (.int .i64 (restT a))∧Below w.heap.size w w':=by
  have HB:=Aside0.mk (Below.refl w.heap.size w)
  have hI:=isB_of a
  unfold restT
  generalize isB a=ib at *
  have HI:=Aside0.mk hI
  clear hI
  have hd:(a < 32)∨(32≤a∧a < 127)∨(127≤a∧a < 160)∨(160≤a∧a < 57344)∨(57344≤a∧a < 57358)∨(57358≤a∧a < 57363)∨(57363≤a∧a < 57376)∨(57376≤a∧a < 57399)∨(57399≤a∧a < 57428)∨(57428≤a∧a < 57441)∨(57441≤a∧a < 57455)∨(57455≤a∧a < 63744)∨(63744≤a):=by omega
  rcases d1:(a == 9) with _ | _
  rcases d2:(a == 13) with _ | _
  rcases d3:(a == 27) with _ | _
  rcases d4:(a == 127) with _ | _
  rcases hd with hd | hd | hd | hd | hd | hd | hd | hd | hd | hd | hd | hd | hd
  all_goals rcases ib with _ | _
  all_goals
    try first|(have p0:decide (57358≤a)=true:=decide_eq_true (by omega))|(have p0:decide (57358≤a)=false:=decide_eq_false (by omega))
    try first|(have p1:decide (a≤57362)=true:=decide_eq_true (by omega))|(have p1:decide (a≤57362)=false:=decide_eq_false (by omega))
    try first|(have p2:decide (57376≤a)=true:=decide_eq_true (by omega))|(have p2:decide (57376≤a)=false:=decide_eq_false (by omega))
    try first|(have p3:decide (a≤57398)=true:=decide_eq_true (by omega))|(have p3:decide (a≤57398)=false:=decide_eq_false (by omega))
    try first|(have p4:decide (57428≤a)=true:=decide_eq_true (by omega))|(have p4:decide (57428≤a)=false:=decide_eq_false (by omega))
    try first|(have p5:decide (a≤57440)=true:=decide_eq_true (by omega))|(have p5:decide (a≤57440)=false:=decide_eq_false (by omega))
    try first|(have p6:decide (57441≤a)=true:=decide_eq_true (by omega))|(have p6:decide (57441≤a)=false:=decide_eq_false (by omega))
    try first|(have p7:decide (a≤57454)=true:=decide_eq_true (by omega))|(have p7:decide (a≤57454)=false:=decide_eq_false (by omega))
    try first|(have p8:decide (a < 32)=true:=decide_eq_true (by omega))|(have p8:decide (a < 32)=false:=decide_eq_false (by omega))
    try first|(have p9:decide (127≤a)=true:=decide_eq_true (by omega))|(have p9:decide (127≤a)=false:=decide_eq_false (by omega))
    try first|(have p10:decide (a≤159)=true:=decide_eq_true (by omega))|(have p10:decide (a≤159)=false:=decide_eq_false (by omega))
    try first|(have p11:decide (57344≤a)=true:=decide_eq_true (by omega))|(have p11:decide (57344≤a)=false:=decide_eq_false (by omega))
    try first|(have p12:decide (a≤63743)=true:=decide_eq_true (by omega))|(have p12:decide (a≤63743)=false:=decide_eq_false (by omega))
    clear hd
    simp only [*,Bool.false_and,Bool.and_false,Bool.true_and,Bool.and_true,Bool.not_true,Bool.not_false,Bool.true_or,Bool.or_true,Bool.false_or,Bool.or_false,if_true,if_false,reduceIte,Bool.false_eq_true]
    go_enter Tryz.func69,Tryz.ntmps69
    go_wp2_with (go_at_call 117;refine (clavierref02_Is.calls a _ _ HI.out).mono ?_;rintro e w1 ⟨rfl,hb⟩;replace HB:=bh HB hb.below;clear hb)
    go_ret
    exact ⟨rfl,HB.out⟩
def inT (a:Int):Bool:=a == 9||a == 13||a == 27||a == 127||(decide (57348≤a)&&decide (a≤57454))
theorem codes:(ENTS 21).all (fun x=>inT x.1)=true:=by decide +kernel
theorem look_out {a:Int} (h:inT a=false):lookE a=restL a :=
  look_miss (fun x hx e=>by have:=List.all_eq_true.1 codes x hx;rw [e,h] at this;cases this)
theorem each {P:Int→Prop} (lo:Int) (n:Nat) (h:∀ i:Fin n,P (lo+(i.val:Int))) (a:Int) (h0:lo≤a) (h1:a < lo+n):P a:=by
  have:=h ⟨(a - lo).toNat,by omega⟩
  simp only [Int.toNat_of_nonneg (show 0≤a - lo by omega)] at this
  rw [show lo+(a - lo)=a by omega] at this
  exact this
theorem look_cases (a:Int):(∃ x∈ENTS 21,x.1=a∧lookE a=x.2)∨lookE a=restL a:=by
  by_cases h:∃ x∈ENTS 21,x.1=a
  · obtain ⟨x,hx,rfl⟩:=h
    exact .inl ⟨x,hx,rfl,look_hit hx⟩
  · exact .inr (look_miss (fun x hx e=>h ⟨x,hx,e⟩))
theorem number_out (a:Int) (h:a < 57340∨57470≤a):clavierref09_number.f a=some 0:=by
  have:numL.find? (fun x=>x.1 == a)=none:=List.find?_eq_none.2 (by
    intro x hx
    have hr:57340≤x.1∧x.1 < 57470:=by
      unfold numL at hx
      simp only [List.mem_cons,List.not_mem_nil,or_false] at hx
      rcases hx with rfl | rfl | rfl | rfl | rfl | rfl | rfl | rfl | rfl | rfl | rfl | rfl | rfl | rfl | rfl | rfl | rfl<;>decide
    simp
    omega)
  unfold clavierref09_number.f numC
  rw [this]
def refLookT (a:Int):LookT:=if (letterT a != 0)=true then (3,letterT a,0,0,decide (57399≤a)) else if (numC a != 0)=true then (4,0,numC a,0,decide (57399≤a)) else if (decide (57399≤a)&&decide (a≤57416))=true then (clavierref09_pad.f a).getD (0,0,0,0,false) else (restT a,0,0,0,false)
theorem refl_in:∀ i:Fin 130,refLookT (57340+(i.val:Int))=lookE (57340+(i.val:Int)):=by decide +kernel
theorem pad_in:∀ i:Fin 18,(clavierref09_pad.f (57399+(i.val:Int))).isSome=true:=by decide +kernel
theorem ref_lookT (a:Int):refLookT a=lookE a:=by
  by_cases h:a < 57340∨57470≤a
  · by_cases hT:inT a=true
    · have:a=9∨a=13∨a=27∨a=127:=by
        unfold inT at hT
        simp only [Bool.or_eq_true,Bool.and_eq_true,beq_iff_eq,decide_eq_true_eq] at hT
        omega
      rcases this with rfl | rfl | rfl | rfl<;>decide +kernel
    · have hT':inT a=false:=by simpa using hT
      have h':=hT'
      unfold inT at h'
      simp only [Bool.or_eq_false_iff,beq_eq_false_iff_ne] at h'
      have nb:∀ c:Int,57340≤c→c < 57470→(a == c)=false:=fun c h1 h2=>beq_eq_false_iff_ne.mpr (by omega)
      have eL:letterT a=0:=by
        unfold letterT
        rw [nb 57350 (by decide) (by decide),nb 57417 (by decide) (by decide),nb 57351 (by decide) (by decide),nb 57418 (by decide) (by decide),nb 57352 (by decide) (by decide),nb 57419 (by decide) (by decide),nb 57353 (by decide) (by decide),nb 57420 (by decide) (by decide),nb 57356 (by decide) (by decide),nb 57423 (by decide) (by decide),nb 57357 (by decide) (by decide),nb 57424 (by decide) (by decide),nb 57427 (by decide) (by decide),nb 57364 (by decide) (by decide),nb 57365 (by decide) (by decide),nb 57366 (by decide) (by decide),nb 57367 (by decide) (by decide)]
        rfl
      have eN:numC a=0:=Option.some.inj (number_out a h)
      rw [look_out hT']
      unfold refLookT
      rw [eL,eN,if_neg (by decide),if_neg (by decide),if_neg (by simp only [Bool.and_eq_true,decide_eq_true_eq];omega)]
      have eR:restT a=(restL a).1:=by
        unfold restT restL
        rw [if_neg (by simp [h'.1.1.1.1,h'.1.1.1.2,h'.1.1.2,h'.1.2]),if_neg (by simp only [Bool.or_eq_true,Bool.and_eq_true,decide_eq_true_eq];omega),if_neg (by simp only [Bool.and_eq_true,decide_eq_true_eq];omega)]
        by_cases hb:isB a=true
        · by_cases q:(a < 32∨(127≤a∧a≤159))∨(57344≤a∧a < 63744)
          · rw [if_pos (by simp only [hb,Bool.not_true,Bool.false_or,Bool.or_eq_true,Bool.and_eq_true,decide_eq_true_eq];omega),if_pos (by rcases q with q | q;exact .inl q;exact .inr (.inl q))]
          · rw [if_neg (by simp only [hb,Bool.not_true,Bool.false_or,Bool.or_eq_true,Bool.and_eq_true,decide_eq_true_eq];omega),if_neg (by rintro (q1 | q1 | q1);exact q (.inl q1);exact q (.inr q1);rw [hb] at q1;cases q1)]
        · have hb':isB a=false:=by simpa using hb
          rw [if_pos (by simp [hb']),if_pos (.inr (.inr hb'))]
      rw [eR]
      unfold restL
      split<;>rfl
  · exact each (P:=fun a=>refLookT a=lookE a) 57340 130 refl_in a (by omega) (by omega)
set_option maxHeartbeats 8000000 in
theorem look0_c (a:Int) (w:World) (r1 r2 r3 r4:Int) (r5:Bool) (h:refLookT a=(r1,r2,r3,r4,r5)):Calls Tryz.prog 29 #[.int .i64 a] w fun e w'=>e=.returned (.agg #[.int .i64 r1,.int .u8 r2,.int .i64 r3,.int .i64 r4,.bool r5])∧Below w.heap.size w w':=by
  have HB:=Aside0.mk (Below.refl w.heap.size w)
  unfold refLookT at h
  rcases c1:(letterT a != 0) with _ | _
  rcases c2:(numC a != 0) with _ | _
  rcases c3:decide (57399≤a) with _ | _
  rotate_left 1
  rcases c4:decide (a≤57416) with _ | _
  all_goals simp only [*,Bool.false_and,Bool.and_false,Bool.true_and,Bool.and_true,Bool.not_true,Bool.not_false,Bool.true_or,Bool.or_true,Bool.false_or,Bool.or_false,if_true,if_false,reduceIte,Bool.false_eq_true] at h
  rotate_left 1
  have hs:=each (P:=fun a=>(clavierref09_pad.f a).isSome=true) 57399 18 pad_in a (of_decide_eq_true c3) (by have:=of_decide_eq_true c4;omega)
  obtain ⟨⟨p1,p2,p3,p4,p5⟩,hp⟩:=Option.isSome_iff_exists.1 hs
  have HP:=Aside0.mk hp
  rw [hp] at h
  simp only [Option.getD_some] at h
  clear hs hp
  all_goals simp only [Prod.mk.injEq] at h
  all_goals obtain ⟨rfl,rfl,rfl,rfl,rfl⟩:=h
  all_goals
    go_enter Tryz.func29,Tryz.ntmps29
    go_wp2_with (first|(refine bx 2 #[.int .i64 0,.int .u8 0,.int .i64 0,.int .i64 0,.bool false] 85 (h:=?_);intro g2 hg w2 hbox hb;have HBo:=HB;replace HB:=bh HB hb;have B2:=Aside0.mk hbox;have q2:=cells5 B2.out;have G2:=gG HBo hg;clear hbox hb hg HBo)|(go_at_call 66;refine (letter_c a _).mono ?_;rintro e w1 ⟨rfl,hb⟩;replace B2:=kb B2 hb;clear q2;have q2:=cells5 B2.out;replace HB:=bh HB hb;clear hb)|(go_at_call 67;refine (num_t a _).mono ?_;rintro e w1 ⟨rfl,hb⟩;replace B2:=kb B2 hb;clear q2;have q2:=cells5 B2.out;replace HB:=bh HB hb;clear hb)|(go_at_call 68;refine (clavierref09_pad.calls a p1 p2 p3 p4 p5 _ HP.out).mono ?_;rintro e w1 ⟨rfl,hb⟩;replace B2:=kb B2 hb;clear q2;have q2:=cells5 B2.out;replace HB:=bh HB hb;clear hb)|(go_at_call 69;refine (rest_c a _).mono ?_;rintro e w1 ⟨rfl,hb⟩;replace B2:=kb B2 hb;clear q2;have q2:=cells5 B2.out;replace HB:=bh HB hb;clear hb)|((with_reducible refine gate_store (t:=85) rfl ?_);refine sx 85 0 B2 (h:=?_);intro w3 BN hg;replace HB:=gb HB hg G2;clear B2 q2 hg;have B2:=BN;clear BN;have q2:=cells5 B2.out))
    refine bodyPost_ret (results_cell_row rfl _ _ g2 85 _ (0,0) _ rfl B2.out Tryz.underlying85 rfl (by kernel_rfl)) rfl ?_
    first | exact ⟨rfl,HB.out⟩ | (simp only [c3];exact ⟨rfl,HB.out⟩)
theorem reflook_c (a r1 r2 r3 r4:Int) (r5:Bool) (w:World) (h:lookE a=(r1,r2,r3,r4,r5)):Calls Tryz.prog 29 #[.int .i64 a] w fun e w'=>e=.returned (.agg #[.int .i64 r1,.int .u8 r2,.int .i64 r3,.int .i64 r4,.bool r5])∧Below w.heap.size w w' :=
  look0_c a w r1 r2 r3 r4 r5 ((ref_lookT a).trans h)
set_option maxHeartbeats 4000000 in
theorem reftext_c (a:Int) (w:World):Calls Tryz.prog 30 #[.int .i64 a] w fun e w'=>e=.returned (.bool ((lookE a).1 == 1))∧Below w.heap.size w w':=by
  have HB:=Aside0.mk (Below.refl w.heap.size w)
  obtain ⟨r1,r2,r3,r4,r5,hL⟩:∃ r1 r2 r3 r4 r5,lookE a=(r1,r2,r3,r4,r5):=⟨_,_,_,_,_,rfl⟩
  have HL:=Aside0.mk hL
  have ef:∀ W:World,(Instr.field 85 (.agg #[.int .i64 r1,.int .u8 r2,.int .i64 r3,.int .i64 r4,.bool r5]) 0).run Tryz.prog W=.ok (.int .i64 r1) W:=fun W=>by kernel_rfl
  rw [hL]
  clear hL
  go_enter Tryz.func30,Tryz.ntmps30
  go_wp2_with (go_at_call 29;refine (reflook_c a r1 r2 r3 r4 r5 _ HL.out).mono ?_;rintro e w1 ⟨rfl,hb⟩;replace HB:=bh HB hb;clear hb)
  go_ret
  exact ⟨rfl,HB.out⟩
end Go.Proofs.YthjacokachgmfaaGreatDoor.H
end
section
namespace Go.Proofs.YthjacokachgmfaaGreatDoor.H
open Go Go.RowKit YthjacokachgmfaaGreatDoorW.PrintWords YthjacokachgmfaaGreatDoorW.PrintLast YthjacokachgmfaaGreatDoorW.PrintMore
open Ev
set_option maxRecDepth 100000
def formT (a:Int):Int × Int:=if ((lookE a).1 == 0)=true then (0,0) else if (a == 57366)=true then (13,126) else if ((lookE a).1 == 3&&!(lookE a).2.2.2.2)=true then (1,(lookE a).2.1) else if ((lookE a).1 == 4&&!(lookE a).2.2.2.2)=true then ((lookE a).2.2.1,126) else (a,117)
set_option maxHeartbeats 4000000 in
theorem refform_c (a n fin:Int) (w:World) (h:formT a=(n,fin)):Calls Tryz.prog 33 #[.int .i64 a] w fun e w'=>e=.returned (.tuple #[.int .i64 n,.int .u8 fin])∧Below w.heap.size w w':=by
  have HB:=Aside0.mk (Below.refl w.heap.size w)
  obtain ⟨r1,r2,r3,r4,r5,hL⟩:∃ r1 r2 r3 r4 r5,lookE a=(r1,r2,r3,r4,r5):=⟨_,_,_,_,_,rfl⟩
  have HL:=Aside0.mk (show keys_Look.f a=some (r1,r2,r3,r4,r5) from congrArg some hL)
  have HA:=Aside0.mk hL
  unfold formT at h
  rw [hL] at h
  clear hL
  rcases c0:(r1 == 0) with _ | _
  rcases c1:(a == 57366) with _ | _
  rcases c3:(r1 == 3) with _ | _
  rcases c4:(r1 == 4) with _ | _
  rotate_left 2
  rcases c4:(r1 == 4) with _ | _
  all_goals rcases r5 with _ | _
  all_goals simp only [*,Bool.true_and,Bool.false_and,Bool.and_true,Bool.and_false,Bool.not_true,Bool.not_false,if_true,if_false,reduceIte,Bool.false_eq_true,Prod.mk.injEq] at h
  all_goals obtain ⟨rfl,rfl⟩:=h
  all_goals
    go_enter Tryz.func33,Tryz.ntmps33
    go_wp2_with (first|(go_at_call 29;refine (reflook_c a r1 r2 r3 r4 _ _ HA.out).mono ?_;rintro e w1 ⟨rfl,hb⟩;replace HB:=bh HB hb;clear hb)|(refine bx 4 #[.int .i64 0,.int .u8 0,.int .i64 0,.int .i64 0,.bool false] 85 (h:=?_);intro g4 hg w2 hbox hb;have HBo:=HB;replace HB:=bh HB hb;have B4:=Aside0.mk hbox;have q4:=cells5 B4.out;have G4:=gG HBo hg;clear hbox hb hg HBo)|((with_reducible refine gate_store (t:=85) rfl ?_);refine sx 85 0 B4 (h:=?_);intro w3 BN hg;replace HB:=gb HB hg G4;clear B4 q4 hg;have B4:=BN;clear BN;have q4:=cells5 B4.out))
    try
      refine st 4 (fun w'=>w'.cell? ⟨g4,1,none⟩=some (.int .u8 r2)) [] (hS:=q4.2.1) (h:=fun hHeld=>?_)
      refine pu 0 (h:=?_)
      refine tk 1 hHeld (h:=?_)
      refine pu 2 (h:=?_)
      refine pu 3 (h:=?_)
      refine done_ (by kernel_rfl) ?_
      clear hHeld
      go_wp2
    go_ret2
    first | exact ⟨rfl,HB.out⟩ | exact ⟨rfl,below_drew1 HB.out⟩
set_option maxHeartbeats 4000000 in
theorem form_c (a n fin:Int) (w:World) (h:formT a=(n,fin)):Calls Tryz.prog 39 #[.int .i64 a] w fun e w'=>e=.returned (.tuple #[.int .i64 n,.int .u8 fin])∧Below w.heap.size w w':=by
  have HB:=Aside0.mk (Below.refl w.heap.size w)
  obtain ⟨r1,r2,r3,r4,r5,hL⟩:∃ r1 r2 r3 r4 r5,lookE a=(r1,r2,r3,r4,r5):=⟨_,_,_,_,_,rfl⟩
  have HL:=Aside0.mk (show keys_Look.f a=some (r1,r2,r3,r4,r5) from congrArg some hL)
  have HA:=Aside0.mk hL
  unfold formT at h
  rw [hL] at h
  clear hL
  rcases c0:(r1 == 0) with _ | _
  rcases c1:(a == 57366) with _ | _
  rcases c3:(r1 == 3) with _ | _
  rcases c4:(r1 == 4) with _ | _
  rotate_left 2
  rcases c4:(r1 == 4) with _ | _
  all_goals rcases r5 with _ | _
  all_goals simp only [*,Bool.true_and,Bool.false_and,Bool.and_true,Bool.and_false,Bool.not_true,Bool.not_false,if_true,if_false,reduceIte,Bool.false_eq_true,Prod.mk.injEq] at h
  all_goals obtain ⟨rfl,rfl⟩:=h
  all_goals
    go_enter Tryz.func39,Tryz.ntmps39
    go_wp2_with (first|(go_at_call 35;refine (keys_Look.calls a r1 r2 r3 r4 _ _ HL.out).mono ?_;rintro e w1 ⟨rfl,hb⟩;replace HB:=bh HB hb;clear hb)|(refine bx 4 #[.int .i64 0,.int .u8 0,.int .i64 0,.int .i64 0,.bool false] 93 (h:=?_);intro g4 hg w2 hbox hb;have HBo:=HB;replace HB:=bh HB hb;have B4:=Aside0.mk hbox;have q4:=cells5 B4.out;have G4:=gG HBo hg;clear hbox hb hg HBo)|((with_reducible refine gate_store (t:=93) rfl ?_);refine sx 93 0 B4 (h:=?_);intro w3 BN hg;replace HB:=gb HB hg G4;clear B4 q4 hg;have B4:=BN;clear BN;have q4:=cells5 B4.out))
    try
      refine st 4 (fun w'=>w'.cell? ⟨g4,1,none⟩=some (.int .u8 r2)) [] (hS:=q4.2.1) (h:=fun hHeld=>?_)
      refine pu 0 (h:=?_)
      refine tk 1 hHeld (h:=?_)
      refine pu 2 (h:=?_)
      refine pu 3 (h:=?_)
      refine done_ (by kernel_rfl) ?_
      clear hHeld
      go_wp2
    go_ret2
    first | exact ⟨rfl,HB.out⟩ | exact ⟨rfl,below_drew1 HB.out⟩
end Go.Proofs.YthjacokachgmfaaGreatDoor.H
end
section
namespace Go.Proofs.YthjacokachgmfaaGreatDoor.R
open Go Go.RowKit YthjacokachgmfaaGreatDoor.H
def kitty_Form.f (_:Nat) (a:Int):Option (Int × Int):=some (formT a)
theorem kitty_Form.calls (k:Nat) (a r1 r2:Int) (w:World) (h:kitty_Form.f k a=some (r1,r2)):Calls Tryz.prog 39 #[.int .i64 a] w fun e w'=>e=.returned (.tuple #[.int .i64 r1,.int .u8 r2])∧Below w.heap.size w w':=form_c a r1 r2 w (Option.some.inj h)
end Go.Proofs.YthjacokachgmfaaGreatDoor.R
end
section
namespace Go.Proofs.YthjacokachgmfaaGreatDoor.R
open YthjacokachgmfaaGreatDoor.H Go.RowKit YthjacokachgmfaaGreatDoorW.PrintWords YthjacokachgmfaaGreatDoorW.PrintLast YthjacokachgmfaaGreatDoorW.PrintMore
attribute [local go_sem] max2_int min2_int max_two min_two max_three min_three max_four min_four
def mods_Param.f (a0:Int):Option (Int):=if a0 < 0 then (some 1) else (if a0 > 255 then (some 1) else (some (wrap64 (a0+1))))
set_option maxHeartbeats 8000000 in
set_option maxRecDepth 100000 in
theorem mods_Param.calls (a0:Int) (r:Int) (w:World) (h:mods_Param.f a0=some r) :
    Calls Tryz.prog 81 #[.int .i64 a0] w fun e w'=>e=.returned (.int .i64 r)∧Drawn0 w w':=by
  have H:(if a0 < 0 then (some 1) else (if a0 > 255 then (some 1) else (some (wrap64 (a0+1)))))=some r:=h
  clear h
  by_cases c2:a0 < 0
  · rw [if_pos c2] at H
    have c2b0:decide (a0 < 0)=true:=decide_eq_true c2
    clear c2
    obtain rfl:=Option.some.inj H
    go_enter Tryz.func81,Tryz.ntmps81
    go_wp2
    go_ret
    exact fD
  · rw [if_neg c2] at H
    have c2b0:decide (a0 < 0)=false:=decide_eq_false c2
    clear c2
    by_cases c3:a0 > 255
    · rw [if_pos c3] at H
      have c3b0:decide (255 < a0)=true:=decide_eq_true c3
      clear c3
      obtain rfl:=Option.some.inj H
      go_enter Tryz.func81,Tryz.ntmps81
      go_wp2
      go_ret
      exact fD
    · rw [if_neg c3] at H
      have c3b0:decide (255 < a0)=false:=decide_eq_false c3
      clear c3
      obtain rfl:=Option.some.inj H
      go_enter Tryz.func81,Tryz.ntmps81
      go_wp2
      go_ret
      exact fD
end Go.Proofs.YthjacokachgmfaaGreatDoor.R
end
section
namespace Go.Proofs.YthjacokachgmfaaGreatDoor.R
open Go Go.RowKit YthjacokachgmfaaGreatDoorW.PrintWords YthjacokachgmfaaGreatDoorW.PrintLast YthjacokachgmfaaGreatDoorW.PrintMore
open YthjacokachgmfaaGreatDoor.H
open YthjacokachgmfaaGreatDoor.H.Ev
set_option maxRecDepth 100000
def kitty_event_how.f (_:Nat) (a0 a1 a2 a3 a4:Int) (s:ByteArray) (fl kd:Int):Option (List Int):=(mods_Param.f a1).bind fun p=>if (Go.bits .and .i64 (mx fl 0) 2 != 0&&a2 != 1)=true then some [p,a2] else if (a1 != 0)=true then some [p] else some [-1]
theorem param_c (a p:Int) (w:World) (h:mods_Param.f a=some p):Calls Tryz.prog 81 #[.int .i64 a] w fun e w'=>e=.returned (.int .i64 p)∧Below w.heap.size w w':=(mods_Param.calls a p w h).mono fun e w' x=>⟨x.1,x.2.below⟩
set_option maxHeartbeats 16000000 in
theorem kitty_event_how.calls (k:Nat) (a0 a1 a2 a3 a4:Int) (s:ByteArray) (fl kd:Int) (r:List Int) (w:World) (h:kitty_event_how.f k a0 a1 a2 a3 a4 s fl kd=some r) :
    Calls Tryz.prog 42 #[.agg #[.int .i64 a0,.int .i64 a1,.int .i64 a2,.int .i64 a3,.int .i64 a4,.string s,.int .i64 fl,.int .i64 kd]] w fun e w'=>∃ v,e=.returned v∧Kd.R (Kd.int .i64) 3 w' w.heap.size (fun _=>True) v r∧Below w.heap.size w w':=by
  have HB:=Aside0.mk (Below.refl w.heap.size w)
  unfold kitty_event_how.f at h
  obtain ⟨p,hp,h⟩:=Option.bind_eq_some_iff.1 h
  have HP:=Aside0.mk hp
  clear hp
  rcases c0:(Go.bits .and .i64 (mx fl 0) 2 != 0) with _ | _
  rotate_left 1
  rcases c1:(a2 != 1) with _ | _
  rotate_left 1
  rotate_left 1
  all_goals rcases c2:(a1 != 0) with _ | _
  all_goals simp only [*,Bool.and_true,Bool.and_false,Bool.true_and,Bool.false_and,if_true,if_false,reduceIte,Bool.false_eq_true] at h
  all_goals obtain rfl:=Option.some.inj h
  all_goals
    clear h
    go_enter Tryz.func42,Tryz.ntmps42
    go_wp2_with (first|(refine bx 1 #[.int .i64 a0,.int .i64 a1,.int .i64 a2,.int .i64 a3,.int .i64 a4,.string s,.int .i64 fl,.int .i64 kd] 96 (h:=?_);intro g1 hg w1 hbox hb;have HBo:=HB;replace HB:=bh HB hb;have B1:=Aside0.mk hbox;have q1:=Ev.cells8 B1.out;have G1:=gG HBo hg;clear hbox hb hg HBo)|(go_at_call 76;refine (kitty_event_has.calls a0 a1 a2 a3 a4 s fl kd 2 _ _ rfl).mono ?_;rintro e w3 ⟨rfl,hb⟩;replace B1:=kb B1 hb;clear q1;have q1:=Ev.cells8 B1.out;replace HB:=bh HB hb;clear hb)|(go_at_call 81;refine (param_c a1 p _ HP.out).mono ?_;rintro e w4 ⟨rfl,hb⟩;replace B1:=kb B1 hb;clear q1;have q1:=Ev.cells8 B1.out;replace HB:=bh HB hb;clear hb)|((with_reducible refine gate_dst (N:=29) rfl ?_);refine Kd.R_lit (Kd.int .i64) _ 3 ?hg (N:=29) ?hd (xs:=([p]:List Int)) (inner:=[.int .i64 p]) (ok:=fun _=>True) (okp:=fun _=>True) ?hr ?hp (fun _ hk=>hk) trivial (Below.refl _ _) (Nat.le_refl _) (by simp) ?_;(case hd=>rfl);(case hg=>rfl);(case hr=>first|(go_simp;done)|(go_simp;rfl));(case hp=>exact (Reps.one (show Kd.M (Kd.int .i64) _ _ _ p [.int .i64 p] from rfl) (Reps.none _ _)));intro v w2 ho hb hg_ hnew_;clear hg_ hnew_;have HO:=Aside0.mk (Kd.R_lower ho (below_size HB.out));replace HB:=bh HB hb;clear hb ho)|((with_reducible refine gate_dst (N:=30) rfl ?_);refine Kd.R_lit (Kd.int .i64) _ 3 ?hg (N:=30) ?hd (xs:=([(-1)]:List Int)) (inner:=[.int .i64 (-1)]) (ok:=fun _=>True) (okp:=fun _=>True) ?hr ?hp (fun _ hk=>hk) trivial (Below.refl _ _) (Nat.le_refl _) (by simp) ?_;(case hd=>rfl);(case hg=>rfl);(case hr=>first|(go_simp;done)|(go_simp;rfl));(case hp=>exact (Reps.one (show Kd.M (Kd.int .i64) _ _ _ (-1) [.int .i64 (-1)] from rfl) (Reps.none _ _)));intro v w2 ho hb hg_ hnew_;clear hg_ hnew_;have HO:=Aside0.mk (Kd.R_lower ho (below_size HB.out));replace HB:=bh HB hb;clear hb ho))
    first
    | (go_ret;exact ⟨_,rfl,HO.out,HB.out⟩)
    | skip
  all_goals
    refine st 9 (fun w'=>w'.cell? ⟨g1,1,none⟩=some (.int .i64 a1)∧w'.cell? ⟨g1,2,none⟩=some (.int .i64 a2)) [] (hS:=⟨q1.2.1,q1.2.2.1⟩) (h:=fun hHeld=>?_)
    refine pu 0 (h:=?_)
    refine pu 1 (h:=?_)
    refine pu 4 (h:=?_)
    refine pu 5 (h:=?_)
    refine tk 2 hHeld (h:=?_)
    refine tk 6 hHeld (h:=?_)
    refine oS 3 (h:=fun K hK=>?_)
    refine gc Tryz.func81 (param_c a1 p _ HP.out) (h:=?_)
    rintro e w4 ⟨rfl,hb⟩
    refine ⟨_,rfl,?_⟩
    replace B1:=kb B1 hb
    clear q1
    have q1:=Ev.cells8 B1.out
    replace HB:=bh HB hb
    clear hb
    refine hK.out _ _ ⟨q1.2.1,q1.2.2.1⟩ (fun hHeld=>?_)
    clear hK K
    refine nm 15 (h:=?_)
    refine oS 7 (h:=fun K hK=>?_)
    refine Kd.R_lit_step (Kd.int .i64) _ 3 (by rfl) (N:=19) (by rfl) (xs:=([p,a2]:List Int)) (inner:=[.int .i64 p,.int .i64 a2]) (ok:=fun _=>True) (okp:=fun _=>True) (by first|(go_simp;done)|(go_simp;rfl)) (Reps.one (show Kd.M (Kd.int .i64) _ _ _ p [.int .i64 p] from rfl) (Reps.one (show Kd.M (Kd.int .i64) _ _ _ a2 [.int .i64 a2] from rfl) (Reps.none _ _))) (fun _ hk=>hk) trivial (Below.refl _ _) (Nat.le_refl _) (by simp) ?_
    intro v w5 ho hb hg_ hnew_
    clear hg_ hnew_
    have HO:=Aside0.mk (Kd.R_lower ho (by first | exact below_size HB.out | exact below_size (below_drew1 HB.out)))
    replace B1:=kb B1 hb
    clear q1
    have q1:=Ev.cells8 B1.out
    replace HB:=bh HB hb
    clear hb ho
    refine hK.out _ _ ⟨q1.2.1,q1.2.2.1⟩ (fun hHeld=>?_)
    clear hK K
    refine nm 19 (h:=?_)
    refine pu 8 (h:=?_)
    refine done_ (by kernel_rfl) ?_
    clear hHeld
    go_wp2
    go_ret
    exact ⟨_,rfl,HO.out,HB.out⟩
end Go.Proofs.YthjacokachgmfaaGreatDoor.R
end
section
namespace Go.Proofs.YthjacokachgmfaaGreatDoor.H
open Go Go.RowKit YthjacokachgmfaaGreatDoorW.PrintWords YthjacokachgmfaaGreatDoorW.PrintLast YthjacokachgmfaaGreatDoorW.PrintMore
open YthjacokachgmfaaGreatDoor.R
theorem key_calls (kF kC kH:Nat) (a0 a1 a2 a3 a4:Int) (s:ByteArray) (fl kd r2 r3 r4 n fin:Int) (r5:Bool) (L1 L2:List Int) (w:World) (hp:Pow w) (hs:s.size≤1100000)
    (hL:keys_Look.f a0=some (kd,r2,r3,r4,r5)) (hM:mayB a0 a1 a2 a3 a4 s=true) (h2:hasT fl 2=true) (h8:hasT fl 8=true) (hF:kitty_Form.f kF a0=some (n,fin))
    (hC:kitty_event_code.f kC a0 a1 a2 a3 a4 s fl kd n fin=some L1) (hH:kitty_event_how.f kH a0 a1 a2 a3 a4 s fl kd=some L2)
    (hpl:Plain 1 0 fin [] []) (l1:L1.length≤100000) (l2:L2.length≤100000) (l3:(textsT a2 s fl).length≤100000) :
    Calls Tryz.prog 13 #[.int .i64 fl,.agg #[.int .i64 a0,.int .i64 a1,.int .i64 a2,.int .i64 a3,.int .i64 a4,.string s]] w fun e w'=>∃ v,e=.returned v∧KeyR w w' v (keyPs [L1,L2,textsT a2 s fl]) fin∧Below w.heap.size w w' :=
  key_core a0 a1 a2 a3 a4 s fl kd r2 r3 r4 n fin r5 L1 L2 (textsT a2 s fl) w hp
    (fun w=>keys_Look.calls a0 kd r2 r3 r4 r5 w hL) (fun w=>by rw [← hM];exact may_t a0 a1 a2 a3 a4 s hs w)
    (fun w=>sent_calls a0 a1 a2 a3 a4 s fl kd w h2 h8) (fun w=>text_calls a0 a1 a2 a3 a4 s fl kd w h8) (fun w=>kitty_Form.calls kF a0 n fin w hF)
    (fun w=>kitty_event_code.calls kC a0 a1 a2 a3 a4 s fl kd n fin L1 w hC) (fun w=>kitty_event_how.calls kH a0 a1 a2 a3 a4 s fl kd L2 w hH) (fun w=>texts_calls a0 a1 a2 a3 a4 s hs fl kd w)
    hpl l1 l2 l3
end Go.Proofs.YthjacokachgmfaaGreatDoor.H
end
section
namespace Go.Proofs.YthjacokachgmfaaGreatDoor.H
open Go Go.RowKit YthjacokachgmfaaGreatDoorW.PrintWords YthjacokachgmfaaGreatDoorW.PrintLast YthjacokachgmfaaGreatDoorW.PrintMore YthjacokachgmfaaGreatDoor.R
set_option maxRecDepth 100000
theorem look97:keys_Look.f 97=some (1,0,0,0,false):=by kernel_rfl
theorem form97:kitty_Form.f 100 97=some (97,117):=by kernel_rfl
theorem may97:mayB 97 0 1 0 0 ⟨#[]⟩=true:=by kernel_rfl
theorem t97:csiT 0 [[97]] [] 117=[27,91,57,55,117]:=by kernel_rfl
theorem plain117:Plain 1 0 117 [] []:=⟨.inl ⟨rfl,rfl⟩,.inl rfl,by decide,⟨by decide,by simp⟩,by simp⟩
theorem key97_11 (w:World) (hp:Pow w):Calls Tryz.prog 13 #[.int .i64 11,.agg #[.int .i64 97,.int .i64 0,.int .i64 1,.int .i64 0,.int .i64 0,.string ⟨#[]⟩]] w fun e w'=>∃ v,e=.returned v∧OwnB w w' v [27,91,57,55,117]∧Below w.heap.size w w':=by
  refine (key_calls 100 100 100 97 0 1 0 0 ⟨#[]⟩ 11 1 0 0 0 97 117 false [97] [-1] w hp (by decide) look97 may97 (by kernel_rfl) (by kernel_rfl) form97 (by kernel_rfl) (by kernel_rfl) plain117 (by decide) (by decide) (of_decide_eq_true (by kernel_rfl))).mono ?_
  rintro e w' ⟨v,rfl,hK,hb⟩
  rw [show keyPs [[97],[-1],textsT 1 ⟨#[]⟩ 11]=[[97]] by kernel_rfl] at hK
  unfold KeyR at hK
  rw [if_pos (by kernel_rfl),t97] at hK
  exact ⟨v,rfl,hK,hb⟩
theorem key97_31 (w:World) (hp:Pow w):Calls Tryz.prog 13 #[.int .i64 31,.agg #[.int .i64 97,.int .i64 0,.int .i64 1,.int .i64 0,.int .i64 0,.string ⟨#[]⟩]] w fun e w'=>∃ v,e=.returned v∧OwnB w w' v [27,91,57,55,117]∧Below w.heap.size w w':=by
  refine (key_calls 100 100 100 97 0 1 0 0 ⟨#[]⟩ 31 1 0 0 0 97 117 false [97] [-1] w hp (by decide) look97 may97 (by kernel_rfl) (by kernel_rfl) form97 (by kernel_rfl) (by kernel_rfl) plain117 (by decide) (by decide) (of_decide_eq_true (by kernel_rfl))).mono ?_
  rintro e w' ⟨v,rfl,hK,hb⟩
  rw [show keyPs [[97],[-1],textsT 1 ⟨#[]⟩ 31]=[[97]] by kernel_rfl] at hK
  unfold KeyR at hK
  rw [if_pos (by kernel_rfl),t97] at hK
  exact ⟨v,rfl,hK,hb⟩
end Go.Proofs.YthjacokachgmfaaGreatDoor.H
end
section
namespace Go.Proofs.YthjacokachgmfaaGreatDoor.H
open Go Go.RowKit YthjacokachgmfaaGreatDoorW.PrintWords YthjacokachgmfaaGreatDoorW.PrintLast YthjacokachgmfaaGreatDoorW.PrintMore
open Ev
set_option maxRecDepth 100000
set_option maxHeartbeats 8000000 in
theorem take_calls (A:Option Addr) (c:Nat) (l:List Int) (m:Nat) (p y:Int) (T:List Int) (B0:List UInt8) (w:World) (hpw:Pow w) (hC:Kd.C (Kd.int .u8) w A l.length l) (hl:l.length≤1000000) (hc:l.length≤c) (h:KeyHead l m p y T) (hpl:Plain 1 0 y [] [])
    (hls:listedT [[takeV T]]=true) (hcs:csiT 0 [[takeV T]] [] y=B0) (hpf:pfxB l (nat8 B0)=true) (hlen:(nat8 B0).length=2+m+1) :
    Calls Tryz.prog 10 #[.slice A l.length c] w fun e w'=>∃ Av cv,e=.returned (.tuple #[.agg #[.int .i64 1,.int .u8 0,.slice Av 1 cv,.string ⟨#[]⟩,.int .u8 y,.string ⟨#[]⟩],.int .i64 ((2+m+1:Nat):Int),.int .i64 0])∧Kd.C kli w' Av 1 [[takeV T]]∧Below w.heap.size w w':=by
  have HPW:=Aside0.mk hpw
  have HC:=Aside0.mk hC
  have HL:=Aside0.mk hl
  have HLC:=Aside0.mk hc
  have HH:=Aside0.mk h
  have HPL:=Aside0.mk hpl
  have HLS:=Aside0.mk hls
  have HCS:=Aside0.mk hcs
  have HPF:=Aside0.mk hpf
  obtain ⟨LB,hLB⟩:∃ L,nat8 B0=L:=⟨_,rfl⟩
  obtain ⟨ka,hka⟩:∃ k:Int,((2+m+1:Nat):Int)=k:=⟨_,rfl⟩
  have HLB:=Aside0.mk hLB
  have HKA:=Aside0.mk hka
  rw [hLB] at hlen HPF
  have ek:((LB.length:Int) == ka)=true:=by rw [← hka,hlen];simp
  rw [hka]
  have HB:=Aside0.mk (Below.refl w.heap.size w)
  clear hpw hC hl hc h hpl hls hcs hpf hlen hLB hka
  go_enter Tryz.func10,Tryz.ntmps10
  go_wp2_with (first|(refine bx 2 #[.int .i64 0,.int .u8 0,.slice none 0 0,.string ⟨#[]⟩,.int .u8 0,.string ⟨#[]⟩] 44 (h:=?_);intro g2 hg w1 hbox hb;have HBo:=HB;replace HB:=bh HB hb;have B2:=Aside0.mk hbox;have q2:=cells6 B2.out;have G2:=gG HBo hg;clear hbox hb hg HBo)|(refine bx 5 #[.slice none 0 0,.int .i64 0,.int .i64 0,.int .u8 0,.slice none 0 0,.string ⟨#[]⟩,.int .u8 0,.string ⟨#[]⟩] 80 (h:=?_);intro g5 hg w2 hbox hb;have HBo:=HB;replace B2:=kb B2 hb;clear q2;have q2:=cells6 B2.out;replace HB:=bh HB hb;have B5:=Aside0.mk hbox;have q5:=cells8 B5.out;have G5:=gG HBo hg;clear hbox hb hg HBo)|((with_reducible refine gate_store (t:=80) rfl ?_);refine sx 80 0 B5 (h:=?_);intro w3 hS hg;replace B2:=gnx B2 hg B5;clear q2;have q2:=cells6 B2.out;replace HB:=gb HB hg G5;clear B5 q5 hg;have B5:=hS;clear hS;have q5:=cells8 B5.out)|(go_at_call 26;refine (read_calls g5 A c l m p y T w _ HC.out HL.out HB.out G5.out B5.out HLC.out HH.out).mono ?_;rintro e w4 ⟨rfl,v,hbr,hR,hb,hk⟩;obtain ⟨Av,cv,rfl⟩:=Kd.R_slice hR;have HR:=Aside0.mk hR;replace B2:=Aside0.mk ((hk.2 g2 (blk_lt B2.out) (blk_ne B2.out B5.out (by decide))).trans B2.out);clear B5 HB q2 q5;have B5:=Aside0.mk (show w4.heap[g5]?=some (.cells #[.slice A l.length c,.int .i64 ka,.int .i64 1,.int .u8 0,.slice Av 1 cv,.string ⟨#[]⟩,.int .u8 y,.string ⟨#[]⟩] 80 (0,0)) by rw [← HKA.out];exact hbr);have HB:=Aside0.mk hb;clear hbr hR hb hk;have q2:=cells6 B2.out;have q5:=cells8 B5.out)|(go_at_call 27;refine (put_calls 0 y [] Av [[takeV T]] cv _ HPL.out (Kd.R_reads' HR.out).2.2 (by simp) (by simp) (HPW.out.below HB.out)).mono ?_;rintro e w5 ⟨he,hb⟩;rw [if_pos HLS.out,HCS.out] at he;obtain ⟨vp,rfl,hv⟩:=he;obtain ⟨Ap,cp,rfl,hcp,hCp⟩:=Kd.R_reads (show Kd.R (Kd.int .u8) 5 w5 w4.heap.size _ vp LB by rw [← HLB.out];exact hv);have HCP:=Aside0.mk hCp;replace HR:=Aside0.mk (Kd.R_below HR.out hb);clear hv hcp hCp;replace B2:=kb B2 hb;clear q2;have q2:=cells6 B2.out;replace B5:=kb B5 hb;clear q5;have q5:=cells8 B5.out;replace HB:=bh HB hb;clear hb)|(go_at_call 28;refine (hasPrefix_calls A Ap c cp l LB _ (Kd.C_below HC.out HB.out) HCP.out HLC.out).mono ?_;rintro e w6 ⟨rfl,hb⟩;rw [HPF.out];replace HR:=Aside0.mk (Kd.R_below HR.out hb);replace B2:=kb B2 hb;clear q2;have q2:=cells6 B2.out;replace B5:=kb B5 hb;clear q5;have q5:=cells8 B5.out;replace HB:=bh HB hb;clear hb))
  refine st 8 (fun w'=>w'.cell? ⟨g5,1,none⟩=some (.int .i64 ka)∧w'.cell? ⟨g5,2,none⟩=some (.int .i64 1)∧w'.cell? ⟨g5,3,none⟩=some (.int .u8 0)∧w'.cell? ⟨g5,4,none⟩=some (.slice Av 1 cv)∧w'.cell? ⟨g5,5,none⟩=some (.string ⟨#[]⟩)∧w'.cell? ⟨g5,6,none⟩=some (.int .u8 y)∧w'.cell? ⟨g5,7,none⟩=some (.string ⟨#[]⟩)) [] (hS:=⟨q5.2.1,q5.2.2.1,q5.2.2.2.1,q5.2.2.2.2.1,q5.2.2.2.2.2.1,q5.2.2.2.2.2.2.1,q5.2.2.2.2.2.2.2⟩) (h:=fun hHeld=>?_)
  refine pu 0 (h:=?_)
  refine pu 2 (h:=?_)
  refine pu 3 (h:=?_)
  refine tk 1 hHeld (h:=?_)
  refine tk 4 hHeld (h:=?_)
  refine oN 5 (h:=fun K hK=>?_)
  replace B2:=Aside0.mk (blk_drew B2.out)
  clear q2
  have q2:=cells6 B2.out
  replace B5:=Aside0.mk (blk_drew B5.out)
  clear q5
  have q5:=cells8 B5.out
  replace HB:=Aside0.mk (below_drew1 HB.out)
  replace HR:=Aside0.mk (Kd.R_drew HR.out)
  refine store_step (by rfl) (by rfl) 44 (.tmp 2) (.tmp 36) (by rfl) g2 0 44 _ B2.out (by rfl) _ (by rfl) [.int .i64 1,.int .u8 0,.slice Av 1 cv,.string ⟨#[]⟩,.int .u8 y,.string ⟨#[]⟩] rfl (by kernel_rfl) (by show 0+6≤6;decide) (by simp [Value.oneCell']) #[.int .i64 1,.int .u8 0,.slice Av 1 cv,.string ⟨#[]⟩,.int .u8 y,.string ⟨#[]⟩] rfl ?_
  intro w7 hS hg
  replace B5:=gnx B5 hg B2
  clear q5
  have q5:=cells8 B5.out
  replace HB:=gb HB hg G2
  replace HR:=Aside0.mk (R_grownT HR.out B2.out (by decide) hg)
  clear B2 q2 hg
  have B2:=Aside0.mk hS
  clear hS
  have q2:=cells6 B2.out
  refine hK.out _ _ ⟨q5.2.1,q5.2.2.1,q5.2.2.2.1,q5.2.2.2.2.1,q5.2.2.2.2.2.1,q5.2.2.2.2.2.2.1,q5.2.2.2.2.2.2.2⟩ (fun hHeld=>?_)
  clear hK K
  refine pu 6 (h:=?_)
  refine pu 7 (h:=?_)
  refine done_ (by kernel_rfl) ?_
  clear hHeld
  go_wp2
  refine bodyPost_ret (results_ctt rfl _ _ g2 44 _ (0,0) _ rfl B2.out Tryz.underlying44 rfl (by kernel_rfl)) rfl ?_
  exact ⟨Av,cv,rfl,(Kd.R_reads' HR.out).2.2,HB.out⟩
end Go.Proofs.YthjacokachgmfaaGreatDoor.H
end
