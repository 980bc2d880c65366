import Derived.ProofKit
import Derived.OpenShut
import Derived.ChangeArms
import Derived.DataReads
import Derived.Test.YthjacokachgmfaaGreatDoorCards
import Derived.Test.YthjacokachgmfaaGreatDoorTie
import Derived.WalkKit
import Derived.ShutString
import Derived.ChangeOld
import Derived.Below
import Derived.Deep.DeepHandedRow
import Derived.Lib.LaidTab
import Derived.Test.YthjacokachgmfaaGreatDoorT02
import Derived.Test.YthjacokachgmfaaGreatDoorT27
import Derived.Test.YthjacokachgmfaaGreatDoorT29
import Derived.Test.YthjacokachgmfaaGreatDoorT30
import Derived.Test.YthjacokachgmfaaGreatDoorT41
set_option linter.unusedVariables false
set_option linter.unusedSimpArgs false
section
namespace Go.Proofs.YthjacokachgmfaaGreatDoor.H
open Go Go.RowKit YthjacokachgmfaaGreatDoorW.PrintWords YthjacokachgmfaaGreatDoorW.PrintLast YthjacokachgmfaaGreatDoorW.PrintMore
open YthjacokachgmfaaGreatDoor.R
open Ev
set_option maxRecDepth 100000
theorem ref_fin:∀ i:Fin 32,(mx (i.val:Int) 0) % 32=(i.val:Int)∧(decide (Int.tmod (wrap64 (Int.tdiv (i.val:Int) 4)) 2=1)=hasT (i.val:Int) 4)∧(decide (Int.tmod (wrap64 (Int.tdiv (i.val:Int) 16)) 2=0)=!hasT (i.val:Int) 16):=by decide +kernel
theorem ref_ok (a:Int) (ha:0≤a∧a < 32):(mx a 0) % 32=a∧(decide (Int.tmod (wrap64 (Int.tdiv a 4)) 2=1)=hasT a 4)∧(decide (Int.tmod (wrap64 (Int.tdiv a 16)) 2=0)=!hasT a 16):=by
  have h:=ref_fin ⟨a.toNat,by omega⟩
  rw [show (((⟨a.toNat,by omega⟩:Fin 32).val:Nat):Int)=a from Int.toNat_of_nonneg (by omega)] at h
  exact h
theorem mod_fin:∀ i:Fin 256,((Int.tmod (wrap64 ((mx (i.val:Int) 0) / 1)) 2 == 1)=!(Go.bits .and .i64 (max (i.val:Int) 0) 1 == 0))∧((Go.bits .and .i64 (i.val:Int) 1 != 0)=!(Go.bits .and .i64 (max (i.val:Int) 0) 1 == 0)):=by decide +kernel
theorem mod_ok (a:Int) (ha:0≤a∧a≤255):((Int.tmod (wrap64 ((mx a 0) / 1)) 2 == 1)=!(Go.bits .and .i64 (max a 0) 1 == 0))∧((Go.bits .and .i64 a 1 != 0)=!(Go.bits .and .i64 (max a 0) 1 == 0)):=by
  have h:=mod_fin ⟨a.toNat,by omega⟩
  rw [show (((⟨a.toNat,by omega⟩:Fin 256).val:Nat):Int)=a from Int.toNat_of_nonneg (by omega)] at h
  exact h
set_option maxHeartbeats 40000000 in
theorem reftold_c (fl a0 a1 a2 a3 a4 n fin:Int) (s:ByteArray) (w:World) (h0:0≤fl∧fl < 32) (h1:0≤a1∧a1≤255) (hF:formT a0=(n,fin)) :
    Calls Tryz.prog 12 #[.int .i64 fl,.agg #[.int .i64 a0,.int .i64 a1,.int .i64 a2,.int .i64 a3,.int .i64 a4,.string s]] w fun e w'=>e=.returned (.agg #[.int .i64 a0,.int .i64 a1,.int .i64 a2,.int .i64 (told3 fl fin a1 a3),.int .i64 (told4 fl fin a0 a4),.string (toldS fl a2 s)])∧Below w.heap.size w w':=by
  have HB:=Aside0.mk (Below.refl w.heap.size w)
  have HF:=Aside0.mk hF
  obtain ⟨e1,e2,e3⟩:=ref_ok fl h0
  obtain ⟨e4,_⟩:=mod_ok a1 h1
  have EF:=Aside0.mk (show clavierref08_Flags.f fl=some fl by unfold clavierref08_Flags.f;rw [e1])
  have eH:clavierref10_Has.f a1 1=some (!(Go.bits .and .i64 (max a1 0) 1 == 0)):=by
    unfold clavierref10_Has.f
    rw [if_neg (by decide),e4]
  have e5:hasT fl 4=(Int.tmod (wrap64 (Int.tdiv fl 4)) 2 == 1):=e2.symm
  have e6:hasT fl 16=!(Int.tmod (wrap64 (Int.tdiv fl 16)) 2 == 0):=by
    have h:(Int.tmod (wrap64 (Int.tdiv fl 16)) 2 == 0)=!hasT fl 16:=e3
    rw [h,Bool.not_not]
  clear hF h0 h1 e1 e2 e3 e4
  unfold told3 told4 toldS othT
  rw [e5,e6]
  clear e5 e6
  rcases c4:(Int.tmod (wrap64 (Int.tdiv fl 4)) 2 == 1) with _ | _
  rotate_left
  rcases cf:(fin == 117) with _ | _
  rotate_left
  rcases cm:(Go.bits .and .i64 (max a1 0) 1 == 0) with _ | _
  rcases cb:(a4 == a0) with _ | _
  rotate_left 2
  rcases cb:(a4 == a0) with _ | _
  all_goals rcases c6:(Int.tmod (wrap64 (Int.tdiv fl 16)) 2 == 0) with _ | _
  all_goals rcases cr:(a2 == 3) with _ | _
  all_goals
    simp only [*,Bool.false_and,Bool.and_false,Bool.true_and,Bool.and_true,Bool.not_true,Bool.not_false,Bool.true_or,Bool.or_true,Bool.false_or,Bool.or_false,if_true,if_false,reduceIte,Bool.false_eq_true] at eH ⊢
    have EH:=Aside0.mk eH
    clear eH
    go_enter Tryz.func12,Tryz.ntmps12
    go_wp2_with (first|(refine bx 3 #[.int .i64 a0,.int .i64 a1,.int .i64 a2,.int .i64 a3,.int .i64 a4,.string s] 35 (h:=?_);intro g3 hg w1 hbox hb;have HBo:=HB;replace HB:=bh HB hb;have B3:=Aside0.mk hbox;have q3:=cells6 B3.out;have G3:=gG HBo hg;clear hbox hb hg HBo)|(refine bx 4 #[.int .i64 0,.int .i64 0,.int .i64 0,.int .i64 0,.int .i64 0,.string ⟨#[]⟩] 35 (h:=?_);intro g4 hg w2 hbox hb;have HBo:=HB;have B3o:=blk_lt B3.out;replace B3:=kb B3 hb;clear q3;have q3:=cells6 B3.out;replace HB:=bh HB hb;have B4:=Aside0.mk hbox;have q4:=cells6 B4.out;have NE4:=Aside0.mk (show g4≠g3 by omega);clear B3o;have G4:=gG HBo hg;clear hbox hb hg HBo)|(go_at_call 32;refine (clavierref08_Flags.calls fl fl _ EF.out).mono ?_;rintro e w4 ⟨rfl,hb⟩;replace B3:=kb B3 hb;clear q3;have q3:=cells6 B3.out;replace B4:=kb B4 hb;clear q4;have q4:=cells6 B4.out;replace HB:=bh HB hb;clear hb)|(go_at_call 33;refine (refform_c a0 n fin _ HF.out).mono ?_;rintro e w4 ⟨rfl,hb⟩;replace B3:=kb B3 hb;clear q3;have q3:=cells6 B3.out;replace B4:=kb B4 hb;clear q4;have q4:=cells6 B4.out;replace HB:=bh HB hb;clear hb)|(go_at_call 34;refine (clavierref10_Has.calls a1 1 _ _ EH.out).mono ?_;rintro e w4 ⟨rfl,hb⟩;replace B3:=kb B3 hb;clear q3;have q3:=cells6 B3.out;replace B4:=kb B4 hb;clear q4;have q4:=cells6 B4.out;replace HB:=bh HB hb;clear hb)|((with_reducible refine gate_store (t:=3) rfl ?_);refine sx 3 3 B3 (h:=?_);intro w6 BN hg;replace B4:=gk B4 hg NE4.out;replace HB:=gb HB hg G3;clear B3 q3 q4 hg;have B3:=BN;clear BN;have q3:=cells6 B3.out;have q4:=cells6 B4.out)|((with_reducible refine gate_store (t:=3) rfl ?_);refine sx 3 4 B3 (h:=?_);intro w6 BN hg;replace B4:=gk B4 hg NE4.out;replace HB:=gb HB hg G3;clear B3 q3 q4 hg;have B3:=BN;clear BN;have q3:=cells6 B3.out;have q4:=cells6 B4.out)|((with_reducible refine gate_store (t:=9) rfl ?_);refine sx 9 5 B3 (h:=?_);intro w6 BN hg;replace B4:=gk B4 hg NE4.out;replace HB:=gb HB hg G3;clear B3 q3 q4 hg;have B3:=BN;clear BN;have q3:=cells6 B3.out;have q4:=cells6 B4.out)|((with_reducible refine gate_store (t:=35) rfl ?_);refine sx 35 0 B4 (h:=?_);intro w6 BN hg;replace B3:=gk B3 hg NE4.out.symm;replace HB:=gb HB hg G4;clear B4 q3 q4 hg;have B4:=BN;clear BN;have q3:=cells6 B3.out;have q4:=cells6 B4.out))
    refine bodyPost_ret (results_cell_row rfl _ _ g4 35 _ (0,0) _ rfl B4.out Tryz.underlying35 rfl (by kernel_rfl)) rfl ?_
    exact ⟨rfl,HB.out⟩
end Go.Proofs.YthjacokachgmfaaGreatDoor.H
end
section
namespace Go.Proofs.YthjacokachgmfaaGreatDoor.H
open Go Go.RowKit YthjacokachgmfaaGreatDoorW.PrintWords YthjacokachgmfaaGreatDoorW.PrintLast YthjacokachgmfaaGreatDoorW.PrintMore
open Ev
set_option maxRecDepth 100000
theorem clean_eq {s:ByteArray} (hs:s.size≤1100000):clavierref10_clean.f s=some (cleanB (allC (numsS s)).1 (allC (numsS s)).2):=if_pos hs
theorem may_split (a0 a1 a2 a3 a4:Int) (s:ByteArray):mayB a0 a1 a2 a3 a4 s=((decide (0≤a1∧a1≤255∧1≤a2∧a2≤3)&&((lookE a0).1 != 0))&&(textB a3&&(textB a4&&cleanB (allC (numsS s)).1 (allC (numsS s)).2))):=by
  unfold mayB cleanB
  rw [Bool.eq_iff_iff]
  simp only [Bool.and_eq_true,decide_eq_true_eq]
  constructor
  · rintro ⟨⟨h1,h2⟩,h3,h4,h5,⟨h6,h7,h8,h9⟩,h10⟩
    exact ⟨⟨⟨h6,h7,h8,h9⟩,h10⟩,h4,h5,h1,h3,h2⟩
  · rintro ⟨⟨⟨h6,h7,h8,h9⟩,h10⟩,h4,h5,h1,h3,h2⟩
    exact ⟨⟨h1,h2⟩,h3,h4,h5,⟨h6,h7,h8,h9⟩,h10⟩
theorem dec4 (a1 a2:Int):decide (0≤a1∧a1≤255∧1≤a2∧a2≤3)=(!decide (a1 < 0)&&(!decide (255 < a1)&&(!decide (a2 < 1)&&!decide (3 < a2)))):=by
  rw [Bool.eq_iff_iff]
  simp only [Bool.and_eq_true,Bool.not_eq_true',decide_eq_true_eq,decide_eq_false_iff_not]
  omega
set_option maxHeartbeats 40000000 in
theorem refmay_c (a0 a1 a2 a3 a4:Int) (s:ByteArray) (hs:s.size≤1100000) (w:World):Calls Tryz.prog 11 #[.agg #[.int .i64 a0,.int .i64 a1,.int .i64 a2,.int .i64 a3,.int .i64 a4,.string s]] w fun e w'=>e=.returned (.bool (mayB a0 a1 a2 a3 a4 s))∧Below w.heap.size w w':=by
  have HB:=Aside0.mk (Below.refl w.heap.size w)
  obtain ⟨r1,r2,r3,r4,r5,hL⟩:∃ r1 r2 r3 r4 r5,lookE a0=(r1,r2,r3,r4,r5):=⟨_,_,_,_,_,rfl⟩
  have HL:=Aside0.mk hL
  have hC:=clean_eq hs
  rw [may_split,dec4,hL]
  generalize cleanB (allC (numsS s)).1 (allC (numsS s)).2=cl at *
  have HC:=Aside0.mk hC
  have ef:∀ W:World,(Instr.field 85 (.agg #[.int .i64 r1,.int .u8 r2,.int .i64 r3,.int .i64 r4,.bool r5]) 0).run Tryz.prog W=.ok (.int .i64 r1) W:=fun W=>by kernel_rfl
  clear hL hC
  show Calls _ _ _ _ fun e w'=>e=.returned (.bool (((!decide (a1 < 0)&&(!decide (255 < a1)&&(!decide (a2 < 1)&&!decide (3 < a2))))&&!(r1 == 0))&&((a3 == 0||(lookE a3).1 == 1)&&((a4 == 0||(lookE a4).1 == 1)&&cl))))∧Below w.heap.size w w'
  rcases c0:(r1 == 0) with _ | _
  rcases c1:decide (a1 < 0) with _ | _
  rcases c2:decide (255 < a1) with _ | _
  rcases c3:decide (a2 < 1) with _ | _
  rcases c4:decide (3 < a2) with _ | _
  rcases c5:(a3 == 0) with _ | _
  rcases t3:((lookE a3).1 == 1) with _ | _
  rotate_left 1
  rcases c6:(a4 == 0) with _ | _
  rcases t4:((lookE a4).1 == 1) with _ | _
  rotate_left 3
  rcases c6:(a4 == 0) with _ | _
  rcases t4:((lookE a4).1 == 1) with _ | _
  all_goals
    simp only [*,Bool.false_and,Bool.and_false,Bool.true_and,Bool.and_true,Bool.not_true,Bool.not_false,Bool.true_or,Bool.or_true,Bool.false_or,Bool.or_false]
    go_enter Tryz.func11,Tryz.ntmps11
    go_wp2_with (first|(refine bx 1 #[.int .i64 a0,.int .i64 a1,.int .i64 a2,.int .i64 a3,.int .i64 a4,.string s] 35 (h:=?_);intro g3 hg w1 hbox hb;replace HB:=bh HB hb;have B3:=Aside0.mk hbox;have q3:=cells6 B3.out;clear hbox hb hg)|(go_at_call 29;refine (reflook_c a0 r1 r2 r3 r4 r5 _ HL.out).mono ?_;rintro e w4 ⟨rfl,hb⟩;replace B3:=kb B3 hb;clear q3;have q3:=cells6 B3.out;replace HB:=bh HB hb;clear hb)|(go_at_call 30;refine (reftext_c _ _).mono ?_;rintro e w4 ⟨rfl,hb⟩;replace B3:=kb B3 hb;clear q3;have q3:=cells6 B3.out;replace HB:=bh HB hb;clear hb)|(go_at_call 31;refine (clavierref10_clean.calls s cl _ HC.out).mono ?_;rintro e w4 ⟨rfl,hb⟩;replace B3:=kb B3 hb;clear q3;have q3:=cells6 B3.out;replace HB:=bh HB hb;clear hb))
    go_ret
    exact ⟨rfl,HB.out⟩
end Go.Proofs.YthjacokachgmfaaGreatDoor.H
end
section
namespace Go.Proofs.YthjacokachgmfaaGreatDoor.H
open Go Go.RowKit YthjacokachgmfaaGreatDoorW.PrintWords YthjacokachgmfaaGreatDoorW.PrintLast YthjacokachgmfaaGreatDoorW.PrintMore
open YthjacokachgmfaaGreatDoor.R
theorem w64 {n:Int} (h0:-9223372036854775808≤n) (h1:n≤9223372036854775807):wrap64 n=n:=by unfold wrap64;omega
theorem fins:(ENTS 21).all (fun x=>x.2.1 != 3||(decide (64≤x.2.2.1)&&decide (x.2.2.1≤126)))=true:=by decide +kernel
theorem look_fin {a r1 r2 r3 r4:Int} {r5:Bool} (hL:lookE a=(r1,r2,r3,r4,r5)) (h:r1=3):64≤r2∧r2≤126:=by
  rcases look_cases a with ⟨x,hx,_,hl⟩ | hl
  · have h1:=List.all_eq_true.1 fins x hx
    have h2:x.2=(r1,r2,r3,r4,r5):=hl.symm.trans hL
    rw [show x.2.1=r1 by rw [h2],show x.2.2.1=r2 by rw [h2],h] at h1
    simpa using h1
  · rw [hl] at hL
    unfold restL at hL
    split at hL
    · have:=congrArg Prod.fst hL
      simp at this
      omega
    · have:=congrArg Prod.fst hL
      simp at this
      omega
theorem form_ok (k:Nat) (a:Int):∃ n fin,kitty_Form.f (k+1) a=some (n,fin)∧((lookE a).1≠0→64≤fin∧fin≤126):=by
  obtain ⟨r1,r2,r3,r4,r5,hL⟩:∃ r1 r2 r3 r4 r5,lookE a=(r1,r2,r3,r4,r5):=⟨_,_,_,_,_,rfl⟩
  refine ⟨(formT a).1,(formT a).2,rfl,?_⟩
  intro h0
  rw [hL] at h0
  unfold formT
  rw [hL]
  show 64≤(if (r1 == 0)=true then ((0,0):Int × Int) else if (a == 57366)=true then (13,126) else if (r1 == 3&&!r5)=true then (1,r2) else if (r1 == 4&&!r5)=true then (r3,126) else (a,117)).2∧(if (r1 == 0)=true then ((0,0):Int × Int) else if (a == 57366)=true then (13,126) else if (r1 == 3&&!r5)=true then (1,r2) else if (r1 == 4&&!r5)=true then (r3,126) else (a,117)).2≤126
  rw [if_neg (by simpa using h0)]
  split
  · exact ⟨by show (64:Int)≤126;decide,by show (126:Int)≤126;decide⟩
  split
  · rename_i h3
    exact look_fin hL (by simp only [Bool.and_eq_true,beq_iff_eq] at h3;exact h3.1)
  split
  · exact ⟨by show (64:Int)≤126;decide,by show (126:Int)≤126;decide⟩
  · exact ⟨by show (64:Int)≤117;decide,by show (117:Int)≤126;decide⟩
def flA (x:Int):Int:=Go.bits .or .i64 (x % 32) 11
def flB (x a:Int):Int:=Go.bits .or .i64 (x % 32) a
theorem flA_fin:∀ i:Fin 32,(0≤Go.bits .or .i64 (i.val:Int) 11∧Go.bits .or .i64 (i.val:Int) 11 < 32)∧hasT (Go.bits .or .i64 (i.val:Int) 11) 2=true∧hasT (Go.bits .or .i64 (i.val:Int) 11) 8=true:=by decide +kernel
theorem flB_fin:∀ i j:Fin 32,hasT (j.val:Int) 2=true→hasT (j.val:Int) 8=true→(hasT (Go.bits .or .i64 (i.val:Int) (j.val:Int)) 2=true∧hasT (Go.bits .or .i64 (i.val:Int) (j.val:Int)) 8=true∧(hasT (j.val:Int) 4=true→hasT (Go.bits .or .i64 (i.val:Int) (j.val:Int)) 4=true)∧(hasT (j.val:Int) 16=true→hasT (Go.bits .or .i64 (i.val:Int) (j.val:Int)) 16=true)):=by decide +kernel
theorem flA_ok (x:Int):(0≤flA x∧flA x < 32)∧hasT (flA x) 2=true∧hasT (flA x) 8=true:=by
  have h:=flA_fin ⟨(x % 32).toNat,by omega⟩
  rw [show (((⟨(x % 32).toNat,by omega⟩:Fin 32).val:Nat):Int)=x % 32 from Int.toNat_of_nonneg (by omega)] at h
  exact h
theorem flB_ok (x a:Int) (ha:0≤a∧a < 32) (h2:hasT a 2=true) (h8:hasT a 8=true):hasT (flB x a) 2=true∧hasT (flB x a) 8=true∧(hasT a 4=true→hasT (flB x a) 4=true)∧(hasT a 16=true→hasT (flB x a) 16=true):=by
  have h:=flB_fin ⟨(x % 32).toNat,by omega⟩ ⟨a.toNat,by omega⟩
  rw [show (((⟨(x % 32).toNat,by omega⟩:Fin 32).val:Nat):Int)=x % 32 from Int.toNat_of_nonneg (by omega),show (((⟨a.toNat,by omega⟩:Fin 32).val:Nat):Int)=a from Int.toNat_of_nonneg (by omega)] at h
  exact h h2 h8
section
variable {fa fb fin:Int}
theorem oth_le (h4:hasT fa 4=true→hasT fb 4=true):othT fa fin=true→othT fb fin=true:=by
  unfold othT
  cases h:hasT fa 4
  · intro h1;simp at h1
  · rw [h4 h];exact id
theorem told3_told (h4:hasT fa 4=true→hasT fb 4=true) (a1 a3:Int):told3 fb fin a1 (told3 fa fin a1 a3)=told3 fa fin a1 a3:=by
  have h:=oth_le (fin:=fin) h4
  unfold told3
  cases ha:othT fa fin
  · simp
  · rw [h ha]
    cases (Go.bits .and .i64 (max a1 0) 1 == 0)<;>simp
theorem told4_told (h4:hasT fa 4=true→hasT fb 4=true) (a0 a4:Int):told4 fb fin a0 (told4 fa fin a0 a4)=told4 fa fin a0 a4:=by
  have h:=oth_le (fin:=fin) h4
  unfold told4
  cases ha:othT fa fin
  · simp
  · rw [h ha]
    by_cases q:a4=a0
    · simp [q]
    · simp [q]
theorem toldS_told (h16:hasT fa 16=true→hasT fb 16=true) (a2:Int) (s:ByteArray):toldS fb a2 (toldS fa a2 s)=toldS fa a2 s:=by
  unfold toldS
  cases ha:hasT fa 16
  · simp
  · rw [h16 ha]
    by_cases q:a2=3
    · simp [q]
    · simp [q]
theorem texts_told (h16:hasT fa 16=true→hasT fb 16=true) (a2:Int) (s:ByteArray):textsT a2 (toldS fa a2 s) fb=textsT a2 s fa:=by
  unfold textsT toldS
  cases ha:hasT fa 16
  · rw [show (if (!false||(a2 == 3))=true then (⟨#[]⟩:ByteArray) else s)=⟨#[]⟩ from rfl,if_pos (.inr (.inr rfl)),if_pos (.inl rfl)]
  · rw [h16 ha]
    by_cases q:a2=3
    · simp [q]
    · simp [q]
theorem texts_len {a0 a1 a2 a3 a4 fl:Int} {s:ByteArray} (hm:mayB a0 a1 a2 a3 a4 s=true):(textsT a2 s fl).length≤100000:=by
  unfold mayB at hm
  simp only [Bool.and_eq_true,decide_eq_true_eq] at hm
  unfold textsT
  split
  · simp
  · have:=hm.2.1
    omega
theorem may_told {a0 a1 a2 a3 a4:Int} {s:ByteArray} (hm:mayB a0 a1 a2 a3 a4 s=true):mayB a0 a1 a2 (told3 fa fin a1 a3) (told4 fa fin a0 a4) (toldS fa a2 s)=true:=by
  unfold mayB at hm ⊢
  simp only [Bool.and_eq_true,decide_eq_true_eq] at hm ⊢
  obtain ⟨⟨m1,m2⟩,m3,m4,m5,m6,m7⟩:=hm
  have hS:toldS fa a2 s=⟨#[]⟩∨toldS fa a2 s=s:=by unfold toldS;split<;>simp
  have h3:textB (told3 fa fin a1 a3)=true:=by
    unfold told3;split
    · rfl
    · exact m4
  have h4':textB (told4 fa fin a0 a4)=true:=by
    unfold told4;split
    · rfl
    · exact m5
  rcases hS with e | e
  · rw [e]
    exact ⟨⟨by decide,by decide⟩,by decide,h3,h4',m6,m7⟩
  · rw [e]
    exact ⟨⟨m1,m2⟩,m3,h3,h4',m6,m7⟩
theorem code_told (h4:hasT fa 4=true→hasT fb 4=true) (k:Nat) (a0 a1 a2 a3 a4 kd n:Int) (s ts:ByteArray) (h1:0≤a1∧a1≤255) :
    ∃ L,kitty_event_code.f (k+4) a0 a1 a2 a3 a4 s fa kd n fin=some L∧kitty_event_code.f (k+4) a0 a1 a2 (told3 fa fin a1 a3) (told4 fa fin a0 a4) ts fb kd n fin=some L∧L.length≤100000:=by
  obtain ⟨_,e⟩:=mod_ok a1 h1
  unfold kitty_event_code.f told3 told4 othT
  rw [show (Go.bits .and .i64 (mx fa 0) 4 != 0)=hasT fa 4 from rfl,show (Go.bits .and .i64 (mx fb 0) 4 != 0)=hasT fb 4 from rfl,e,show (fin != 117)=!(fin == 117) from rfl]
  cases hf:(fin == 117)<;>cases ha:hasT fa 4<;>cases hb:hasT fb 4<;>cases hs:(Go.bits .and .i64 (max a1 0) 1 == 0)<;>by_cases q3:a3=0<;>by_cases q4:a4=0<;>by_cases q5:a4=a0 <;>
    simp_all
theorem how_told (k:Nat) (a0 a1 a2 a3 a4 t3 t4 kd:Int) (s ts:ByteArray) (h2:hasT fa 2=true) (h2':hasT fb 2=true) :
    ∃ L,kitty_event_how.f (k+1) a0 a1 a2 a3 a4 s fa kd=some L∧kitty_event_how.f (k+1) a0 a1 a2 t3 t4 ts fb kd=some L∧L.length≤100000:=by
  obtain ⟨p,hp⟩:∃ p,mods_Param.f a1=some p:=by
    unfold mods_Param.f
    split
    · exact ⟨_,rfl⟩
    · split<;>exact ⟨_,rfl⟩
  unfold kitty_event_how.f
  rw [hp,show (Go.bits .and .i64 (mx fa 0) 2 != 0)=hasT fa 2 from rfl,show (Go.bits .and .i64 (mx fb 0) 2 != 0)=hasT fb 2 from rfl,h2,h2']
  cases hq:(a2 != 1)<;>cases q:(a1 != 0)<;>simp
end
end Go.Proofs.YthjacokachgmfaaGreatDoor.H
end
section
namespace Go.Proofs.YthjacokachgmfaaGreatDoor.H
open Go Go.RowKit YthjacokachgmfaaGreatDoorW.PrintWords YthjacokachgmfaaGreatDoorW.PrintLast YthjacokachgmfaaGreatDoorW.PrintMore
open YthjacokachgmfaaGreatDoor.R
def keyStr (ps:List (List Int)) (fin:Int):ByteArray:=if listedT ps then strOfNums (nat8 (csiT 0 ps [] fin)) else strOfNums []
theorem keyR_str {w w':World} {v:Value} {ps:List (List Int)} {fin:Int} (h:KeyR w w' v ps fin):∀ W,Below w'.heap.size w' W→(convert 22 9 v).run Tryz.prog W=.ok (.string (keyStr ps fin)) W:=by
  intro W hb
  unfold KeyR at h
  unfold keyStr
  by_cases hl:listedT ps
  · rw [if_pos hl] at h ⊢
    have h2:=Kd.R_below h hb
    obtain ⟨A,c,rfl⟩:=Kd.R_slice h2
    exact textC h2
  · rw [if_neg hl] at h ⊢
    subst h
    exact textC (A:=none) (c:=0) (l:=[]) (base:=0) (P:=fun _=>True) (Kd.R_nil _ _ _ _ _)
theorem u8_wf {n:Int} (h:(Lit.int .u8 n).wf=true):0≤n∧n≤255:=by
  simp [Lit.wf,IntKind.min,IntKind.max,IntKind.signed,IntKind.bits] at h
  omega
theorem flA_eq {x:Int} (hx:0≤x∧x≤255):Go.bits .or .i64 (wrap64 (x.tmod 32)) 11=flA x:=by
  unfold flA
  rw [Int.tmod_eq_emod_of_nonneg hx.1,w64 (by omega) (by omega)]
theorem flB_eq {x a:Int} (hx:0≤x∧x≤255):Go.bits .or .i64 (wrap64 (x.tmod 32)) a=flB x a:=by
  unfold flB
  rw [Int.tmod_eq_emod_of_nonneg hx.1,w64 (by omega) (by omega)]
theorem top_calls (x0 x1 a0 a1 a2 a3 a4:Int) (s:ByteArray) (gx0:(Lit.int .u8 x0).wf=true) (gx1:(Lit.int .u8 x1).wf=true) (hs:s.size≤1048576) (w:World) (hp:Pow w) :
    Calls Tryz.prog 4 #[.agg #[.int .u8 x0,.int .u8 x1],.agg #[.int .i64 a0,.int .i64 a1,.int .i64 a2,.int .i64 a3,.int .i64 a4,.string s]] w fun e w'=>e=.returned (.bool true)∧Below w.heap.size w w':=by
  have hx0:=u8_wf gx0
  have hx1:=u8_wf gx1
  have hs':s.size≤1100000:=by omega
  have hmay:=refmay_c a0 a1 a2 a3 a4 s hs'
  cases hm:mayB a0 a1 a2 a3 a4 s
  · rw [hm] at hmay
    exact top_no x0 x1 a0 a1 a2 a3 a4 s w hp hmay
  rw [hm] at hmay
  have hq:=hm
  rw [may_split] at hq
  simp only [Bool.and_eq_true,decide_eq_true_eq,bne_iff_ne] at hq
  obtain ⟨⟨⟨q1,q2,q3,q4⟩,hk⟩,_⟩:=hq
  obtain ⟨n,fin,hF0,hfin⟩:=form_ok 10 a0
  have hF:kitty_Form.f 11 a0=some (n,fin):=hF0
  obtain ⟨hA0,hA2,hA8⟩:=flA_ok x0
  obtain ⟨hB2,hB8,hB4,hB16⟩:=flB_ok x1 (flA x0) hA0 hA2 hA8
  have hpl:Plain 1 0 fin [] []:=⟨.inl ⟨rfl,rfl⟩,.inl rfl,hfin hk,⟨by decide,by simp⟩,by simp⟩
  obtain ⟨kd,r2,r3,r4,r5,hL⟩:∃ kd r2 r3 r4 r5,keys_Look.f a0=some (kd,r2,r3,r4,r5):=⟨_,_,_,_,_,rfl⟩
  have hfa:=flA_eq hx0
  have hfb:=flB_eq (a:=flA x0) hx1
  generalize flB x1 (flA x0)=fb at *
  generalize flA x0=fa at *
  have hm2:mayB a0 a1 a2 (told3 fa fin a1 a3) (told4 fa fin a0 a4) (toldS fa a2 s)=true:=may_told hm
  have hs2:(toldS fa a2 s).size≤1100000:=by
    unfold toldS
    split
    · exact Nat.zero_le _
    · exact hs'
  have hx:=texts_told hB16 a2 s
  obtain ⟨L1,hC1,hC2,l1⟩:=code_told (fin:=fin) hB4 0 a0 a1 a2 a3 a4 kd n s (toldS fa a2 s) ⟨q1,q2⟩
  obtain ⟨L2,hH1,hH2,l2⟩:=how_told 0 a0 a1 a2 a3 a4 (told3 fa fin a1 a3) (told4 fa fin a0 a4) kd s (toldS fa a2 s) hA2 hB2
  have l3:=texts_len (fl:=fa) hm
  refine top_yes x0 x1 fa fb a0 a1 a2 a3 a4 (told3 fa fin a1 a3) (told4 fa fin a0 a4) s (toldS fa a2 s) (keyStr (keyPs [L1,L2,textsT a2 s fa]) fin) w hp hfa hfb hmay
    (fun W=>reftold_c fa a0 a1 a2 a3 a4 n fin s W hA0 ⟨q1,q2⟩ (Option.some.inj hF)) ?_ ?_ ?_
  · intro W hW
    refine (key_calls 11 4 1 a0 a1 a2 a3 a4 s fa kd r2 r3 r4 n fin r5 L1 L2 W (hp.below hW) hs' hL hm hA2 hA8 hF hC1 hH1 hpl l1 l2 l3).mono ?_
    rintro e w' ⟨v,he,hv,hb⟩
    exact ⟨v,he,keyR_str hv,hb⟩
  · intro W hW
    refine (key_calls 11 4 1 a0 a1 a2 (told3 fa fin a1 a3) (told4 fa fin a0 a4) (toldS fa a2 s) fb kd r2 r3 r4 n fin r5 L1 L2 W (hp.below hW) hs2 hL hm2 hB2 hB8 hF hC2 hH2 hpl l1 l2 (by rw [hx];exact l3)).mono ?_
    rintro e w' ⟨v,he,hv,hb⟩
    rw [hx] at hv
    exact ⟨v,he,keyR_str hv,hb⟩
  · intro W
    have h:=told_calls 11 fb a0 a1 a2 (told3 fa fin a1 a3) (told4 fa fin a0 a4) n fin (toldS fa a2 s) W hF
    rw [told3_told hB4,told4_told hB4,toldS_told hB16] at h
    exact h
end Go.Proofs.YthjacokachgmfaaGreatDoor.H
end
section
namespace Go.Proofs.YthjacokachgmfaaGreatDoor.H
open Go.RowKit YthjacokachgmfaaGreatDoorW.PrintWords
def Opens {α:Type} (P:Program) (t:TypeId) (d:Kd α) (good:α→Prop):Prop :=
  ∀ (H:Type) (enc:TypeId × Value→H) (w:World) (sp:Nat→Bool) (held:Bool) (fuel:Nat) (cs:List Value) (x:DataW H × List MemPlace),DataW.trod enc P w 0 sp held fuel t cs=some x→∃ a:α,d.K w a cs∧good a
section
variable {P:Program} {t e:TypeId}
theorem opens_int {k:IntKind} (ht:P.underlying t=some (.int k)):Opens P t (Kd.int k) (fun n=>(Lit.int k n).wf=true):=by
  intro H enc w sp held fuel cs x h
  obtain ⟨n,rfl,_,hw⟩:=DataW.trod_int ht h
  exact ⟨n,rfl,hw⟩
theorem opens_string (ht:P.underlying t=some .string):Opens P t Kd.string (fun s=>s.size≤maxLen):=by
  intro H enc w sp held fuel cs x h
  obtain ⟨n,rfl,_,hw⟩:=DataW.trod_string ht h
  exact ⟨n,rfl,hw⟩
def OpensF {α:Type} (P:Program) (o n:Nat) (fs:List Field) (d:Kd α) (good:α→Prop):Prop :=
  ∀ (H:Type) (enc:TypeId × Value→H) (w:World) (sp:Nat→Bool) (held:Bool) (fuel:Nat) (cs:List Value) (xs:List (DataW H × List MemPlace)),cs.length=n →
    (∀ (i:Nat) (f:Field),fs[i]?=some f→DataW.trod enc P w 0 sp held fuel f.type ((cs.drop f.offset).take (P.cellsOf f.type))=xs[i]?)→fs.length=xs.length→∃ a:α,d.K w a (cs.drop o)∧good a
theorem opensF_last {α:Type} {d:Kd α} {good:α→Prop} {f:Field} {o n:Nat} (h1:Opens P f.type d good) (hs:P.cellsOf f.type=d.sz) (ho:f.offset=o) (hn:n=o+d.sz):OpensF P o n [f] d good:=by
  intro H enc w sp held fuel cs xs hc h hl
  have h0:=h 0 f rfl
  rw [List.getElem?_eq_getElem (show 0 < xs.length by simp at hl;omega),ho,hs] at h0
  have e:(cs.drop o).take d.sz=cs.drop o:=List.take_of_length_le (by rw [List.length_drop];omega)
  rw [e] at h0
  exact h1 H enc w sp held fuel _ _ h0
theorem opensF_cons {α β:Type} {d:Kd α} {d':Kd β} {good:α→Prop} {good':β→Prop} {f:Field} {fs:List Field} {o n:Nat} (h1:Opens P f.type d good) (hs:P.cellsOf f.type=d.sz) (ho:f.offset=o) (hn:OpensF P (o+d.sz) n fs d' good') :
    OpensF P o n (f :: fs) (Kd.pair d d') (fun p=>good p.1∧good' p.2):=by
  intro H enc w sp held fuel cs xs hc h hl
  have h0:=h 0 f rfl
  rw [List.getElem?_eq_getElem (show 0 < xs.length by simp at hl;omega),ho,hs] at h0
  obtain ⟨a,hK,hg⟩:=h1 H enc w sp held fuel _ _ h0
  obtain ⟨b,hK',hg'⟩:=hn H enc w sp held fuel cs xs.tail hc (fun i f' hf=>by
    have:=h (i+1) f' (by simpa using hf)
    rw [this]
    cases xs<;>simp) (by cases xs<;>simp at hl ⊢;omega)
  refine ⟨(a,b),⟨_,_,?_,hK,hK'⟩,hg,hg'⟩
  rw [← List.drop_drop]
  exact (List.take_append_drop _ _).symm
theorem opens_struct {α:Type} {d:Kd α} {good:α→Prop} {fs:Array Field} {n:Nat} (ht:P.underlying t=some (.struct fs)) (hn:P.cellsOf t=n) {l:List Field} (hl:fs.toList=l) (h:OpensF P 0 n l d good):Opens P t d good:=by
  intro H enc w sp held fuel cs x hx
  obtain ⟨xs,m,_,_,hc,hlen,hf⟩:=DataW.trod_struct ht hx
  have:=h H enc w sp held m cs xs (hc.trans hn) (fun i f hi=>hf i f (by rw [← hl] at hi;simpa using hi)) (by rw [← hl];simpa using hlen.symm)
  simpa using this
theorem opens_array2 {α:Type} {d:Kd α} {good:α→Prop} (ht:P.underlying t=some (.array 2 e)) (hs:P.cellsOf e=d.sz) (hn:P.cellsOf t=d.sz+d.sz) (h1:Opens P e d good):Opens P t (Kd.pair d d) (fun p=>good p.1∧good p.2):=by
  intro H enc w sp held fuel cs x hx
  obtain ⟨xs,m,_,_,hc,hlen,hf⟩:=DataW.trod_array ht hx
  have h0:=hf 0 (by omega)
  have h2:=hf 1 (by omega)
  rw [List.getElem?_eq_getElem (by omega),hs] at h0 h2
  simp only [Nat.zero_mul,List.drop_zero,Nat.one_mul] at h0 h2
  have e2:(cs.drop d.sz).take d.sz=cs.drop d.sz:=List.take_of_length_le (by rw [List.length_drop];omega)
  rw [e2] at h2
  obtain ⟨a,ha,ga⟩:=h1 H enc w sp held m _ _ h0
  obtain ⟨b,hb,gb⟩:=h1 H enc w sp held m _ _ h2
  exact ⟨(a,b),⟨_,_,(List.take_append_drop _ _).symm,ha,hb⟩,ga,gb⟩
end
theorem okWide_array {P:Program} {w:World} {r:Reach} {base n:Nat} {t e:TypeId} {v:Value} (ht:P.underlying t=some (.array n e)) (h:Value.okWide P w r base t v):∃ cs,v=.agg cs∧cs.size=P.cellsOf t:=by
  simp only [Value.okWide,ht] at h
  obtain ⟨cs,h1,h2,_⟩:=h
  exact ⟨cs,h1,h2⟩
theorem opens_arg {α:Type} {P:Program} {t:TypeId} {d:Kd α} {good:α→Prop} (h:Opens P t d good) {H:Type} {enc:TypeId × Value→H} {w:World} {sp:Nat→Bool} {held:Bool} {v:Value} {x:DataW H} {p:List MemPlace} (hT:DataW.Trod enc P w 0 sp held t v x p):∃ a:α,d.K w a v.cells.toList∧good a:=by
  obtain ⟨fuel,hf⟩:=hT
  exact h H enc w sp held fuel _ _ hf
end Go.Proofs.YthjacokachgmfaaGreatDoor.H
end
section
namespace Go.Proofs.YthjacokachgmfaaGreatDoor.topForms
open Go.ChangeShapes Go.WideShapes Go.ChangeAt Go.RowKit YthjacokachgmfaaGreatDoorW.PrintWords YthjacokachgmfaaGreatDoor.R YthjacokachgmfaaGreatDoor.H
open Go.ChangeMaps (open_string shut_string)
theorem own:ownKnob Tryz.prog.godebug=none:=by kernel_rfl
theorem laidOut:laidOutB Tryz.prog=true:=by kernel_rfl
theorem tab_third {P:Program} {W:World} {n1 n2 name:String} {d1 d2:DataW Unit} {k:IntKind} {zs:List Int} {rest:List (String × DataW Unit)} {g:Nat} {t e:TypeId} {n:Nat}
    (hg:P.globalNamed name=some g) (hty:(P.globals[g]?).map (·.type)=some t) (ht:P.underlying t=some (.array n e)) (he:P.underlying e=some (.int k)) (hce:P.cellsOf e=1) (hct:P.cellsOf t=n)
    (h:laidMet P ((n1,d1) :: (n2,d2) :: (name,Lib.tabData k zs) :: rest) W):Lib.TabIs P W name k zs:=by
  obtain ⟨_,⟨_,_,_,_,_,_,_,_,_,_,⟨_,_,_,_,_,_,_,_,_,_,⟨g',t',cs,fuel,p,q,hg',ht',hvar,hd,_,_⟩,_⟩,_⟩,_⟩:=h
  obtain rfl:=Option.some.inj (hg.symm.trans hg')
  obtain rfl:=Option.some.inj (hty.symm.trans ht')
  unfold Lib.TabIs
  rw [hvar,← Lib.cells_of_tab ht he hce hct hd]
theorem gPow : Tryz.prog.globalNamed "internal/strconv.uint64pow10" = some 3 := by kernel_rfl
theorem gPowT:(Tryz.prog.globals[3]?).map (·.type)=some 339:=by kernel_rfl
theorem cellsA:Tryz.prog.cellsOf 339=20:=by kernel_rfl
theorem cellsE:Tryz.prog.cellsOf 332=1:=by kernel_rfl
theorem pow_laid {W:World} (h:laidMetH Tryz.prog Rows.topFormsUptoRow.laid W):Pow W :=
  tab_third gPow gPowT Tryz.underlying339 Tryz.underlying332 cellsE cellsA h
theorem part_le {H:Type} {d:DataW H} {l:List (DataW H)} (h:d∈l):Rows.uptoBulk d≤Rows.uptoBulkAll l:=by
  induction l with
  | nil=>cases h
  | cons x r ih =>
    simp only [Rows.uptoBulkAll]
    cases List.mem_cons.1 h with
    | inl e=>subst e;omega
    | inr e=>have:=ih e;omega
set_option maxRecDepth 100000 in
theorem bulk_text {H:Type} {enc:TypeId × Value→H} {W:World} {sp:Nat→Bool} {held:Bool} {a0 a1 a2 a3 a4:Int} {s:ByteArray} {d:DataW H} {ps:List MemPlace}
    (h:DataW.Trod enc Tryz.prog W 0 sp held 35 (.agg #[.int .i64 a0,.int .i64 a1,.int .i64 a2,.int .i64 a3,.int .i64 a4,.string s]) d ps):s.size≤Rows.uptoBulk d:=by
  obtain ⟨fuel,hf⟩:=h
  obtain ⟨xs,n,_,hx,_,hlen,hfs⟩:=DataW.trod_struct Tryz.underlying35 hf
  have h5:=hfs 5 _ rfl
  have e:xs.length=6:=hlen
  rw [List.getElem?_eq_getElem (show 5 < xs.length by omega)] at h5
  have hc:Tryz.prog.cellsOf 9=1:=by kernel_rfl
  obtain ⟨s',hs,hx5,_⟩:=DataW.trod_string Tryz.underlying9 h5
  have hs':[Value.string s]=[Value.string s']:=by
    rw [← hs]
    show _=(List.drop 5 [Value.int .i64 a0,.int .i64 a1,.int .i64 a2,.int .i64 a3,.int .i64 a4,.string s]).take (Tryz.prog.cellsOf 9)
    rw [hc]
    rfl
  obtain rfl:s=s':=by injection hs' with h1;injection h1
  have hd:d=.agg (xs.map (·.1)):=(Prod.mk.inj hx).1
  rw [hd]
  have hm:(DataW.lit (.string s.data.toList):DataW H)∈xs.map (·.1):=List.mem_map.2 ⟨xs[5],List.getElem_mem _,by rw [hx5]⟩
  have:=part_le hm
  simp only [Rows.uptoBulk] at this ⊢
  rw [Array.length_toList] at this
  have e2:s.data.size=s.size:=rfl
  omega
def lit1:DataW Unit→Value
  | .lit (.int k z)=>.int k z
  | _=>undef
def row1:DataW Unit→List Value
  | .agg l=>l.map lit1
  | _=>[]
def row2:DataW Unit→List Value
  | .agg l=>l.flatMap row1
  | _=>[]
def lay (g:Nat) (cs:List Value) (h:Array Obj):Array Obj:=h.modify g fun
  | .cells _ t f=>.cells cs.toArray t f
  | o=>o
noncomputable def laidWorld (os:Os):World :=
  { World.holding Tryz.prog os ⟨#[],#[],[]⟩ with heap:=lay 5 (row1 Rows.laid_math_bits_deBruijn64tab) (lay 4 (row1 Rows.laid_math_bits_deBruijn32tab) (lay 3 (row1 Rows.laid_internal_strconv_uint64pow10) (lay 1 (row2 Rows.laid_unicode_utf8_acceptRanges) (lay 0 (row1 Rows.laid_unicode_utf8_first) (World.holding Tryz.prog os ⟨#[],#[],[]⟩).heap)))) }
abbrev ZARGS:Array Value:=#[.agg #[.int .u8 0,.int .u8 0],.agg #[.int .i64 0,.int .i64 0,.int .i64 0,.int .i64 0,.int .i64 0,.string ByteArray.empty]]
set_option maxRecDepth 100000 in
theorem laid_met (os:Os):laidMet Tryz.prog Rows.topFormsUptoRow.laid ((laidWorld os).forCall (fun _ _=>0) ⟨#[],ZARGS,[]⟩).memory :=
  laidMet_of_run' 8 (by kernel_rfl) (by kernel_rfl)
theorem reads (os:Os) {H:Type} (enc:TypeId × Value→H):∃ places,DataW.whole enc Tryz.prog ((laidWorld os).forCall (fun _ _=>0) ⟨#[],ZARGS,[]⟩).memory Tryz.f4.params.toList Rows.topFormsSpec.vars false ZARGS.toList 8=some ([.agg [.lit (.int .u8 0),.lit (.int .u8 0)],.agg [.lit (.int .i64 0),.lit (.int .i64 0),.lit (.int .i64 0),.lit (.int .i64 0),.lit (.int .i64 0),.lit (.string [])]],[],places) :=
  ⟨[],by kernel_rfl⟩
set_option maxRecDepth 100000 in
set_option maxHeartbeats 1000000 in
theorem lifted (os:Os) (started:os.Started) (H:Type) (enc:TypeId × Value→H) (F:Stop.Interp) :
    ReturnsInHanded {} Tryz.checked os 4 .any ((Rows.OpenSpec.upto Rows.topFormsSpec).preRow enc Tryz.prog Tryz.f4 Rows.topFormsUptoRow.domain false Rows.topFormsUptoRow.laid) (((Rows.OpenSpec.upto Rows.topFormsSpec).at F).post enc Tryz.prog Tryz.f4 false true false false):=by
  obtain ⟨places,hx⟩:=reads os enc
  refine returnsInHanded_of_row (C:=Tryz.checked) (s:=Rows.OpenSpec.upto Rows.topFormsSpec) own started (by kernel_rfl) Tryz.func4
    (witness_row_at (enc:=enc) (C:=Tryz.checked) false (laidWorld os) ZARGS rfl (by kernel_rfl) (by kernel_rfl) (by kernel_rfl)
      (OpenSpec.preRow_of_cond 8 hx (by kernel_rfl) (fun k hk=>by cases hk;kernel_rfl) (by kernel_rfl) (laid_met os))) ?_
  intro W base args ds gs before hval0 hW _ hcond _ hL _ _
  have hsmall:=hcond _ rfl
  have hval:∀ (j:Nat) t v,Tryz.f4.params[j]?=some t→args[j]?=some v→Value.okWide Tryz.prog W .any base t v:=hval0
  have hW':=hW
  obtain ⟨p,q,hA0,hV,rfl,hfz,hnd⟩:=hW
  have hA:DataW.TrodAll enc Tryz.prog W 0 (fun _=>true) true Tryz.f4.params.toList args.toList ds p:=hA0
  rw [Tryz.params4] at hA hval
  obtain ⟨v0,vs0,d0,ds0,p0,q0,hargs,rfl,rfl,h0,r0⟩:=trodAll_cons hA
  obtain ⟨v1,vs1,d1,ds1,p1,q1,rfl,rfl,rfl,h1,r1⟩:=trodAll_cons r0
  obtain ⟨rfl,rfl,rfl⟩:=trodAll_nil r1
  obtain rfl:args=#[v0,v1]:=by cases args;simp_all
  obtain ⟨rfl,rfl⟩:=trodVars_none hV
  have k0:=h0
  have lt0:∀ x∈p0,x.block < W.heap.size:=by obtain ⟨m,hm⟩:=k0;exact DataW.trod_lt m _ _ _ hm
  have k1:=h1
  have lt1:∀ x∈p1,x.block < W.heap.size:=by obtain ⟨m,hm⟩:=k1;exact DataW.trod_lt m _ _ _ hm
  obtain ⟨cs0,rfl,_⟩:=okWide_array Tryz.underlying49 (hval 0 49 v0 rfl rfl)
  obtain ⟨⟨x0,x1⟩,hK0,hg0⟩:=opens_arg (opens_array2 Tryz.underlying49 (by kernel_rfl) (by kernel_rfl) (opens_int Tryz.underlying5)) h0
  obtain ⟨_,_,hcs0,rfl,rfl⟩:=hK0
  obtain ⟨g0_0,g0_1⟩:=hg0
  obtain rfl:cs0=#[.int .u8 x0,.int .u8 x1]:=by
    have e:=congrArg List.toArray hcs0
    simpa [Value.cells] using e
  obtain ⟨cs1,rfl,_⟩:=okWide_struct Tryz.underlying35 (hval 1 35 v1 rfl rfl)
  obtain ⟨⟨a0,a1,a2,a3,a4,s⟩,hK1,hg1⟩:=opens_arg (opens_struct Tryz.underlying35 (by kernel_rfl) rfl (opensF_cons (opens_int Tryz.underlying3) (by kernel_rfl) rfl (opensF_cons (opens_int Tryz.underlying3) (by kernel_rfl) rfl (opensF_cons (opens_int Tryz.underlying3) (by kernel_rfl) rfl (opensF_cons (opens_int Tryz.underlying3) (by kernel_rfl) rfl (opensF_cons (opens_int Tryz.underlying3) (by kernel_rfl) rfl (opensF_last (opens_string Tryz.underlying9) (by kernel_rfl) rfl rfl))))))) h1
  obtain ⟨_,_,hcs1,rfl,⟨_,_,rfl,rfl,⟨_,_,rfl,rfl,⟨_,_,rfl,rfl,⟨_,_,rfl,rfl,rfl⟩⟩⟩⟩⟩:=hK1
  obtain ⟨g1_0,g1_1,g1_2,g1_3,g1_4,g1_5⟩:=hg1
  obtain rfl:cs1=#[.int .i64 a0,.int .i64 a1,.int .i64 a2,.int .i64 a3,.int .i64 a4,.string s]:=by
    have e:=congrArg List.toArray hcs1
    simpa [Value.cells] using e
  clear hA0 hval0
  have u0:s.size≤1048576:=by
    have h1:=bulk_text k1
    have h2:=of_decide_eq_true hsmall
    simp only [Rows.uptoBulkAll,List.append_nil] at h2
    omega
  refine (top_calls x0 x1 a0 a1 a2 a3 a4 s g0_0 g0_1 u0 W (pow_laid hL)).mono fun e W' ⟨he,bel0⟩=>?_
  have bel:Below W.heap.size W W':=bel0
  subst he
  exact ⟨_,rfl,_,_,_,[],_,[],hW',trodAll_mk1 (shut_bool Tryz.underlying4 _),(trodAll_cons_mk (Below.trod laidOut (by kernel_rfl) (of_decide_eq_true (by kernel_rfl)) k0 bel lt0) (trodAll_cons_mk (Below.trod laidOut (by kernel_rfl) (of_decide_eq_true (by kernel_rfl)) k1 bel lt1) trodAll_mk0)),rfl,bel.frame _,fun h=>by cases h⟩
end Go.Proofs.YthjacokachgmfaaGreatDoor.topForms
end
