import Derived.BigRegion
import Derived.Outline
import Derived.Laws.StructEq
import Derived.Test.YthjacokachgmfaaGreatDoorT01
import Derived.Test.YthjacokachgmfaaGreatDoorT02
import Derived.Test.YthjacokachgmfaaGreatDoorT03
import Derived.Test.YthjacokachgmfaaGreatDoorT08
set_option linter.unusedVariables false
set_option linter.unusedSimpArgs false
section
namespace Go.Proofs.YthjacokachgmfaaGreatDoor.H
open Go.RowKit YthjacokachgmfaaGreatDoorW.PrintWords YthjacokachgmfaaGreatDoorW.PrintLast YthjacokachgmfaaGreatDoorW.PrintMore
theorem two_new (w:World) (a b:Obj):((w.alloc a).alloc b).heap[w.heap.size+1]?=some b:=by
  have e:(w.alloc a).heap.size=w.heap.size+1:=Array.size_push _
  rw [← e]
  exact Array.getElem?_push_size
set_option maxHeartbeats 2000000 in
theorem uput_none (r:Int) (w:World) (hr:isB r=false) :
    Calls Tryz.prog 72 #[.int .i64 r] w fun e w'=>e=.returned (.slice none 0 0)∧Below w.heap.size w w':=by
  have HB:=Aside0.mk (Below.refl w.heap.size w)
  have HR:=Aside0.mk hr
  clear hr
  go_enter Tryz.func72,Tryz.ntmps72
  go_wp2_with (go_at_call 122;(with_reducible refine (is_c _ _).mono ?_);rintro e w1 ⟨rfl,hb⟩;rw [HR.out];clear HB;have HB:=Aside0.mk hb;clear hb)
  go_ret
  exact ⟨rfl,HB.out⟩
def cb (r:Int):Int:=Go.bits .or .u8 128 (IntKind.u8.wrap (Go.bits .and .i64 r 63))
theorem mk1 (W:World):(Instr.makeSlice 22 (.int .i64 1) (.int .i64 1)).run Tryz.prog W=.ok (.slice (some ⟨W.heap.size,0,none⟩) 1 1) (W.alloc (.cells #[.int .u8 0] 5 (0,0))):=by kernel_rfl
theorem mk2 (W:World):(Instr.makeSlice 22 (.int .i64 2) (.int .i64 2)).run Tryz.prog W=.ok (.slice (some ⟨W.heap.size,0,none⟩) 2 2) (W.alloc (.cells #[.int .u8 0,.int .u8 0] 5 (0,0))):=by kernel_rfl
theorem mk3 (W:World):(Instr.makeSlice 22 (.int .i64 3) (.int .i64 3)).run Tryz.prog W=.ok (.slice (some ⟨W.heap.size,0,none⟩) 3 3) (W.alloc (.cells #[.int .u8 0,.int .u8 0,.int .u8 0] 5 (0,0))):=by kernel_rfl
theorem mk4 (W:World):(Instr.makeSlice 22 (.int .i64 4) (.int .i64 4)).run Tryz.prog W=.ok (.slice (some ⟨W.heap.size,0,none⟩) 4 4) (W.alloc (.cells #[.int .u8 0,.int .u8 0,.int .u8 0,.int .u8 0] 5 (0,0))):=by kernel_rfl
set_option maxHeartbeats 4000000 in
theorem uput_1 (r:Int) (w:World) (h0:0≤r) (h1:r≤127) (hs:r < 55296∨57343 < r) :
    Calls Tryz.prog 72 #[.int .i64 r] w fun e w'=>∃ g:Nat,w.heap.size≤g∧e=.returned (.slice (some ⟨g,0,none⟩) 1 1)∧w'.heap[g]?=some (.cells #[.int .u8 (Go.bits .or .u8 0 r)] 5 (0,0))∧Below w.heap.size w w':=by
  have HB:=Aside0.mk (Below.refl w.heap.size w)
  have HR:=Aside0.mk (show isB r=true from decide_eq_true (by omega))
  have jx0:=ix0
  have jx1:=ix1
  have jx2:=ix2
  have jx3:=ix3
  have jmk:=mk1
  go_enter Tryz.func72,Tryz.ntmps72
  go_wp2_with (first|(go_at_call 122;(with_reducible refine (is_c _ _).mono ?_);rintro e w1 ⟨rfl,hb⟩;rw [HR.out];clear HB;have HB:=Aside0.mk hb;clear hb)|(go_at_call 123;(with_reducible refine (sizes_c _).mono ?_);rintro e w2 ⟨rfl,hb⟩;have HB':=Aside0.mk (below_step HB.out hb);clear HB;have HB:=HB';clear HB' hb))
  go_loopw [0,11] (fun v0 v11 wr=>∃ i:Nat,v0=.int .i64 r∧v11=.int .i64 i∧i < 1∧Aside0 (Below w.heap.size w wr)) (fun v0 v11 _=>1 - (intOf v11).toNat)
  case atStart=>exact ⟨0,rfl,rfl,by omega,HB⟩
  case round =>
    clear HB
    obtain ⟨i,rfl,rfl,hi,HB⟩:=hrel
    have hcase:i=0:=by omega
    rcases hcase with rfl
    · go_wp2
      have B4:((wr.alloc (.cells #[.int .i64 1,.int .i64 127,.int .u8 0,.int .u8 127] 187 (0,0))).alloc (.cells #[.int .u8 0] 5 (0,0))).heap[wr.heap.size]?=some (.cells #[.int .i64 1,.int .i64 127,.int .u8 0,.int .u8 127] 187 (0,0)):=blk_alloc (show (wr.heap.push _)[wr.heap.size]?=_ from Array.getElem?_push_size) _
      have B5:((wr.alloc (.cells #[.int .i64 1,.int .i64 127,.int .u8 0,.int .u8 127] 187 (0,0))).alloc (.cells #[.int .u8 0] 5 (0,0))).heap[wr.heap.size+1]?=some (.cells #[.int .u8 0] 5 (0,0)):=two_new _ _ _
      have HB0:=below_alloc (below_alloc HB.out (.cells #[.int .i64 1,.int .i64 127,.int .u8 0,.int .u8 127] 187 (0,0))) (.cells #[.int .u8 0] 5 (0,0))
      have G4:w.heap.size≤wr.heap.size:=HB.out.size
      have G5:w.heap.size≤wr.heap.size+1:=Nat.le_succ_of_le HB.out.size
      have N45:wr.heap.size≠wr.heap.size+1:=Nat.ne_of_lt (Nat.lt_succ_self _)
      generalize ((wr.alloc (.cells #[.int .i64 1,.int .i64 127,.int .u8 0,.int .u8 127] 187 (0,0))).alloc (.cells #[.int .u8 0] 5 (0,0)))=W0 at B4 B5 HB0 ⊢
      generalize wr.heap.size+1=g5 at B5 G5 N45 ⊢
      generalize wr.heap.size=g4 at B4 G4 N45 ⊢
      have G4':=Aside0.mk G4
      have G5':=Aside0.mk G5
      have N45':=Aside0.mk N45
      clear G4 G5 N45 HB
      go_loopw [0,6] (fun v0 v6 w'=>∃ (j:Nat) (x:Int) (cs:Array Value),v0=.int .i64 x∧v6=.int .i64 j∧Aside0 ((j=0∧r=x∧cs=#[.int .u8 0]))∧Aside0 (w'.heap[g4]?=some (.cells #[.int .i64 1,.int .i64 127,.int .u8 0,.int .u8 127] 187 (0,0)))∧Aside0 (w'.heap[g5]?=some (.cells cs 5 (0,0)))∧Aside0 (Below w.heap.size w w')) (fun v0 v6 _=>(intOf v6).toNat)
      case atStart=>exact ⟨0,r,#[.int .u8 0],rfl,rfl,⟨by simp⟩,⟨B4⟩,⟨B5⟩,⟨HB0⟩⟩
      case round =>
        clear B4 B5 HB0
        obtain ⟨j,x,cs,rfl,rfl,hj,B4,B5,HB⟩:=hrel
        have hcz0:=(blk_cell B4.out 0).trans rfl
        have hcz1:=(blk_cell B4.out 1).trans rfl
        have hcz2:=(blk_cell B4.out 2).trans rfl
        have hcz3:=(blk_cell B4.out 3).trans rfl
        have hlt4:=blk_lt B4.out
        have hlt5:=blk_lt B5.out
        have hn1:=N45'.out
        have hn2:=N45'.out.symm
        rcases hj.out with ⟨rfl,rfl,rfl⟩
        · have hcy:=(blk_cell B5.out 0).trans rfl
          have hfy:=blk_frozen B5.out 0
          go_wp2
          go_ret
          exact ⟨g5,G5'.out,rfl,blk_put B5.out 0 _ rfl,below_set HB.out G5'.out⟩
set_option maxHeartbeats 4000000 in
theorem uput_2 (r:Int) (w:World) (h0:128≤r) (h1:r≤2047) (hs:r < 55296∨57343 < r) :
    Calls Tryz.prog 72 #[.int .i64 r] w fun e w'=>∃ g:Nat,w.heap.size≤g∧e=.returned (.slice (some ⟨g,0,none⟩) 2 2)∧w'.heap[g]?=some (.cells #[.int .u8 (192+(r / 64)),.int .u8 (cb r)] 5 (0,0))∧Below w.heap.size w w':=by
  have HB:=Aside0.mk (Below.refl w.heap.size w)
  have HR:=Aside0.mk (show isB r=true from decide_eq_true (by omega))
  have jx0:=ix0
  have jx1:=ix1
  have jx2:=ix2
  have jx3:=ix3
  have jmk:=mk2
  go_enter Tryz.func72,Tryz.ntmps72
  go_wp2_with (first|(go_at_call 122;(with_reducible refine (is_c _ _).mono ?_);rintro e w1 ⟨rfl,hb⟩;rw [HR.out];clear HB;have HB:=Aside0.mk hb;clear hb)|(go_at_call 123;(with_reducible refine (sizes_c _).mono ?_);rintro e w2 ⟨rfl,hb⟩;have HB':=Aside0.mk (below_step HB.out hb);clear HB;have HB:=HB';clear HB' hb))
  go_loopw [0,11] (fun v0 v11 wr=>∃ i:Nat,v0=.int .i64 r∧v11=.int .i64 i∧i < 2∧Aside0 (Below w.heap.size w wr)) (fun v0 v11 _=>2 - (intOf v11).toNat)
  case atStart=>exact ⟨0,rfl,rfl,by omega,HB⟩
  case round =>
    clear HB
    obtain ⟨i,rfl,rfl,hi,HB⟩:=hrel
    have hcase:i=0∨i=1:=by omega
    rcases hcase with rfl | rfl
    · have hgt:127 < r:=by omega
      go_wp2
      exact ⟨⟨1,rfl,rfl,by omega,⟨below_alloc HB.out _⟩⟩,by show 2 - (1:Int).toNat < 2 - (0:Int).toNat;decide⟩
    · go_wp2
      have B4:((wr.alloc (.cells #[.int .i64 2,.int .i64 2047,.int .u8 192,.int .u8 31] 187 (0,0))).alloc (.cells #[.int .u8 0,.int .u8 0] 5 (0,0))).heap[wr.heap.size]?=some (.cells #[.int .i64 2,.int .i64 2047,.int .u8 192,.int .u8 31] 187 (0,0)):=blk_alloc (show (wr.heap.push _)[wr.heap.size]?=_ from Array.getElem?_push_size) _
      have B5:((wr.alloc (.cells #[.int .i64 2,.int .i64 2047,.int .u8 192,.int .u8 31] 187 (0,0))).alloc (.cells #[.int .u8 0,.int .u8 0] 5 (0,0))).heap[wr.heap.size+1]?=some (.cells #[.int .u8 0,.int .u8 0] 5 (0,0)):=two_new _ _ _
      have HB0:=below_alloc (below_alloc HB.out (.cells #[.int .i64 2,.int .i64 2047,.int .u8 192,.int .u8 31] 187 (0,0))) (.cells #[.int .u8 0,.int .u8 0] 5 (0,0))
      have G4:w.heap.size≤wr.heap.size:=HB.out.size
      have G5:w.heap.size≤wr.heap.size+1:=Nat.le_succ_of_le HB.out.size
      have N45:wr.heap.size≠wr.heap.size+1:=Nat.ne_of_lt (Nat.lt_succ_self _)
      generalize ((wr.alloc (.cells #[.int .i64 2,.int .i64 2047,.int .u8 192,.int .u8 31] 187 (0,0))).alloc (.cells #[.int .u8 0,.int .u8 0] 5 (0,0)))=W0 at B4 B5 HB0 ⊢
      generalize wr.heap.size+1=g5 at B5 G5 N45 ⊢
      generalize wr.heap.size=g4 at B4 G4 N45 ⊢
      have G4':=Aside0.mk G4
      have G5':=Aside0.mk G5
      have N45':=Aside0.mk N45
      clear G4 G5 N45 HB
      go_loopw [0,6] (fun v0 v6 w'=>∃ (j:Nat) (x:Int) (cs:Array Value),v0=.int .i64 x∧v6=.int .i64 j∧Aside0 ((j=1∧r=x∧cs=#[.int .u8 0,.int .u8 0])∨(j=0∧(r / 64)=x∧cs=#[.int .u8 0,.int .u8 (cb r)]))∧Aside0 (w'.heap[g4]?=some (.cells #[.int .i64 2,.int .i64 2047,.int .u8 192,.int .u8 31] 187 (0,0)))∧Aside0 (w'.heap[g5]?=some (.cells cs 5 (0,0)))∧Aside0 (Below w.heap.size w w')) (fun v0 v6 _=>(intOf v6).toNat)
      case atStart=>exact ⟨1,r,#[.int .u8 0,.int .u8 0],rfl,rfl,⟨by simp⟩,⟨B4⟩,⟨B5⟩,⟨HB0⟩⟩
      case round =>
        clear B4 B5 HB0
        obtain ⟨j,x,cs,rfl,rfl,hj,B4,B5,HB⟩:=hrel
        have hcz0:=(blk_cell B4.out 0).trans rfl
        have hcz1:=(blk_cell B4.out 1).trans rfl
        have hcz2:=(blk_cell B4.out 2).trans rfl
        have hcz3:=(blk_cell B4.out 3).trans rfl
        have hlt4:=blk_lt B4.out
        have hlt5:=blk_lt B5.out
        have hn1:=N45'.out
        have hn2:=N45'.out.symm
        rcases hj.out with ⟨rfl,rfl,rfl⟩ | ⟨rfl,rfl,rfl⟩
        · have hcy:=(blk_cell B5.out 1).trans rfl
          have hfy:=blk_frozen B5.out 1
          go_wp2
          refine ⟨⟨0,(r / 64),#[.int .u8 0,.int .u8 (cb r)],rfl,rfl,⟨by simp⟩,⟨?_⟩,⟨?_⟩,⟨?_⟩⟩,by show (0:Int).toNat < (1:Int).toNat;decide⟩
          · exact blk_far B4.out N45'.out _
          · exact blk_put B5.out 1 _ rfl
          · exact below_set HB.out G5'.out
        · have hcy:=(blk_cell B5.out 0).trans rfl
          have hfy:=blk_frozen B5.out 0
          go_wp2
          go_ret
          exact ⟨g5,G5'.out,rfl,blk_put B5.out 0 _ rfl,below_set HB.out G5'.out⟩
set_option maxHeartbeats 4000000 in
theorem uput_3 (r:Int) (w:World) (h0:2048≤r) (h1:r≤65535) (hs:r < 55296∨57343 < r) :
    Calls Tryz.prog 72 #[.int .i64 r] w fun e w'=>∃ g:Nat,w.heap.size≤g∧e=.returned (.slice (some ⟨g,0,none⟩) 3 3)∧w'.heap[g]?=some (.cells #[.int .u8 (224+((r / 64) / 64)),.int .u8 (cb (r / 64)),.int .u8 (cb r)] 5 (0,0))∧Below w.heap.size w w':=by
  have HB:=Aside0.mk (Below.refl w.heap.size w)
  have HR:=Aside0.mk (show isB r=true from decide_eq_true (by omega))
  have jx0:=ix0
  have jx1:=ix1
  have jx2:=ix2
  have jx3:=ix3
  have jmk:=mk3
  go_enter Tryz.func72,Tryz.ntmps72
  go_wp2_with (first|(go_at_call 122;(with_reducible refine (is_c _ _).mono ?_);rintro e w1 ⟨rfl,hb⟩;rw [HR.out];clear HB;have HB:=Aside0.mk hb;clear hb)|(go_at_call 123;(with_reducible refine (sizes_c _).mono ?_);rintro e w2 ⟨rfl,hb⟩;have HB':=Aside0.mk (below_step HB.out hb);clear HB;have HB:=HB';clear HB' hb))
  go_loopw [0,11] (fun v0 v11 wr=>∃ i:Nat,v0=.int .i64 r∧v11=.int .i64 i∧i < 3∧Aside0 (Below w.heap.size w wr)) (fun v0 v11 _=>3 - (intOf v11).toNat)
  case atStart=>exact ⟨0,rfl,rfl,by omega,HB⟩
  case round =>
    clear HB
    obtain ⟨i,rfl,rfl,hi,HB⟩:=hrel
    have hcase:i=0∨i=1∨i=2:=by omega
    rcases hcase with rfl | rfl | rfl
    · have hgt:127 < r:=by omega
      go_wp2
      exact ⟨⟨1,rfl,rfl,by omega,⟨below_alloc HB.out _⟩⟩,by show 3 - (1:Int).toNat < 3 - (0:Int).toNat;decide⟩
    · have hgt:2047 < r:=by omega
      go_wp2
      exact ⟨⟨2,rfl,rfl,by omega,⟨below_alloc HB.out _⟩⟩,by show 3 - (2:Int).toNat < 3 - (1:Int).toNat;decide⟩
    · go_wp2
      have B4:((wr.alloc (.cells #[.int .i64 3,.int .i64 65535,.int .u8 224,.int .u8 15] 187 (0,0))).alloc (.cells #[.int .u8 0,.int .u8 0,.int .u8 0] 5 (0,0))).heap[wr.heap.size]?=some (.cells #[.int .i64 3,.int .i64 65535,.int .u8 224,.int .u8 15] 187 (0,0)):=blk_alloc (show (wr.heap.push _)[wr.heap.size]?=_ from Array.getElem?_push_size) _
      have B5:((wr.alloc (.cells #[.int .i64 3,.int .i64 65535,.int .u8 224,.int .u8 15] 187 (0,0))).alloc (.cells #[.int .u8 0,.int .u8 0,.int .u8 0] 5 (0,0))).heap[wr.heap.size+1]?=some (.cells #[.int .u8 0,.int .u8 0,.int .u8 0] 5 (0,0)):=two_new _ _ _
      have HB0:=below_alloc (below_alloc HB.out (.cells #[.int .i64 3,.int .i64 65535,.int .u8 224,.int .u8 15] 187 (0,0))) (.cells #[.int .u8 0,.int .u8 0,.int .u8 0] 5 (0,0))
      have G4:w.heap.size≤wr.heap.size:=HB.out.size
      have G5:w.heap.size≤wr.heap.size+1:=Nat.le_succ_of_le HB.out.size
      have N45:wr.heap.size≠wr.heap.size+1:=Nat.ne_of_lt (Nat.lt_succ_self _)
      generalize ((wr.alloc (.cells #[.int .i64 3,.int .i64 65535,.int .u8 224,.int .u8 15] 187 (0,0))).alloc (.cells #[.int .u8 0,.int .u8 0,.int .u8 0] 5 (0,0)))=W0 at B4 B5 HB0 ⊢
      generalize wr.heap.size+1=g5 at B5 G5 N45 ⊢
      generalize wr.heap.size=g4 at B4 G4 N45 ⊢
      have G4':=Aside0.mk G4
      have G5':=Aside0.mk G5
      have N45':=Aside0.mk N45
      clear G4 G5 N45 HB
      go_loopw [0,6] (fun v0 v6 w'=>∃ (j:Nat) (x:Int) (cs:Array Value),v0=.int .i64 x∧v6=.int .i64 j∧Aside0 ((j=2∧r=x∧cs=#[.int .u8 0,.int .u8 0,.int .u8 0])∨(j=1∧(r / 64)=x∧cs=#[.int .u8 0,.int .u8 0,.int .u8 (cb r)])∨(j=0∧((r / 64) / 64)=x∧cs=#[.int .u8 0,.int .u8 (cb (r / 64)),.int .u8 (cb r)]))∧Aside0 (w'.heap[g4]?=some (.cells #[.int .i64 3,.int .i64 65535,.int .u8 224,.int .u8 15] 187 (0,0)))∧Aside0 (w'.heap[g5]?=some (.cells cs 5 (0,0)))∧Aside0 (Below w.heap.size w w')) (fun v0 v6 _=>(intOf v6).toNat)
      case atStart=>exact ⟨2,r,#[.int .u8 0,.int .u8 0,.int .u8 0],rfl,rfl,⟨by simp⟩,⟨B4⟩,⟨B5⟩,⟨HB0⟩⟩
      case round =>
        clear B4 B5 HB0
        obtain ⟨j,x,cs,rfl,rfl,hj,B4,B5,HB⟩:=hrel
        have hcz0:=(blk_cell B4.out 0).trans rfl
        have hcz1:=(blk_cell B4.out 1).trans rfl
        have hcz2:=(blk_cell B4.out 2).trans rfl
        have hcz3:=(blk_cell B4.out 3).trans rfl
        have hlt4:=blk_lt B4.out
        have hlt5:=blk_lt B5.out
        have hn1:=N45'.out
        have hn2:=N45'.out.symm
        rcases hj.out with ⟨rfl,rfl,rfl⟩ | ⟨rfl,rfl,rfl⟩ | ⟨rfl,rfl,rfl⟩
        · have hcy:=(blk_cell B5.out 2).trans rfl
          have hfy:=blk_frozen B5.out 2
          go_wp2
          refine ⟨⟨1,(r / 64),#[.int .u8 0,.int .u8 0,.int .u8 (cb r)],rfl,rfl,⟨by simp⟩,⟨?_⟩,⟨?_⟩,⟨?_⟩⟩,by show (1:Int).toNat < (2:Int).toNat;decide⟩
          · exact blk_far B4.out N45'.out _
          · exact blk_put B5.out 2 _ rfl
          · exact below_set HB.out G5'.out
        · have hcy:=(blk_cell B5.out 1).trans rfl
          have hfy:=blk_frozen B5.out 1
          go_wp2
          refine ⟨⟨0,((r / 64) / 64),#[.int .u8 0,.int .u8 (cb (r / 64)),.int .u8 (cb r)],rfl,rfl,⟨by simp⟩,⟨?_⟩,⟨?_⟩,⟨?_⟩⟩,by show (0:Int).toNat < (1:Int).toNat;decide⟩
          · exact blk_far B4.out N45'.out _
          · exact blk_put B5.out 1 _ rfl
          · exact below_set HB.out G5'.out
        · have hcy:=(blk_cell B5.out 0).trans rfl
          have hfy:=blk_frozen B5.out 0
          go_wp2
          go_ret
          exact ⟨g5,G5'.out,rfl,blk_put B5.out 0 _ rfl,below_set HB.out G5'.out⟩
set_option maxHeartbeats 4000000 in
theorem uput_4 (r:Int) (w:World) (h0:65536≤r) (h1:r≤1114111) (hs:r < 55296∨57343 < r) :
    Calls Tryz.prog 72 #[.int .i64 r] w fun e w'=>∃ g:Nat,w.heap.size≤g∧e=.returned (.slice (some ⟨g,0,none⟩) 4 4)∧w'.heap[g]?=some (.cells #[.int .u8 (240+(((r / 64) / 64) / 64)),.int .u8 (cb ((r / 64) / 64)),.int .u8 (cb (r / 64)),.int .u8 (cb r)] 5 (0,0))∧Below w.heap.size w w':=by
  have HB:=Aside0.mk (Below.refl w.heap.size w)
  have HR:=Aside0.mk (show isB r=true from decide_eq_true (by omega))
  have jx0:=ix0
  have jx1:=ix1
  have jx2:=ix2
  have jx3:=ix3
  have jmk:=mk4
  go_enter Tryz.func72,Tryz.ntmps72
  go_wp2_with (first|(go_at_call 122;(with_reducible refine (is_c _ _).mono ?_);rintro e w1 ⟨rfl,hb⟩;rw [HR.out];clear HB;have HB:=Aside0.mk hb;clear hb)|(go_at_call 123;(with_reducible refine (sizes_c _).mono ?_);rintro e w2 ⟨rfl,hb⟩;have HB':=Aside0.mk (below_step HB.out hb);clear HB;have HB:=HB';clear HB' hb))
  go_loopw [0,11] (fun v0 v11 wr=>∃ i:Nat,v0=.int .i64 r∧v11=.int .i64 i∧i < 4∧Aside0 (Below w.heap.size w wr)) (fun v0 v11 _=>4 - (intOf v11).toNat)
  case atStart=>exact ⟨0,rfl,rfl,by omega,HB⟩
  case round =>
    clear HB
    obtain ⟨i,rfl,rfl,hi,HB⟩:=hrel
    have hcase:i=0∨i=1∨i=2∨i=3:=by omega
    rcases hcase with rfl | rfl | rfl | rfl
    · have hgt:127 < r:=by omega
      go_wp2
      exact ⟨⟨1,rfl,rfl,by omega,⟨below_alloc HB.out _⟩⟩,by show 4 - (1:Int).toNat < 4 - (0:Int).toNat;decide⟩
    · have hgt:2047 < r:=by omega
      go_wp2
      exact ⟨⟨2,rfl,rfl,by omega,⟨below_alloc HB.out _⟩⟩,by show 4 - (2:Int).toNat < 4 - (1:Int).toNat;decide⟩
    · have hgt:65535 < r:=by omega
      go_wp2
      exact ⟨⟨3,rfl,rfl,by omega,⟨below_alloc HB.out _⟩⟩,by show 4 - (3:Int).toNat < 4 - (2:Int).toNat;decide⟩
    · go_wp2
      have B4:((wr.alloc (.cells #[.int .i64 4,.int .i64 1114111,.int .u8 240,.int .u8 7] 187 (0,0))).alloc (.cells #[.int .u8 0,.int .u8 0,.int .u8 0,.int .u8 0] 5 (0,0))).heap[wr.heap.size]?=some (.cells #[.int .i64 4,.int .i64 1114111,.int .u8 240,.int .u8 7] 187 (0,0)):=blk_alloc (show (wr.heap.push _)[wr.heap.size]?=_ from Array.getElem?_push_size) _
      have B5:((wr.alloc (.cells #[.int .i64 4,.int .i64 1114111,.int .u8 240,.int .u8 7] 187 (0,0))).alloc (.cells #[.int .u8 0,.int .u8 0,.int .u8 0,.int .u8 0] 5 (0,0))).heap[wr.heap.size+1]?=some (.cells #[.int .u8 0,.int .u8 0,.int .u8 0,.int .u8 0] 5 (0,0)):=two_new _ _ _
      have HB0:=below_alloc (below_alloc HB.out (.cells #[.int .i64 4,.int .i64 1114111,.int .u8 240,.int .u8 7] 187 (0,0))) (.cells #[.int .u8 0,.int .u8 0,.int .u8 0,.int .u8 0] 5 (0,0))
      have G4:w.heap.size≤wr.heap.size:=HB.out.size
      have G5:w.heap.size≤wr.heap.size+1:=Nat.le_succ_of_le HB.out.size
      have N45:wr.heap.size≠wr.heap.size+1:=Nat.ne_of_lt (Nat.lt_succ_self _)
      generalize ((wr.alloc (.cells #[.int .i64 4,.int .i64 1114111,.int .u8 240,.int .u8 7] 187 (0,0))).alloc (.cells #[.int .u8 0,.int .u8 0,.int .u8 0,.int .u8 0] 5 (0,0)))=W0 at B4 B5 HB0 ⊢
      generalize wr.heap.size+1=g5 at B5 G5 N45 ⊢
      generalize wr.heap.size=g4 at B4 G4 N45 ⊢
      have G4':=Aside0.mk G4
      have G5':=Aside0.mk G5
      have N45':=Aside0.mk N45
      clear G4 G5 N45 HB
      go_loopw [0,6] (fun v0 v6 w'=>∃ (j:Nat) (x:Int) (cs:Array Value),v0=.int .i64 x∧v6=.int .i64 j∧Aside0 ((j=3∧r=x∧cs=#[.int .u8 0,.int .u8 0,.int .u8 0,.int .u8 0])∨(j=2∧(r / 64)=x∧cs=#[.int .u8 0,.int .u8 0,.int .u8 0,.int .u8 (cb r)])∨(j=1∧((r / 64) / 64)=x∧cs=#[.int .u8 0,.int .u8 0,.int .u8 (cb (r / 64)),.int .u8 (cb r)])∨(j=0∧(((r / 64) / 64) / 64)=x∧cs=#[.int .u8 0,.int .u8 (cb ((r / 64) / 64)),.int .u8 (cb (r / 64)),.int .u8 (cb r)]))∧Aside0 (w'.heap[g4]?=some (.cells #[.int .i64 4,.int .i64 1114111,.int .u8 240,.int .u8 7] 187 (0,0)))∧Aside0 (w'.heap[g5]?=some (.cells cs 5 (0,0)))∧Aside0 (Below w.heap.size w w')) (fun v0 v6 _=>(intOf v6).toNat)
      case atStart=>exact ⟨3,r,#[.int .u8 0,.int .u8 0,.int .u8 0,.int .u8 0],rfl,rfl,⟨by simp⟩,⟨B4⟩,⟨B5⟩,⟨HB0⟩⟩
      case round =>
        clear B4 B5 HB0
        obtain ⟨j,x,cs,rfl,rfl,hj,B4,B5,HB⟩:=hrel
        have hcz0:=(blk_cell B4.out 0).trans rfl
        have hcz1:=(blk_cell B4.out 1).trans rfl
        have hcz2:=(blk_cell B4.out 2).trans rfl
        have hcz3:=(blk_cell B4.out 3).trans rfl
        have hlt4:=blk_lt B4.out
        have hlt5:=blk_lt B5.out
        have hn1:=N45'.out
        have hn2:=N45'.out.symm
        rcases hj.out with ⟨rfl,rfl,rfl⟩ | ⟨rfl,rfl,rfl⟩ | ⟨rfl,rfl,rfl⟩ | ⟨rfl,rfl,rfl⟩
        · have hcy:=(blk_cell B5.out 3).trans rfl
          have hfy:=blk_frozen B5.out 3
          go_wp2
          refine ⟨⟨2,(r / 64),#[.int .u8 0,.int .u8 0,.int .u8 0,.int .u8 (cb r)],rfl,rfl,⟨by simp⟩,⟨?_⟩,⟨?_⟩,⟨?_⟩⟩,by show (2:Int).toNat < (3:Int).toNat;decide⟩
          · exact blk_far B4.out N45'.out _
          · exact blk_put B5.out 3 _ rfl
          · exact below_set HB.out G5'.out
        · have hcy:=(blk_cell B5.out 2).trans rfl
          have hfy:=blk_frozen B5.out 2
          go_wp2
          refine ⟨⟨1,((r / 64) / 64),#[.int .u8 0,.int .u8 0,.int .u8 (cb (r / 64)),.int .u8 (cb r)],rfl,rfl,⟨by simp⟩,⟨?_⟩,⟨?_⟩,⟨?_⟩⟩,by show (1:Int).toNat < (2:Int).toNat;decide⟩
          · exact blk_far B4.out N45'.out _
          · exact blk_put B5.out 2 _ rfl
          · exact below_set HB.out G5'.out
        · have hcy:=(blk_cell B5.out 1).trans rfl
          have hfy:=blk_frozen B5.out 1
          go_wp2
          refine ⟨⟨0,(((r / 64) / 64) / 64),#[.int .u8 0,.int .u8 (cb ((r / 64) / 64)),.int .u8 (cb (r / 64)),.int .u8 (cb r)],rfl,rfl,⟨by simp⟩,⟨?_⟩,⟨?_⟩,⟨?_⟩⟩,by show (0:Int).toNat < (1:Int).toNat;decide⟩
          · exact blk_far B4.out N45'.out _
          · exact blk_put B5.out 1 _ rfl
          · exact below_set HB.out G5'.out
        · have hcy:=(blk_cell B5.out 0).trans rfl
          have hfy:=blk_frozen B5.out 0
          go_wp2
          go_ret
          exact ⟨g5,G5'.out,rfl,blk_put B5.out 0 _ rfl,below_set HB.out G5'.out⟩
theorem and63 {r:Int} (h0:0≤r) (h1:r≤1114111):Go.bits .and .i64 r 63=r % 64:=by
  obtain ⟨n,rfl⟩:∃ n:Nat,r=(n:Int):=⟨r.toNat,by omega⟩
  have e1:(BitVec.ofInt 64 (n:Int)).toNat=n:=by
    rw [BitVec.ofInt_natCast,BitVec.toNat_ofNat];exact Nat.mod_eq_of_lt (by omega)
  have e2:(BitVec.ofInt 64 (63:Int)).toNat=63:=by decide
  show IntKind.i64.wrap ((BitVec.ofInt 64 (n:Int) &&& BitVec.ofInt 64 (63:Int)).toNat:Int)=_
  rw [BitVec.toNat_and,e1,e2,show (63:Nat)=2 ^ 6 - 1 from rfl,Nat.and_two_pow_sub_one_eq_mod,i64_w]
  have h3:(n % 2 ^ 6:Nat)=n % 64:=rfl
  rw [h3]
  unfold Go.RowKit.wrap64
  omega
theorem or128 {x:Int} (h0:0≤x) (h1:x < 64):Go.bits .or .u8 128 (IntKind.u8.wrap x)=128+x:=by
  have h:∀ n:Fin 64,Go.bits .or .u8 128 (IntKind.u8.wrap (n.val:Int))=128+(n.val:Int):=by decide +kernel
  have:=h ⟨x.toNat,by omega⟩
  simp only [Int.toNat_of_nonneg h0] at this
  exact this
theorem cb_eq {r:Int} (h0:0≤r) (h1:r≤1114111):cb r=128+r % 64:=by
  unfold cb
  rw [and63 h0 h1]
  exact or128 (by omega) (by omega)
theorem or0 {r:Int} (h0:0≤r) (h1:r≤127):Go.bits .or .u8 0 r=r:=by
  have h:∀ n:Fin 128,Go.bits .or .u8 0 (n.val:Int)=(n.val:Int):=by decide +kernel
  have:=h ⟨r.toNat,by omega⟩
  simp only [Int.toNat_of_nonneg h0] at this
  exact this
theorem R_of_block {w:World} {base g:Nat} {l:List Int} (hg:base≤g) (h:w.heap[g]?=some (.cells (l.map (Value.int .u8)).toArray 5 (0,0))) (hl:l.length≤1000):Kd.R (Kd.int .u8) 5 w base (fun _=>True) (.slice (some ⟨g,0,none⟩) l.length l.length) l:=by
  refine ⟨fun _ _=>trivial,l.map (Value.int .u8),⟨by rw [List.length_map];exact (Nat.mul_one _).symm,.inr ⟨g,l.length,_,rfl,hg,h,Nat.le_refl _,by simp [maxLen];omega,?_,?_⟩⟩,?_,?_⟩
  · rw [List.size_toArray,List.length_map];exact (Nat.mul_one _).symm
  · show (List.map (Value.int .u8) l).take (l.length * 1)=_
    rw [Nat.mul_one,List.take_of_length_le (by rw [List.length_map];exact Nat.le_refl _)]
  · rw [List.length_map];exact (Nat.mul_one _).symm
  · intro j p hj
    show ((l.map (Value.int .u8)).drop (j * 1)).take 1=[Value.int .u8 p]
    have hlt:j < l.length:=by
      rcases Nat.lt_or_ge j l.length with h | h
      · exact h
      · rw [List.getElem?_eq_none h] at hj;cases hj
    rw [List.getElem?_eq_getElem hlt] at hj
    have e:l[j]=p:=Option.some.inj hj
    rw [Nat.mul_one,List.drop_eq_getElem_cons (by rw [List.length_map];exact hlt),List.take_succ_cons,List.take_zero,List.getElem_map,e]
def putP (r:Int):List Int:=if isB r=true then (if r≤127 then [r] else if r≤2047 then [192+r / 64,128+r % 64] else if r≤65535 then [224+r / 64 / 64,128+r / 64 % 64,128+r % 64] else [240+r / 64 / 64 / 64,128+r / 64 / 64 % 64,128+r / 64 % 64,128+r % 64]) else []
def utf_Put.f (r:Int):Option (List Int):=some (putP r)
theorem utf_Put.calls (a0:Int) (r:List Int) (w:World) (h:utf_Put.f a0=some r) :
    Calls Tryz.prog 72 #[.int .i64 a0] w fun e w'=>∃ v0_:Value,e=.returned (v0_)∧Kd.R (Kd.int .u8) 5 w' w.heap.size (fun _=>True) v0_ r∧Below w.heap.size w w':=by
  obtain rfl:=Option.some.inj h
  clear h
  unfold putP
  by_cases hb:isB a0=true
  · rw [if_pos hb]
    have hi:0≤a0∧a0≤1114111∧(a0 < 55296∨a0 > 57343):=of_decide_eq_true hb
    by_cases h1:a0≤127
    · rw [if_pos h1]
      refine (uput_1 a0 w (by omega) h1 (by omega)).mono ?_
      rintro e w' ⟨g,hg,rfl,hb,hw⟩
      refine ⟨_,rfl,R_of_block (l:=[a0]) hg ?_ (by simp),hw⟩
      rw [hb,or0 (by omega) h1]
      rfl
    rw [if_neg h1]
    by_cases h2:a0≤2047
    · rw [if_pos h2]
      refine (uput_2 a0 w (by omega) h2 (by omega)).mono ?_
      rintro e w' ⟨g,hg,rfl,hb,hw⟩
      refine ⟨_,rfl,R_of_block (l:=[192+a0 / 64,128+a0 % 64]) hg ?_ (by simp),hw⟩
      rw [hb,cb_eq (by omega) (by omega)]
      rfl
    rw [if_neg h2]
    by_cases h3:a0≤65535
    · rw [if_pos h3]
      refine (uput_3 a0 w (by omega) h3 (by omega)).mono ?_
      rintro e w' ⟨g,hg,rfl,hb,hw⟩
      refine ⟨_,rfl,R_of_block (l:=[224+a0 / 64 / 64,128+a0 / 64 % 64,128+a0 % 64]) hg ?_ (by simp),hw⟩
      rw [hb,cb_eq (r:=a0) (by omega) (by omega),cb_eq (by omega) (by omega)]
      rfl
    rw [if_neg h3]
    refine (uput_4 a0 w (by omega) (by omega) (by omega)).mono ?_
    rintro e w' ⟨g,hg,rfl,hb,hw⟩
    refine ⟨_,rfl,R_of_block (l:=[240+a0 / 64 / 64 / 64,128+a0 / 64 / 64 % 64,128+a0 / 64 % 64,128+a0 % 64]) hg ?_ (by simp),hw⟩
    rw [hb,cb_eq (r:=a0) (by omega) (by omega),cb_eq (r:=a0 / 64) (by omega) (by omega),cb_eq (by omega) (by omega)]
    rfl
  · rw [if_neg hb]
    refine (uput_none a0 w (by simpa using hb)).mono ?_
    rintro e w' ⟨rfl,hw⟩
    exact ⟨_,rfl,Kd.R_nil _ _ _ _ _,hw⟩
end Go.Proofs.YthjacokachgmfaaGreatDoor.H
end
section
namespace Go.Proofs.YthjacokachgmfaaGreatDoorW.PrintLast
open YthjacokachgmfaaGreatDoorW.PrintWords (Aside0)
def needsOf (md:Region.Mode) (o:Oper):List Nat:=(o.after.toList.filter (fun e=>Region.binds md e)).map (fun e=>e.on)
def clashOf (md:Region.Mode) (ops:Array Oper) (i:Nat) (oi:Oper):List Nat:=(List.range ops.size).filter fun j=>!(j == i)&&match ops[j]? with
  | some oj=>!(oj.after.any (fun e=>Region.binds md e&&e.on == i)||oi.apart ops oj)
  | none=>false
def rtab (md:Region.Mode) (ops:Array Oper):Bool × List (List Nat × List Nat):=(Region.noSelect ops,(List.range ops.size).map fun i=>match ops[i]? with
  | some o=>(needsOf md o,clashOf md ops i o)
  | none=>([],[]))
def readyAt (T:List (List Nat × List Nat)) (l:List Bool) (i:Nat):Bool:=!l.getD i true&&match T[i]? with
  | some r=>r.1.all (fun j=>l.getD j false)
  | none=>false
def readyT (T:List (List Nat × List Nat)) (l:List Bool):List Nat:=(List.range T.length).filter (readyAt T l)
def freeT (T:List (List Nat × List Nat)) (l:List Bool) (i:Nat):Bool:=match T[i]? with
  | some r=>r.2.all (fun j=>l.getD j true)
  | none=>false
def closedT (T:List (List Nat × List Nat)) (l:List Bool):Bool:=(List.range T.length).all fun j=>!l.getD j false||match T[j]? with
  | some r=>r.1.all (fun k=>l.getD k false)
  | none=>true
def reachT (T:List (List Nat × List Nat)) (i:Nat):Nat→Nat→Bool
  | 0,_=>false
  | fuel+1,d=>match T[d]? with
    | some r=>r.1.any fun j=>j == i||reachT T i fuel j
    | none=>false
def lastT (T:List (List Nat × List Nat)) (l:List Bool) (ds:List Nat) (i:Nat):Bool:=ds.all fun d=>l.getD d true||reachT T i T.length d
section
variable {md:Region.Mode} {ops:Array Oper} {T:Bool × List (List Nat × List Nat)} {l l' li lj lk:Array Bool} {ds:List Nat} {i j k:Nat}
theorem gd (l:Array Bool) (j:Nat) (b:Bool):l.getD j b=l.toList.getD j b:=by simp [Array.getD_eq_getD_getElem?,List.getD_eq_getElem?_getD]
theorem needs_all (o:Oper) (p:Nat→Bool):o.after.all (fun e=>!Region.binds md e||p e.on)=(needsOf md o).all p:=by
  unfold needsOf
  rw [← Array.all_toList]
  induction o.after.toList with
  | nil=>rfl
  | cons e r ih =>
    rw [List.all_cons,ih,List.filter_cons]
    cases h:Region.binds md e<;>simp
theorem needs_any (o:Oper) (p:Nat→Bool):o.after.any (fun e=>Region.binds md e&&p e.on)=(needsOf md o).any p:=by
  unfold needsOf
  rw [← Array.any_toList]
  induction o.after.toList with
  | nil=>rfl
  | cons e r ih =>
    rw [List.any_cons,ih,List.filter_cons]
    cases h:Region.binds md e<;>simp
theorem rtab_length:(rtab md ops).2.length=ops.size:=by simp [rtab]
theorem rtab_some {o:Oper} (h:ops[i]?=some o):(rtab md ops).2[i]?=some (needsOf md o,clashOf md ops i o):=by
  have hi:=(Array.getElem?_eq_some_iff.1 h).1
  unfold rtab
  rw [List.getElem?_map,List.getElem?_range hi,Option.map_some,h]
theorem rtab_none (h:ops[i]?=none):(rtab md ops).2[i]?=none:=by
  have hi:ops.size≤i:=Array.getElem?_eq_none_iff.1 h
  exact List.getElem?_eq_none (by rw [rtab_length];exact hi)
theorem readyAt_eq:readyAt (rtab md ops).2 l.toList i=(!l.getD i true&&((ops[i]?).map (·.after.all fun e=>!Region.binds md e||l.getD e.on false)).getD false):=by
  unfold readyAt
  rw [gd]
  cases h:ops[i]? with
  | none=>rw [rtab_none h];rfl
  | some o =>
    rw [rtab_some h]
    simp only [Option.map_some,Option.getD_some]
    rw [← needs_all]
    simp only [gd]
theorem ready_eq:Region.ready md ops l=readyT (rtab md ops).2 l.toList:=by
  unfold Region.ready readyT
  rw [rtab_length]
  refine List.filter_congr (fun i _=>?_)
  rw [readyAt_eq]
theorem free_eq:Region.free md ops l i=freeT (rtab md ops).2 l.toList i:=by
  unfold Region.free freeT
  cases h:ops[i]? with
  | none=>rw [rtab_none h]
  | some oi =>
    rw [rtab_some h]
    simp only [clashOf]
    rw [List.all_filter]
    congr 1
    funext j
    rw [gd]
    cases hj:ops[j]? with
    | none=>cases (j == i)<;>cases (l.toList.getD j true)<;>simp
    | some oj =>
      cases (j == i)<;>cases (l.toList.getD j true)<;>cases (oj.after.any (fun e=>Region.binds md e&&e.on == i)||oi.apart ops oj)<;>simp_all
theorem closed_eq:Region.closedB md ops l=closedT (rtab md ops).2 l.toList:=by
  unfold Region.closedB closedT
  rw [rtab_length]
  congr 1
  funext j
  rw [gd]
  cases h:ops[j]? with
  | none=>rw [rtab_none h]
  | some o =>
    rw [rtab_some h]
    simp only
    rw [← needs_all]
    simp only [gd]
theorem reach_eq:∀ (fuel d:Nat),Region.reachB md ops i fuel d=reachT (rtab md ops).2 i fuel d
  | 0,_=>rfl
  | fuel+1,d=>by
    unfold Region.reachB reachT
    cases h:ops[d]? with
    | none=>rw [rtab_none h]
    | some o =>
      rw [rtab_some h]
      simp only
      rw [← needs_any]
      congr 1
      funext e
      rw [reach_eq fuel]
theorem last_eq:Region.lastB md ops l ds i=lastT (rtab md ops).2 l.toList ds i:=by
  unfold Region.lastB lastT
  rw [rtab_length]
  congr 1
  funext d
  rw [gd,reach_eq]
theorem readyAt_mem (h:readyAt T.2 l.toList i=true) (hT:rtab md ops=T):(Region.ready md ops l).contains i=true:=by
  subst hT
  rw [ready_eq]
  unfold readyT
  rw [List.contains_iff_mem,List.mem_filter,List.mem_range]
  refine ⟨?_,h⟩
  unfold readyAt at h
  rw [Bool.and_eq_true] at h
  cases hq:(rtab md ops).2[i]? with
  | none=>rw [hq] at h;simp at h
  | some r=>exact (List.getElem?_eq_some_iff.1 hq).1
theorem set_of (h:(l.toList.set i true == l'.toList)=true):(l.setIfInBounds i true == l')=true:=by
  rw [beq_iff_eq] at h ⊢
  apply Array.ext'
  rw [Array.toList_setIfInBounds]
  exact h
def anyT (T:Bool × List (List Nat × List Nat)) (l l':List Bool) (i:Nat):Bool:=T.1&&freeT T.2 l i&&readyAt T.2 l i&&(l.set i true == l')
theorem any_of (hT:rtab md ops=T) (h:anyT T l.toList l'.toList i=true):anyB md ops l l' i=true:=by
  simp only [anyT,Bool.and_eq_true] at h
  obtain ⟨⟨⟨h1,h2⟩,h3⟩,h4⟩:=h
  have h5:=readyAt_mem h3 hT
  have h6:=set_of h4
  subst hT
  simp only [anyB,Bool.and_eq_true]
  exact ⟨⟨⟨h1,by rw [free_eq];exact h2⟩,h5⟩,h6⟩
def takeT (T:Bool × List (List Nat × List Nat)) (ds:List Nat) (l l':List Bool) (i:Nat):Bool:=T.1&&freeT T.2 l i&&readyAt T.2 l i&&closedT T.2 l&&lastT T.2 l ds i&&(l.set i true == l')
theorem take_of (hT:rtab md ops=T) (h:takeT T ds l.toList l'.toList i=true):takeB md ops ds l l' i=true:=by
  simp only [takeT,Bool.and_eq_true] at h
  obtain ⟨⟨⟨⟨⟨h1,h2⟩,h3⟩,h4⟩,h5⟩,h6⟩:=h
  have h7:=readyAt_mem h3 hT
  have h8:=set_of h6
  subst hT
  simp only [takeB,Bool.and_eq_true]
  exact ⟨⟨⟨⟨⟨h1,by rw [free_eq];exact h2⟩,h7⟩,by rw [closed_eq];exact h4⟩,by rw [last_eq];exact h5⟩,h8⟩
theorem one_of (hT:rtab md ops=T) (h:(readyT T.2 l.toList == [i]&&l.toList.set i true == l'.toList)=true):readyB md ops l l' i=true:=by
  simp only [Bool.and_eq_true] at h
  obtain ⟨h1,h2⟩:=h
  subst hT
  simp only [readyB,Bool.and_eq_true]
  exact ⟨by rw [ready_eq];exact h1,set_of h2⟩
theorem two_of (hT:rtab md ops=T) (h:(readyT T.2 l.toList == [i,j]&&l.toList.set i true == li.toList&&l.toList.set j true == lj.toList)=true):(Region.ready md ops l == [i,j]&&l.setIfInBounds i true == li&&l.setIfInBounds j true == lj)=true:=by
  simp only [Bool.and_eq_true] at h ⊢
  obtain ⟨⟨h1,h2⟩,h3⟩:=h
  subst hT
  exact ⟨⟨by rw [ready_eq];exact h1,set_of h2⟩,set_of h3⟩
theorem done_of (hT:rtab md ops=T) (h:(readyT T.2 l.toList == [])=true):(Region.ready md ops l == [])=true:=by
  subst hT
  rw [ready_eq]
  exact h
def upM (B:List Nat) (d:Nat):List Nat→Nat
  | []=>0
  | n :: r=>(2 ^ n ||| (if n < d then B.getD n 0 else 0)) ||| upM B d r
def waitsOk (T:List (List Nat × List Nat)) (B:List Nat):Bool:=(List.range T.length).all fun d=>match T[d]? with
  | some r=>(B.getD d 0 ||| upM B d r.1) == upM B d r.1
  | none=>false
theorem upM_bit {B:List Nat} {d i:Nat}:∀ {ns:List Nat},(upM B d ns).testBit i=true→∃ n∈ns,n=i∨(n < d∧(B.getD n 0).testBit i=true)
  | [],h=>by simp [upM] at h
  | n :: r,h=>by
    unfold upM at h
    rw [Nat.testBit_or,Nat.testBit_or,Bool.or_eq_true,Bool.or_eq_true] at h
    rcases h with (h | h) | h
    · rw [Nat.testBit_two_pow] at h
      exact ⟨n,List.mem_cons_self,.inl (by simpa using h)⟩
    · by_cases hn:n < d
      · rw [if_pos hn] at h
        exact ⟨n,List.mem_cons_self,.inr ⟨hn,h⟩⟩
      · rw [if_neg hn] at h
        simp at h
    · obtain ⟨m,hm,h2⟩:=upM_bit h
      exact ⟨m,List.mem_cons_of_mem _ hm,h2⟩
theorem reach_bit {T:List (List Nat × List Nat)} {B:List Nat} (hB:waitsOk T B=true):∀ (fuel d:Nat),d < fuel→d < T.length→(B.getD d 0).testBit i=true→reachT T i fuel d=true
  | 0,d,h,_,_=>by omega
  | fuel+1,d,h,hd,hb=>by
    have h1:=List.all_eq_true.1 hB d (List.mem_range.2 hd)
    cases hr:T[d]? with
    | none=>rw [hr] at h1;simp at h1
    | some r =>
      rw [hr] at h1
      simp only [beq_iff_eq] at h1
      have h2:(upM B d r.1).testBit i=true:=by rw [← h1,Nat.testBit_or,hb,Bool.true_or]
      obtain ⟨n,hn,h3⟩:=upM_bit h2
      unfold reachT
      rw [hr]
      simp only
      rw [List.any_eq_true]
      refine ⟨n,hn,?_⟩
      rcases h3 with rfl | ⟨h4,h5⟩
      · simp
      · rw [reach_bit hB fuel n (by omega) (by omega) h5,Bool.or_true]
def lastW (T:List (List Nat × List Nat)) (B:List Nat) (l:List Bool) (ds:List Nat) (i:Nat):Bool:=ds.all fun d=>l.getD d true||(decide (d < T.length)&&(B.getD d 0).testBit i)
def takeW (T:Bool × List (List Nat × List Nat)) (B:List Nat) (ds:List Nat) (l l':List Bool) (i:Nat):Bool:=T.1&&freeT T.2 l i&&readyAt T.2 l i&&closedT T.2 l&&lastW T.2 B l ds i&&(l.set i true == l')
theorem take_ofW {B:List Nat} (hT:rtab md ops=T) (hB:waitsOk T.2 B=true) (h:takeW T B ds l.toList l'.toList i=true):takeB md ops ds l l' i=true:=by
  refine take_of hT ?_
  simp only [takeW,takeT,Bool.and_eq_true] at h ⊢
  obtain ⟨⟨⟨⟨⟨h1,h2⟩,h3⟩,h4⟩,h5⟩,h6⟩:=h
  refine ⟨⟨⟨⟨⟨h1,h2⟩,h3⟩,h4⟩,?_⟩,h6⟩
  unfold lastW at h5
  unfold lastT
  rw [List.all_eq_true] at h5 ⊢
  intro d hd
  have h7:=h5 d hd
  rw [Bool.or_eq_true,Bool.and_eq_true,decide_eq_true_eq] at h7
  rcases h7 with h7 | ⟨h8,h9⟩
  · rw [h7,Bool.true_or]
  · rw [reach_bit hB _ d h8 h8 h9,Bool.or_true]
theorem with_tabW {P:Program} {Q:Exit→Act→World→Prop} {S:World→Prop} {n:Nat} {a:Act} {w:World} {B:List Nat} (hT:rtab md ops=T) (hB:waitsOk T.2 B=true) (h:Aside0 (rtab md ops=T)→Aside0 (waitsOk T.2 B=true)→wpAnyLast P md ops Q S ds n l a w):wpAnyLast P md ops Q S ds n l a w:=h ⟨hT⟩ ⟨hB⟩
end
def opsIn:Code→Nat→Option (Array Oper)
  | .region id ops _,k=>if id == k then some ops else none
  | .seq a b,k=>match opsIn a k with
    | some o=>some o
    | none=>opsIn b k
  | .cond _ a b,k=>match opsIn a k with
    | some o=>some o
    | none=>opsIn b k
  | .block _ c,k=>opsIn c k
  | .loop c,k=>opsIn c k
  | .scope c,k=>opsIn c k
  | .rangeFunc _ _ a b,k=>match opsIn a k with
    | some o=>some o
    | none=>opsIn b k
  | _,_=>none
def opsOf (f:Func) (k:Nat):Array Oper:=((f.body.bind fun c=>opsIn c k)).getD #[]
end Go.Proofs.YthjacokachgmfaaGreatDoorW.PrintLast
end
section
namespace Go.Proofs.YthjacokachgmfaaGreatDoorW.PrintLast
section
variable {P:Program} {ops:Array Oper} {Q:Exit→Act→World→Prop} {md:Region.Mode} {S:World→Prop} {ds:List Nat} {T:Bool × List (List Nat × List Nat)}
end
end Go.Proofs.YthjacokachgmfaaGreatDoorW.PrintLast
end
section
namespace Go.Proofs.YthjacokachgmfaaGreatDoorW.PrintWords
open Go.RowKit
namespace Kd
section
variable {α:Type} {d:Kd α} {W:World} {g n:Nat} {S ok:Nat→Prop} {A:Option Addr} {ad:Addr} {xs:List α}
end
end Kd
end Go.Proofs.YthjacokachgmfaaGreatDoorW.PrintWords
end
section
namespace Go.Proofs.YthjacokachgmfaaGreatDoorW.PrintWords
open Go.RowKit
section
variable {w w' u:World} {m B g:Nat} {o:Obj} {row:Option Nat} {S:Nat→Prop} {a:Addr} {v:Value}
theorem cell_at (hq:w.drewN m=w') (h:w.cell? a=some v):w'.cell? a=some v:=by subst hq;exact h
end
namespace Kd
section
variable {α:Type} {d:Kd α} {e base n m:Nat} {ok:Nat→Prop} {w w':World} {v:Value} {A:Option Addr} {xs:List α}
end
end Kd
end Go.Proofs.YthjacokachgmfaaGreatDoorW.PrintWords
end
section
namespace Go.Proofs.YthjacokachgmfaaGreatDoorW.PrintWords
open Go.RowKit
section
variable {P:Program} {d:Nat} {xs ys:Array Value} {f:Field} {fs:List Field} {a b:Value} {r s:Bool} {w:World}
end
end Go.Proofs.YthjacokachgmfaaGreatDoorW.PrintWords
end
section
namespace Go.Proofs.YthjacokachgmfaaGreatDoorW.PrintLast
section
variable {P:Program} {ops:Array Oper} {Q:Exit→Act→World→Prop} {md:Region.Mode} {T:Bool × List (List Nat × List Nat)} {B:List Nat} {O:List Nat} {b:Nat→Bool} {i j n:Nat}
end
end Go.Proofs.YthjacokachgmfaaGreatDoorW.PrintLast
end
