import Derived.Test.YthjacokachgmfaaGreatDoorT04
import Derived.Test.YthjacokachgmfaaGreatDoorT07
import Derived.Test.YthjacokachgmfaaGreatDoorT17
import Derived.Test.YthjacokachgmfaaGreatDoorT18
set_option linter.unusedVariables false
set_option linter.unusedSimpArgs false
section
namespace Go.Proofs.YthjacokachgmfaaGreatDoor.H
open Go Go.RowKit YthjacokachgmfaaGreatDoorW.PrintWords YthjacokachgmfaaGreatDoorW.PrintLast YthjacokachgmfaaGreatDoorW.PrintMore
set_option maxRecDepth 100000
set_option maxHeartbeats 4000000 in
theorem shaped_calls (kind priv fin:Int) (inter data:List UInt8) (A:Option Addr) (n c:Nat) (w:World) (hk:kind=1∧data=[]∨kind=3) (hf:64≤fin∧fin≤126) :
    Calls Tryz.prog 114 #[.agg #[.int .i64 kind,.int .u8 priv,.slice A n c,.string ⟨inter.toArray⟩,.int .u8 fin,.string ⟨data.toArray⟩]] w fun e w'=>e=.returned (.bool true)∧Below w.heap.size w w':=by
  have e1:decide ((64:Int)≤fin)=true:=decide_eq_true hf.1
  have e2:decide (fin≤(126:Int))=true:=decide_eq_true hf.2
  have HF:=Aside0.mk hf
  clear hf
  rcases hk with ⟨rfl,rfl⟩ | rfl
  · skip
    by_cases hp:priv=0
    · have e3:(priv == 0)=true:=beq_iff_eq.2 hp
      clear hp
      go_enter Tryz.func114,Tryz.ntmps114
      go_wp2
      go_ret
      exact ⟨rfl,below_alloc (Below.refl _ _) _⟩
    · have e3:(priv == 0)=false:=beq_eq_false_iff_ne.2 hp
      clear hp
      go_enter Tryz.func114,Tryz.ntmps114
      go_wp2
      go_ret
      exact ⟨rfl,below_alloc (Below.refl _ _) _⟩
  · skip
    by_cases hp:priv=0
    · have e3:(priv == 0)=true:=beq_iff_eq.2 hp
      clear hp
      go_enter Tryz.func114,Tryz.ntmps114
      go_wp2
      go_ret
      exact ⟨rfl,below_alloc (Below.refl _ _) _⟩
    · have e3:(priv == 0)=false:=beq_eq_false_iff_ne.2 hp
      clear hp
      go_enter Tryz.func114,Tryz.ntmps114
      go_wp2
      go_ret
      exact ⟨rfl,below_alloc (Below.refl _ _) _⟩
structure Plain (kind priv fin:Int) (inter data:List UInt8):Prop where
  kind:kind=1∧data=[]∨kind=3
  priv:priv=0∨60≤priv∧priv≤63
  fin:64≤fin∧fin≤126
  inter:inter.length≤2∧∀ c∈inter,32≤c.toNat∧c.toNat≤47
  data:data.length≤4096∧∀ c∈data,32≤c.toNat∧c.toNat≤126
theorem betw_true (s:List UInt8) (a b:Nat) (h:∀ c∈s,a≤c.toNat∧c.toNat≤b):betw s a b=true:=by
  unfold betw
  rw [List.all_eq_true]
  intro c hc
  have:=h c hc
  simp
  omega
theorem btw_calls (s:List UInt8) (a b:Nat) (ha:a≤255) (hb:b < 128) (h:∀ c∈s,a≤c.toNat∧c.toNat≤b) (w:World) :
    Calls Tryz.prog 112 #[.string ⟨s.toArray⟩,.int .u8 a,.int .u8 b] w fun e w'=>e=.returned (.bool true)∧Below w.heap.size w w':=by
  refine (between_calls s a b (by omega) (by omega) (fun c hc=>by have:=h c hc;omega) w).mono ?_
  rintro e w' ⟨rfl,hb⟩
  exact ⟨by rw [show betw s (a:Int).toNat (b:Int).toNat=true from betw_true s _ _ h],hb⟩
theorem cells6 {w:World} {g:Nat} {t:TypeId} {a b c d e f:Value} (h:w.heap[g]?=some (.cells #[a,b,c,d,e,f] t (0,0))):w.cell? ⟨g,0,none⟩=some a∧w.cell? ⟨g,1,none⟩=some b∧w.cell? ⟨g,2,none⟩=some c∧w.cell? ⟨g,3,none⟩=some d∧w.cell? ⟨g,4,none⟩=some e∧w.cell? ⟨g,5,none⟩=some f :=
  ⟨(blk_cell h 0).trans rfl,(blk_cell h 1).trans rfl,(blk_cell h 2).trans rfl,(blk_cell h 3).trans rfl,(blk_cell h 4).trans rfl,(blk_cell h 5).trans rfl⟩
set_option maxHeartbeats 8000000 in
theorem may_calls (kind priv fin:Int) (inter data:List UInt8) (A:Option Addr) (ps:List (List Int)) (c:Nat) (w:World) (hs:Plain kind priv fin inter data) (hr:Kd.C kli w A ps.length ps) (hl:ps.length≤100000) (hp:∀ p∈ps,p.length≤100000) :
    Calls Tryz.prog 62 #[.agg #[.int .i64 kind,.int .u8 priv,.slice A ps.length c,.string ⟨inter.toArray⟩,.int .u8 fin,.string ⟨data.toArray⟩]] w fun e w'=>e=.returned (.int .i64 (if listedT ps then 0 else 1))∧Below w.heap.size w w':=by
  have HS:=Aside0.mk hs
  have HR:=Aside0.mk hr
  have HL:=Aside0.mk (And.intro hl hp)
  have hB0:=Aside0.mk (Below.refl w.heap.size w)
  obtain ⟨I0,hI0⟩:∃ I0:ByteArray,I0=⟨inter.toArray⟩:=⟨_,rfl⟩
  obtain ⟨D0,hD0⟩:∃ D0:ByteArray,D0=⟨data.toArray⟩:=⟨_,rfl⟩
  have hIs:I0.size=inter.length:=by rw [hI0];simp [ByteArray.size]
  have hDs:D0.size=data.length:=by rw [hD0];simp [ByteArray.size]
  have e1:decide ((I0.size:Int)≤2)=true:=decide_eq_true (by have:=hs.inter.1;omega)
  have e2:decide ((4096:Int) < (D0.size:Int))=false:=decide_eq_false (by have:=hs.data.1;omega)
  have HBI:Aside0 (∀ w:World,Calls Tryz.prog 112 #[.string I0,.int .u8 32,.int .u8 47] w fun e w'=>e=.returned (.bool true)∧Below w.heap.size w w'):=⟨fun w=>by rw [hI0];exact btw_calls inter 32 47 (by omega) (by omega) hs.inter.2 w⟩
  have HBD:Aside0 (∀ w:World,Calls Tryz.prog 112 #[.string D0,.int .u8 32,.int .u8 126] w fun e w'=>e=.returned (.bool true)∧Below w.heap.size w w'):=⟨fun w=>by rw [hD0];exact btw_calls data 32 126 (by omega) (by omega) hs.data.2 w⟩
  have HSH:Aside0 (∀ w:World,Calls Tryz.prog 114 #[.agg #[.int .i64 kind,.int .u8 priv,.slice A ps.length c,.string I0,.int .u8 fin,.string D0]] w fun e w'=>e=.returned (.bool true)∧Below w.heap.size w w'):=⟨fun w=>by rw [hI0,hD0];exact shaped_calls kind priv fin inter data A _ c w hs.kind hs.fin⟩
  rw [← hI0,← hD0]
  clear hs hr hl hp hI0 hD0 hIs hDs
  cases hli:listedT ps with
  | true =>
    have HLI:=Aside0.mk hli
    clear hli
    rcases HS.out.priv with h0 | h0
    · have e3:(priv == 0)=true:=beq_iff_eq.2 h0
      clear h0
      go_enter Tryz.func62,Tryz.ntmps62
      go_wp2_with (first|(refine bx 1 #[.int .i64 kind,.int .u8 priv,.slice A ps.length c,.string I0,.int .u8 fin,.string D0] 44 (h:=?_);intro gb hg w5 hbox hb;have BK:=Aside0.mk hbox;have HB:=Aside0.mk hb;have hlg:=blk_lt hbox;obtain ⟨q0,q1,q2,q3,q4,q5⟩:=cells6 hbox;clear hb hbox hg)|(go_at_call 112;refine (HBI.out _).mono ?_;rintro e W1 ⟨rfl,hb⟩;have BK_:=Aside0.mk (blk_below BK.out hb);have HB_:=Aside0.mk (below_step HB.out hb);clear BK HB q0 q1 q2 q3 q4 q5 hlg;have BK:=BK_;have HB:=HB_;clear BK_ HB_ hb;have hlg:=blk_lt BK.out;obtain ⟨q0,q1,q2,q3,q4,q5⟩:=cells6 BK.out)|(go_at_call 112;refine (HBD.out _).mono ?_;rintro e W1 ⟨rfl,hb⟩;have BK_:=Aside0.mk (blk_below BK.out hb);have HB_:=Aside0.mk (below_step HB.out hb);clear BK HB q0 q1 q2 q3 q4 q5 hlg;have BK:=BK_;have HB:=HB_;clear BK_ HB_ hb;have hlg:=blk_lt BK.out;obtain ⟨q0,q1,q2,q3,q4,q5⟩:=cells6 BK.out)|(go_at_call 113;refine (listed_calls A c ps _ (Kd.C_below HR.out HB.out) HL.out.1 (fun p hp=>(HL.out.2 p hp))).mono ?_;rw [HLI.out];rintro e W1 ⟨rfl,hb⟩;have BK_:=Aside0.mk (blk_below BK.out hb);have HB_:=Aside0.mk (below_step HB.out hb);clear BK HB q0 q1 q2 q3 q4 q5 hlg;have BK:=BK_;have HB:=HB_;clear BK_ HB_ hb;have hlg:=blk_lt BK.out;obtain ⟨q0,q1,q2,q3,q4,q5⟩:=cells6 BK.out)|(go_at_call 114;refine (HSH.out _).mono ?_;rintro e W1 ⟨rfl,hb⟩;have BK_:=Aside0.mk (blk_below BK.out hb);have HB_:=Aside0.mk (below_step HB.out hb);clear BK HB q0 q1 q2 q3 q4 q5 hlg;have BK:=BK_;have HB:=HB_;clear BK_ HB_ hb;have hlg:=blk_lt BK.out;obtain ⟨q0,q1,q2,q3,q4,q5⟩:=cells6 BK.out))
      go_ret
      exact ⟨rfl,HB.out⟩
    · have e3:(priv == 0)=false:=beq_eq_false_iff_ne.2 (by omega)
      have e4:decide ((60:Int)≤priv)=true:=decide_eq_true h0.1
      have e5:decide (priv≤(63:Int))=true:=decide_eq_true h0.2
      clear h0
      go_enter Tryz.func62,Tryz.ntmps62
      go_wp2_with (first|(refine bx 1 #[.int .i64 kind,.int .u8 priv,.slice A ps.length c,.string I0,.int .u8 fin,.string D0] 44 (h:=?_);intro gb hg w5 hbox hb;have BK:=Aside0.mk hbox;have HB:=Aside0.mk hb;have hlg:=blk_lt hbox;obtain ⟨q0,q1,q2,q3,q4,q5⟩:=cells6 hbox;clear hb hbox hg)|(go_at_call 112;refine (HBI.out _).mono ?_;rintro e W1 ⟨rfl,hb⟩;have BK_:=Aside0.mk (blk_below BK.out hb);have HB_:=Aside0.mk (below_step HB.out hb);clear BK HB q0 q1 q2 q3 q4 q5 hlg;have BK:=BK_;have HB:=HB_;clear BK_ HB_ hb;have hlg:=blk_lt BK.out;obtain ⟨q0,q1,q2,q3,q4,q5⟩:=cells6 BK.out)|(go_at_call 112;refine (HBD.out _).mono ?_;rintro e W1 ⟨rfl,hb⟩;have BK_:=Aside0.mk (blk_below BK.out hb);have HB_:=Aside0.mk (below_step HB.out hb);clear BK HB q0 q1 q2 q3 q4 q5 hlg;have BK:=BK_;have HB:=HB_;clear BK_ HB_ hb;have hlg:=blk_lt BK.out;obtain ⟨q0,q1,q2,q3,q4,q5⟩:=cells6 BK.out)|(go_at_call 113;refine (listed_calls A c ps _ (Kd.C_below HR.out HB.out) HL.out.1 (fun p hp=>(HL.out.2 p hp))).mono ?_;rw [HLI.out];rintro e W1 ⟨rfl,hb⟩;have BK_:=Aside0.mk (blk_below BK.out hb);have HB_:=Aside0.mk (below_step HB.out hb);clear BK HB q0 q1 q2 q3 q4 q5 hlg;have BK:=BK_;have HB:=HB_;clear BK_ HB_ hb;have hlg:=blk_lt BK.out;obtain ⟨q0,q1,q2,q3,q4,q5⟩:=cells6 BK.out)|(go_at_call 114;refine (HSH.out _).mono ?_;rintro e W1 ⟨rfl,hb⟩;have BK_:=Aside0.mk (blk_below BK.out hb);have HB_:=Aside0.mk (below_step HB.out hb);clear BK HB q0 q1 q2 q3 q4 q5 hlg;have BK:=BK_;have HB:=HB_;clear BK_ HB_ hb;have hlg:=blk_lt BK.out;obtain ⟨q0,q1,q2,q3,q4,q5⟩:=cells6 BK.out))
      go_ret
      exact ⟨rfl,HB.out⟩
  | false =>
    have HLI:=Aside0.mk hli
    clear hli
    rcases HS.out.priv with h0 | h0
    · have e3:(priv == 0)=true:=beq_iff_eq.2 h0
      clear h0
      go_enter Tryz.func62,Tryz.ntmps62
      go_wp2_with (first|(refine bx 1 #[.int .i64 kind,.int .u8 priv,.slice A ps.length c,.string I0,.int .u8 fin,.string D0] 44 (h:=?_);intro gb hg w5 hbox hb;have BK:=Aside0.mk hbox;have HB:=Aside0.mk hb;have hlg:=blk_lt hbox;obtain ⟨q0,q1,q2,q3,q4,q5⟩:=cells6 hbox;clear hb hbox hg)|(go_at_call 112;refine (HBI.out _).mono ?_;rintro e W1 ⟨rfl,hb⟩;have BK_:=Aside0.mk (blk_below BK.out hb);have HB_:=Aside0.mk (below_step HB.out hb);clear BK HB q0 q1 q2 q3 q4 q5 hlg;have BK:=BK_;have HB:=HB_;clear BK_ HB_ hb;have hlg:=blk_lt BK.out;obtain ⟨q0,q1,q2,q3,q4,q5⟩:=cells6 BK.out)|(go_at_call 112;refine (HBD.out _).mono ?_;rintro e W1 ⟨rfl,hb⟩;have BK_:=Aside0.mk (blk_below BK.out hb);have HB_:=Aside0.mk (below_step HB.out hb);clear BK HB q0 q1 q2 q3 q4 q5 hlg;have BK:=BK_;have HB:=HB_;clear BK_ HB_ hb;have hlg:=blk_lt BK.out;obtain ⟨q0,q1,q2,q3,q4,q5⟩:=cells6 BK.out)|(go_at_call 113;refine (listed_calls A c ps _ (Kd.C_below HR.out HB.out) HL.out.1 (fun p hp=>(HL.out.2 p hp))).mono ?_;rw [HLI.out];rintro e W1 ⟨rfl,hb⟩;have BK_:=Aside0.mk (blk_below BK.out hb);have HB_:=Aside0.mk (below_step HB.out hb);clear BK HB q0 q1 q2 q3 q4 q5 hlg;have BK:=BK_;have HB:=HB_;clear BK_ HB_ hb;have hlg:=blk_lt BK.out;obtain ⟨q0,q1,q2,q3,q4,q5⟩:=cells6 BK.out)|(go_at_call 114;refine (HSH.out _).mono ?_;rintro e W1 ⟨rfl,hb⟩;have BK_:=Aside0.mk (blk_below BK.out hb);have HB_:=Aside0.mk (below_step HB.out hb);clear BK HB q0 q1 q2 q3 q4 q5 hlg;have BK:=BK_;have HB:=HB_;clear BK_ HB_ hb;have hlg:=blk_lt BK.out;obtain ⟨q0,q1,q2,q3,q4,q5⟩:=cells6 BK.out))
      go_ret
      exact ⟨rfl,HB.out⟩
    · have e3:(priv == 0)=false:=beq_eq_false_iff_ne.2 (by omega)
      have e4:decide ((60:Int)≤priv)=true:=decide_eq_true h0.1
      have e5:decide (priv≤(63:Int))=true:=decide_eq_true h0.2
      clear h0
      go_enter Tryz.func62,Tryz.ntmps62
      go_wp2_with (first|(refine bx 1 #[.int .i64 kind,.int .u8 priv,.slice A ps.length c,.string I0,.int .u8 fin,.string D0] 44 (h:=?_);intro gb hg w5 hbox hb;have BK:=Aside0.mk hbox;have HB:=Aside0.mk hb;have hlg:=blk_lt hbox;obtain ⟨q0,q1,q2,q3,q4,q5⟩:=cells6 hbox;clear hb hbox hg)|(go_at_call 112;refine (HBI.out _).mono ?_;rintro e W1 ⟨rfl,hb⟩;have BK_:=Aside0.mk (blk_below BK.out hb);have HB_:=Aside0.mk (below_step HB.out hb);clear BK HB q0 q1 q2 q3 q4 q5 hlg;have BK:=BK_;have HB:=HB_;clear BK_ HB_ hb;have hlg:=blk_lt BK.out;obtain ⟨q0,q1,q2,q3,q4,q5⟩:=cells6 BK.out)|(go_at_call 112;refine (HBD.out _).mono ?_;rintro e W1 ⟨rfl,hb⟩;have BK_:=Aside0.mk (blk_below BK.out hb);have HB_:=Aside0.mk (below_step HB.out hb);clear BK HB q0 q1 q2 q3 q4 q5 hlg;have BK:=BK_;have HB:=HB_;clear BK_ HB_ hb;have hlg:=blk_lt BK.out;obtain ⟨q0,q1,q2,q3,q4,q5⟩:=cells6 BK.out)|(go_at_call 113;refine (listed_calls A c ps _ (Kd.C_below HR.out HB.out) HL.out.1 (fun p hp=>(HL.out.2 p hp))).mono ?_;rw [HLI.out];rintro e W1 ⟨rfl,hb⟩;have BK_:=Aside0.mk (blk_below BK.out hb);have HB_:=Aside0.mk (below_step HB.out hb);clear BK HB q0 q1 q2 q3 q4 q5 hlg;have BK:=BK_;have HB:=HB_;clear BK_ HB_ hb;have hlg:=blk_lt BK.out;obtain ⟨q0,q1,q2,q3,q4,q5⟩:=cells6 BK.out)|(go_at_call 114;refine (HSH.out _).mono ?_;rintro e W1 ⟨rfl,hb⟩;have BK_:=Aside0.mk (blk_below BK.out hb);have HB_:=Aside0.mk (below_step HB.out hb);clear BK HB q0 q1 q2 q3 q4 q5 hlg;have BK:=BK_;have HB:=HB_;clear BK_ HB_ hb;have hlg:=blk_lt BK.out;obtain ⟨q0,q1,q2,q3,q4,q5⟩:=cells6 BK.out))
      go_ret
      exact ⟨rfl,HB.out⟩
end Go.Proofs.YthjacokachgmfaaGreatDoor.H
end
section
namespace Go.Proofs.YthjacokachgmfaaGreatDoor.H
open Go Go.RowKit YthjacokachgmfaaGreatDoorW.PrintWords YthjacokachgmfaaGreatDoorW.PrintLast YthjacokachgmfaaGreatDoorW.PrintMore
set_option maxRecDepth 100000
def csiT (priv:Int) (ps:List (List Int)) (inter:List UInt8) (fin:Int):List UInt8:=glueT [[91],bodyT priv ps inter fin]
theorem listed_bounds {ps:List (List Int)} (h:listedT ps=true):ps.length≤16∧∀ p∈ps,p.length≤8∧∀ x∈p,-1≤x∧x≤1114111:=by
  unfold listedT at h
  simp only [Bool.and_eq_true,Bool.not_eq_true',Bool.or_eq_false_iff,decide_eq_false_iff_not,List.all_eq_true] at h
  obtain ⟨⟨h1,_⟩,h2⟩:=h
  refine ⟨by omega,fun p hp=>?_⟩
  have h3:=h2 p hp
  unfold oneOk at h3
  simp only [Bool.and_eq_true,Bool.not_eq_true',decide_eq_true_eq,List.any_eq_false] at h3
  obtain ⟨⟨h4,_⟩,h5⟩:=h3
  refine ⟨h5,fun x hx=>?_⟩
  have h6:=h4 x hx
  unfold oddN at h6
  simp only [Bool.or_eq_true,decide_eq_true_eq,not_or] at h6
  omega
theorem bodyT_len (priv:Int) (ps:List (List Int)) (inter:List UInt8) (fin:Int) (hl:ps.length≤1000) (hp:∀ p∈ps,p.length≤1000∧∀ x∈p,-9223372036854775808≤x∧x≤9223372036854775807):(bodyT priv ps inter fin).length≤22002000+inter.length:=by
  have h:=oneT_all ps hp
  have h2:ps.length * 22001≤22001000:=by omega
  unfold bodyT
  simp only [List.length_append,List.length_cons,List.length_nil]
  split<;>simp<;>omega
theorem OwnB.low {w0 w1 w:World} {v:Value} {l:List UInt8} (h:OwnB w1 w v l) (hs:w0.heap.size≤w1.heap.size):OwnB w0 w v l :=
  Kd.R_mono (Kd.R_raise (b:=w1.heap.size) (b':=w0.heap.size) (fun _ _ _ _ h=>by exact h) h (fun k hk=>Nat.le_trans hs (Kd.R_base h k hk))) (fun k hk=>Nat.le_trans hs hk)
theorem join2 (a b:List UInt8):Lib.join [a,b] []=a++b:=by simp [Lib.join]
set_option maxHeartbeats 8000000 in
theorem put_calls (priv fin:Int) (inter:List UInt8) (A:Option Addr) (ps:List (List Int)) (c:Nat) (w:World) (hs:Plain 1 priv fin inter []) (hr:Kd.C kli w A ps.length ps) (hl:ps.length≤100000) (hp:∀ p∈ps,p.length≤100000) (ht:Pow w) :
    Calls Tryz.prog 27 #[.agg #[.int .i64 1,.int .u8 priv,.slice A ps.length c,.string ⟨inter.toArray⟩,.int .u8 fin,.string ⟨#[]⟩]] w fun e w'=>(if listedT ps then ∃ v,e=.returned (.tuple #[v,.int .i64 0])∧OwnB w w' v (csiT priv ps inter fin) else e=.returned (.tuple #[.slice none 0 0,.int .i64 1]))∧Below w.heap.size w w':=by
  have HR:=Aside0.mk hr
  have hB0:=Aside0.mk (Below.refl w.heap.size w)
  have hin:=hs.inter.1
  have HMAY:Aside0 (∀ W:World,Below w.heap.size w W→Calls Tryz.prog 62 #[.agg #[.int .i64 1,.int .u8 priv,.slice A ps.length c,.string ⟨inter.toArray⟩,.int .u8 fin,.string ⟨#[]⟩]] W fun e w'=>e=.returned (.int .i64 (if listedT ps then 0 else 1))∧Below W.heap.size W w'):=⟨fun W hb=>may_calls 1 priv fin inter [] A ps c W hs (Kd.C_below hr hb) hl hp⟩
  obtain ⟨I0,hI0⟩:∃ I0:ByteArray,I0=⟨inter.toArray⟩:=⟨_,rfl⟩
  cases hli:listedT ps with
  | true =>
    have hb1:=listed_bounds hli
    have hp1:∀ p∈ps,p.length≤1000∧∀ x∈p,-9223372036854775808≤x∧x≤9223372036854775807:=fun p hp=>⟨by have:=(hb1.2 p hp).1;omega,fun x hx=>by have:=(hb1.2 p hp).2 x hx;omega⟩
    have HBODY:Aside0 (∀ W:World,Below w.heap.size w W→Calls Tryz.prog 64 #[.agg #[.int .i64 1,.int .u8 priv,.slice A ps.length c,.string ⟨inter.toArray⟩,.int .u8 fin,.string ⟨#[]⟩]] W fun e w'=>e=.returned (.string ⟨(bodyT priv ps inter fin).toArray⟩)∧Below W.heap.size W w'):=⟨fun W hb=>body_calls 1 priv fin inter (.string ⟨#[]⟩) rfl A c ps W (Kd.C_below hr hb) hp1 (by omega) (by omega) (ht.below hb)⟩
    have HLEN:=Aside0.mk (show (Lib.join [[91],bodyT priv ps inter fin] []).length≤100000000000 by rw [join2,List.length_append];have:=bodyT_len priv ps inter fin (by omega) hp1;simp;omega)
    rw [hli] at HMAY
    rw [← hI0] at HMAY HBODY ⊢
    have HI0:=Aside0.mk hI0
    clear hs hr hl hp ht hin hli hb1 hp1 hI0
    go_enter Tryz.func27,Tryz.ntmps27
    go_wp2_with (first|(refine bx 1 #[.int .i64 1,.int .u8 priv,.slice A ps.length c,.string I0,.int .u8 fin,.string ⟨#[]⟩] 44 (h:=?_);intro gb hg w5 hbox hb;have BK:=Aside0.mk hbox;have HB:=Aside0.mk hb;have hlg:=blk_lt hbox;obtain ⟨q0,q1,q2,q3,q4,q5⟩:=cells6 hbox;clear hb hbox hg)|(go_at_call 62;refine (HMAY.out _ HB.out).mono ?_;rintro e W1 ⟨rfl,hb⟩;have BK_:=Aside0.mk (blk_below BK.out hb);have HB_:=Aside0.mk (below_step HB.out hb);clear BK HB q0 q1 q2 q3 q4 q5 hlg;have BK:=BK_;have HB:=HB_;clear BK_ HB_ hb;have hlg:=blk_lt BK.out;obtain ⟨q0,q1,q2,q3,q4,q5⟩:=cells6 BK.out)|(go_at_call 64;refine (HBODY.out _ HB.out).mono ?_;rintro e W1 ⟨rfl,hb⟩;have BK_:=Aside0.mk (blk_below BK.out hb);have HB_:=Aside0.mk (below_step HB.out hb);clear BK HB q0 q1 q2 q3 q4 q5 hlg;have BK:=BK_;have HB:=HB_;clear BK_ HB_ hb;have hlg:=blk_lt BK.out;obtain ⟨q0,q1,q2,q3,q4,q5⟩:=cells6 BK.out)|((with_reducible refine gate_dst (N:=16) rfl ?_);refine Kd.R_lit kstr (w0:=w) w.heap.size 9 ?hg (N:=16) ?hd (xs:=([⟨#[91]⟩,⟨(bodyT priv ps inter fin).toArray⟩]:List ByteArray)) (inner:=[.string ⟨#[91]⟩,.string ⟨(bodyT priv ps inter fin).toArray⟩]) (ok:=fun k=>w.heap.size≤k) (okp:=fun _=>False) ?hr ?hp (fun _ hk=>hk.elim) (below_size HB.out) HB.out (below_size HB.out) (by simp) ?_;(case hd=>rfl);(case hg=>rfl);(case hr=>first|(go_simp;done)|(go_simp;rfl));(case hp=>exact Reps.one (show Kd.M kstr _ _ _ _ [.string ⟨#[91]⟩] from rfl) (Reps.one (show Kd.M kstr _ _ _ _ [.string ⟨(bodyT priv ps inter fin).toArray⟩] from rfl) (Reps.none _ _)));intro v2 W2 ho hb hg hat;obtain ⟨A2,c2,rfl⟩:=Kd.R_slice ho;have HO2:=Aside0.mk ho;have HB_:=Aside0.mk hb;clear HB BK q0 q1 q2 q3 q4 q5 hlg;have HB:=HB_;clear HB_ ho hb hg hat)|(go_at_call 63;refine (glue_calls A2 _ c2 _ [[91],bodyT priv ps inter fin] _ _ _ HO2.out (by simp) (by simp) HLEN.out).mono ?_;rintro e W3 ⟨⟨v3,rfl,ho⟩,hb⟩;have HO3:=Aside0.mk ho;have HB_:=Aside0.mk (below_step HB.out hb);have HZ:=Aside0.mk (below_size HB.out);clear HB;have HB:=HB_;clear HB_ ho hb))
    go_ret2
    exact ⟨⟨_,rfl,HO3.out.low HZ.out⟩,HB.out⟩
  | false =>
    rw [hli] at HMAY
    rw [← hI0] at HMAY ⊢
    clear hs hr hl hp ht hin hli hI0
    go_enter Tryz.func27,Tryz.ntmps27
    go_wp2_with (first|(refine bx 1 #[.int .i64 1,.int .u8 priv,.slice A ps.length c,.string I0,.int .u8 fin,.string ⟨#[]⟩] 44 (h:=?_);intro gb hg w5 hbox hb;have BK:=Aside0.mk hbox;have HB:=Aside0.mk hb;have hlg:=blk_lt hbox;obtain ⟨q0,q1,q2,q3,q4,q5⟩:=cells6 hbox;clear hb hbox hg)|(go_at_call 62;refine (HMAY.out _ HB.out).mono ?_;rintro e W1 ⟨rfl,hb⟩;have BK_:=Aside0.mk (blk_below BK.out hb);have HB_:=Aside0.mk (below_step HB.out hb);clear BK HB q0 q1 q2 q3 q4 q5 hlg;have BK:=BK_;have HB:=HB_;clear BK_ HB_ hb;have hlg:=blk_lt BK.out;obtain ⟨q0,q1,q2,q3,q4,q5⟩:=cells6 BK.out))
    go_ret2
    exact ⟨rfl,HB.out⟩
end Go.Proofs.YthjacokachgmfaaGreatDoor.H
end
section
namespace Go.Proofs.YthjacokachgmfaaGreatDoor.H
open Go Go.RowKit Go.Shelf YthjacokachgmfaaGreatDoorW.PrintWords YthjacokachgmfaaGreatDoorW.PrintLast YthjacokachgmfaaGreatDoorW.PrintMore
open Ev SeqK
attribute [local go_sem] Oper.semAt_some
theorem strNe {l:List Int} (h:1≤l.length):(strOfNums l).toList.isEmpty=false:=by
  rw [ByteArray.toList_eq,strOfNums_data]
  cases l with
  | nil=>simp at h
  | cons a l=>rfl
def TellS (w0 w:World) (p gs g1:Nat) (PO SK:Nat→Prop) (pc:Array Value) (priv fin:Int) (inter:ByteArray) (ov:Value) (outs:List S44) (n:Int):Nat→World→Prop
  | 0,W=>W.heap[p]?=some (.cells pc 117 (0,0))∧W.heap[gs]?=some (.cells #[.int .i64 1,.int .u8 priv,.slice none 0 0,.string inter,.int .u8 fin,.string ⟨#[]⟩] 44 (0,0))∧(∃ u,W.heap[g1]?=some (.cells #[u] 9 (0,0)))∧k44.R 44 W w0.heap.size (fun k=>PO k∧k < w.heap.size) ov outs∧Below w0.heap.size w0 W∧Kept w W SK
  | _+1,W=>∃ A c,W.heap[p]?=some (.cells pc 117 (0,0))∧W.heap[gs]?=some (.cells #[.int .i64 1,.int .u8 priv,.slice A 1 c,.string inter,.int .u8 fin,.string ⟨#[]⟩] 44 (0,0))∧kli.R 66 W w0.heap.size (fun k=>w.heap.size≤k∧k≠g1) (.slice A 1 c) [[n]]∧k44.R 44 W w0.heap.size (fun k=>PO k∧k < w.heap.size) ov outs∧Below w0.heap.size w0 W∧Kept w W SK
theorem TellS_stb (w0 w:World) (D p gs g1:Nat) (PO SK:Nat→Prop) (pc:Array Value) (priv fin:Int) (inter:ByteArray) (ov:Value) (outs:List S44) (n:Int) (h0:w0.heap.size≤w.heap.size) (hD:w.heap.size≤D) (h1:w.heap.size≤g1) (np:p≠g1) (ns:gs≠g1):∀ k,Stb D g1 (TellS w0 w p gs g1 PO SK pc priv fin inter ov outs n k)
  | 0=>(Stb.blk p _ _ np).and ((Stb.blk gs _ _ ns).and ((Stb.box _).and ((Stb.R _ _ _ _ _ _ (fun k hk=>by have:=hk.2;omega)).and ((Stb.below w0 (Nat.le_trans h0 hD) (Nat.le_trans h0 h1)).and (Stb.kept w SK hD h1)))))
  | _+1=>Stb.ex fun A=>Stb.ex fun c=>(Stb.blk p _ _ np).and ((Stb.blk gs _ _ ns).and ((Stb.R _ _ _ _ _ _ (fun k hk=>hk.2)).and ((Stb.R _ _ _ _ _ _ (fun k hk=>by have:=hk.2;omega)).and ((Stb.below w0 (Nat.le_trans h0 hD) (Nat.le_trans h0 h1)).and (Stb.kept w SK hD h1)))))
theorem numsS_str {l:List Int} (h:∀ c∈l,0≤c∧c≤255):numsS (strOfNums l)=l:=by
  unfold numsS
  rw [strOfNums_data,List.map_map]
  calc l.map _=l.map id:=List.map_congr_left (fun c hc=>by
        have:=h c hc
        show ((UInt8.ofNat c.toNat).toNat:Int)=c
        rw [UInt8.toNat_ofNat']
        omega)
    _=l:=List.map_id l
theorem noIdx:∀ (l:List UInt8) (c:UInt8),(∀ x∈l,x≠c)→Lib.indexByte l c=-1
  | [],_,_=>rfl
  | b :: l,c,h=>by
    have hb:(b == c)=false:=beq_eq_false_iff_ne.2 (h b List.mem_cons_self)
    have hl:=noIdx l c (fun x hx=>h x (List.mem_cons_of_mem _ hx))
    simp [Lib.indexByte,hb,hl]
theorem noIdx_str {l:List Int} {c:UInt8} (h:∀ x∈l,48≤x∧x≤57) (hc:58≤c.toNat):Lib.indexByte (strOfNums l).data.toList c < 0:=by
  rw [strOfNums_data,noIdx _ _ (fun x hx=>by
    obtain ⟨n,hn,rfl⟩:=List.mem_map.1 hx
    have:=h n hn
    intro e
    have e2:(UInt8.ofNat n.toNat).toNat=c.toNat:=by rw [e]
    rw [UInt8.toNat_ofNat'] at e2
    omega)]
  decide
theorem cap1 (t e:Nat):(Question.appendCap 1 0 e).cut t≤maxLen∧(Builtin.zeroCells #[.slice none 0 0] ((Question.appendCap 1 0 e).cut t - 1)).size+1=(Question.appendCap 1 0 e).cut t:=by
  have h:(Question.appendCap 1 0 e).cut t=1+t % (2 ^ 63 - 1):=rfl
  rw [h,size_zeroCells]
  have:=Nat.mod_lt t (show 2 ^ 63 - 1 > 0 by decide)
  simp only [maxLen]
  constructor
  · omega
  · show (1+t % (2 ^ 63 - 1) - 1) * 1+1=_
    omega
theorem kli_one {Wx:World} {base:Nat} {A5:Option Addr} {c5:Nat} {n:Int} {ok:Nat→Prop} (hr:(Kd.int .i64).R 3 Wx base ok (.slice A5 1 c5) [n]) (hb:base≤Wx.heap.size) (hf:∀ k,Wx.heap.size≤k→ok k) (cap:Nat) (Z:Array Value) (hc:cap≤maxLen) (hZ:Z.size+1=cap) (o:Obj) :
    kli.R 66 ((Wx.alloc o).alloc (.cells (#[.slice A5 1 c5]++Z) 66 (0,0))) base ok (.slice (some ⟨Wx.heap.size+1,0,none⟩) 1 cap) [[n]]:=by
  have hz:(Wx.alloc o).heap.size=Wx.heap.size+1:=World.size_alloc _ _
  refine Kd.R_appended (d:=kli) (W:=Wx) (v:=.slice none 0 0) (xs:=[]) (p:=[n]) (inner:=[]) (cs:=[.slice A5 1 c5]) (okp:=ok) (fun k h=>by simp [Value.ownBlock] at h) (Reps.none _ _) ⟨_,rfl,hr⟩ (fun k hk=>⟨hk,by simp [Value.ownBlock]⟩) hf ?_ (grown_of_below1 (below_alloc (below_alloc (Below.refl _ _) _) _)) (.inr ⟨_,rfl,Nat.le_succ _⟩)
  refine ⟨rfl,.inr ⟨Wx.heap.size+1,cap,#[.slice A5 1 c5]++Z,rfl,by omega,?_,by show 0+1≤cap;omega,hc,?_,?_⟩⟩
  · have h:=blk_new (Wx.alloc o) (.cells (#[.slice A5 1 c5]++Z) 66 (0,0))
    rwa [hz] at h
  · show (#[Value.slice A5 1 c5]++Z).size=cap * 1
    rw [Array.size_append,Nat.mul_one,← hZ,Nat.add_comm]
    rfl
  · show (#[Value.slice A5 1 c5]++Z).toList.take (1 * 1)=_
    simp
theorem tell_one {w0 w W W5:World} {D p gs g1:Nat} {PO SK:Nat→Prop} {pc:Array Value} {priv fin:Int} {inter:ByteArray} {ov:Value} {outs:List S44} {n:Int} {A5:Option Addr} {c5 cap:Nat} {Z:Array Value}
    (hS:TellS w0 w p gs g1 PO SK pc priv fin inter ov outs n 0 W) (hb5:Below W.heap.size W W5) (hr5:(Kd.int .i64).R 3 W5 W.heap.size (fun _=>True) (.slice A5 1 c5) [n]) (hgs:w.heap.size≤gs) (hw0:w0.heap.size≤w.heap.size) (hc:cap≤maxLen) (hZ:Z.size+1=cap) (hpc:∀ (b:World),True) :
    KeepsFrom D W ((((W5.setCell ⟨gs,2,none⟩ (.slice (some ⟨W5.heap.size+1,0,none⟩) 1 cap)).alloc (.cells #[.slice A5 1 c5] 66 (0,0))).alloc (.cells (#[.slice A5 1 c5]++Z) 66 (0,0))).drew) ∧
    Keeps w.heap.size g1 W ((((W5.setCell ⟨gs,2,none⟩ (.slice (some ⟨W5.heap.size+1,0,none⟩) 1 cap)).alloc (.cells #[.slice A5 1 c5] 66 (0,0))).alloc (.cells (#[.slice A5 1 c5]++Z) 66 (0,0))).drew) ∧
    TellS w0 w p gs g1 PO SK pc priv fin inter ov outs n 1 ((((W5.setCell ⟨gs,2,none⟩ (.slice (some ⟨W5.heap.size+1,0,none⟩) 1 cap)).alloc (.cells #[.slice A5 1 c5] 66 (0,0))).alloc (.cells (#[.slice A5 1 c5]++Z) 66 (0,0))).drew):=by
  obtain ⟨hp,hs,⟨u1,hu1⟩,hO,hB,hK⟩:=hS
  have hp5:=blk_below hp hb5
  have hs5:=blk_below hs hb5
  have hu5:=blk_below hu1 hb5
  have np:=blk_ne hp5 hs5 (by decide)
  have n1:=blk_ne hu5 hs5 (by decide)
  have hwW:w.heap.size≤W.heap.size:=hK.1
  have hg1:=blk_lt hu1
  have hK5:=hK.below hb5
  have hB5:=below_step hB hb5
  generalize hX:W5.setCell ⟨gs,2,none⟩ (.slice (some ⟨W5.heap.size+1,0,none⟩) 1 cap)=X
  have hXs:X.heap.size=W5.heap.size:=by rw [← hX];simp [World.setCell]
  have hup:Below X.heap.size X ((X.alloc (.cells #[.slice A5 1 c5] 66 (0,0))).alloc (.cells (#[.slice A5 1 c5]++Z) 66 (0,0))):=below_alloc (below_alloc (Below.refl _ _) _) _
  have hupd:=below_drew1 hup
  have hpX:X.heap[p]?=_:=hX ▸ blk_far hp5 (p:=⟨gs,2,none⟩) np _
  have hsX:X.heap[gs]?=_:=hX ▸ blk_set hs5 2 _
  have hoX:k44.R 44 X w0.heap.size (fun k=>PO k∧k < w.heap.size) ov outs:=hX ▸ Kd.R_far (p:=⟨gs,2,none⟩) (Kd.R_below hO hb5) (fun k hk e=>by have e2:k=gs:=e;have:=hk.2;omega) _
  have hBX:Below w0.heap.size w0 X:=hX ▸ below_set hB5 (Nat.le_trans hw0 hgs)
  have hKX:Kept w X SK:=hX ▸ Kept.setCell hK5 (.inr hgs) _
  have hkW:Keeps w.heap.size g1 W X:=hX ▸ keeps_set (keeps_below hb5 hwW hg1) hgs n1
  have hfW:KeepsFrom D W X:=hX ▸ (keepsFrom_below hb5).trans ((KeepsOthers.setCell _ _ _).from _)
  have hrX:(Kd.int .i64).R 3 X w0.heap.size (fun k=>w.heap.size≤k∧k≠g1) (.slice A5 1 c5) [n]:=by
    have h1:=Kd.R_lower (Kd.R_mono (ok':=fun k=>w.heap.size≤k∧k≠g1) (Kd.R_bound hr5) (fun k hk=>by have:=hk.2.1;omega)) (Nat.le_trans hw0 hwW)
    exact hX ▸ Kd.R_set h1 hs5 (by decide) 2 _
  have hk1:=kli_one hrX (by rw [hXs];exact Nat.le_trans (Nat.le_trans hw0 hwW) hb5.size) (fun k hk=>by have:=hb5.size;omega) cap Z hc hZ (.cells #[.slice A5 1 c5] 66 (0,0))
  rw [hXs] at hk1
  refine ⟨hfW.trans (keepsFrom_below hupd),hkW.trans (keeps_below hupd (by have:=hb5.size;omega) (by have:=hb5.size;omega)),_,_,blk_below hpX hupd,?_,Kd.R_drew hk1,Kd.R_below hoX hupd,below_step hBX hupd,hKX.below hupd⟩
  exact blk_below hsX hupd
theorem listed_one {n:Int} (h:0≤n∧n≤65535):listedT [[n]]=true:=by
  have h1:(n == -1)=false:=beq_eq_false_iff_ne.2 (by omega)
  have h2:oddN n=false:=by
    unfold oddN
    simp only [Bool.or_eq_false_iff,decide_eq_false_iff_not]
    omega
  simp [listedT,oneOk,rdL,h1,h2]
theorem may_one (priv fin n:Int) (inter:List UInt8) (I:ByteArray) (hI:I=⟨inter.toArray⟩) (A:Option Addr) (c:Nat) (w:World) (hs:Plain 1 priv fin inter []) (hn:0≤n∧n≤65535) (hr:Kd.C kli w A 1 [[n]]) :
    Calls Tryz.prog 62 #[.agg #[.int .i64 1,.int .u8 priv,.slice A 1 c,.string I,.int .u8 fin,.string ⟨#[]⟩]] w fun e w'=>e=.returned (.int .i64 0)∧Below w.heap.size w w':=by
  subst hI
  have h:=may_calls 1 priv fin inter [] A [[n]] c w hs hr (by simp) (by simp)
  rw [listed_one hn] at h
  exact h
theorem infoSeq:(Tryz.prog.info? 44).map (fun i=>(i.zero,i.size,i.bytes))=some (some (.agg #[.int .i64 0,.int .u8 0,.slice none 0 0,.string ⟨#[]⟩,.int .u8 0,.string ⟨#[]⟩]),6,80):=by kernel_rfl
theorem append_seq {w0 W:World} {PO:Nat→Prop} {n0:Nat} {ov:Value} {outs:List S44} {x:S44} {cs:List Value} {okp:Nat→Prop} {ops:Array Oper} {o:Oper} {a:Act} {Q:Exit→Act→World→Prop} {Kc:Act→World→Prop} {E:Prop} (hgd:o.guard=none) (s z:Operand)
    (hO:o.op=.call { callee:=.builtin .append,args:=#[s,z],argTypes:=#[115,115] }) (hs:a.eval s=ov) (hz:a.eval z=.slice (some ⟨W.heap.size,0,none⟩) 1 1)
    (hM:k44.M W w0.heap.size okp x cs) (hp:∀ k,okp k→n0≤k) (HO:k44.R 44 W w0.heap.size (fun k=>PO k∧k < n0) ov outs) (HB:Below w0.heap.size w0 W) (hn:n0≤W.heap.size) (hl:outs.length≤1000)
    (hK:∀ v1 w1,k44.R 44 w1 w0.heap.size (fun k=>PO k∨n0≤k) v1 (outs++[x])→Below w0.heap.size w0 w1→W.grownBy w1 ov.ownBlock→Kc (a.put o.dst v1) w1) :
    if Region.wanted o (yielded ops a.tmps)=true then Oper.wp Tryz.prog o a (W.alloc (.cells cs.toArray 44)).drew Kc Q else E:=by
  have hw:Region.wanted o (yielded ops a.tmps)=true:=by simp [Region.wanted,hgd]
  have hM':k44.M W.drew w0.heap.size okp x cs:=Kd.M_below hM (below_drew1 (Below.refl _ _))
  have hR:=Kd.R_append_step (P:=Tryz.prog) (Q:=Q) (Kc:=Kc) (ops:=ops) (o:=o) (a:=a) k44 (w0:=w0) (W:=W.drew) w0.heap.size hw s z 115 44 _ 80 hO Tryz.underlying115 infoSeq rfl (by decide) (by decide) ov outs x cs (fun k=>PO k∨n0≤k) okp hs hz hM'
    (fun k hk=>⟨.inr (hp k hk),fun e=>by have h1:=(HO.1 k e.symm).2;have h2:=hp k hk;omega⟩) (fun k hk=>.inr (Nat.le_trans hn hk)) (Kd.R_mono (Kd.R_drew HO) (fun k hk=>.inl hk.1)) (below_drew1 HB) (below_size (below_drew1 HB)) (by omega) ?_
  · rw [if_pos hw] at hR ⊢
    exact hR
  intro v1 w1 hr hb hg hat
  exact hK v1 w1 hr hb ⟨hg.os,hg.tape,hg.output,hg.size,hg.block⟩
section
variable {w0 w W:World} {D:Nat} {q:Option (List Deferred)} {o:Obj}
theorem blk_putD {g:Nat} {cs:Array Value} {t:TypeId} (h:W.heap[g]?=some (.cells cs t (0,0))) (hD:W.heap[D]?=some (.deferred q)):(W.putObj D o).heap[g]?=some (.cells cs t (0,0)) :=
  blk_grown h (grownBy_putObj' W D o) (fun e=>by
    injection e with e
    subst e
    rw [hD] at h
    cases h)
theorem R_putD {α:Type} {d:Kd α} {e base:Nat} {ok:Nat→Prop} {v:Value} {xs:List α} (h:d.R e W base ok v xs) (hD:W.heap[D]?=some (.deferred q)):d.R e (W.putObj D o) base ok v xs :=
  Kd.R_mono (Kd.R_grown (Kd.R_bound h) (grownBy_putObj' W D o) (fun k hk er=>by
    obtain ⟨_,_,_,t,_,cells,hc⟩:=hk
    injection er with er
    subst er
    rw [hD] at hc
    cases hc)) (fun _ h=>h.1)
theorem below_putD (h:Below w0.heap.size w0 W) (hD:w0.heap.size≤D):Below w0.heap.size w0 (W.putObj D o):=h.grown (grownBy_putObj' W D o) h.size (fun k e=>by cases e;exact hD)
theorem kept_putD {S:Nat→Prop} (h:Kept w W S) (hD:w.heap.size≤D):Kept w (W.putObj D o) S:=Kept.of_grown (grownBy_putObj' W D o) h (fun k e=>by cases e;exact .inr hD)
end
end Go.Proofs.YthjacokachgmfaaGreatDoor.H
end
