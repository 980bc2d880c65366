import Derived.Test.YthjacokachgmfaaGreatDoorT04
import Derived.Test.YthjacokachgmfaaGreatDoorT05
import Derived.Test.YthjacokachgmfaaGreatDoorT06
import Derived.Test.YthjacokachgmfaaGreatDoorT07
import Derived.Test.YthjacokachgmfaaGreatDoorT10
import Derived.Test.YthjacokachgmfaaGreatDoorT14
import Derived.Test.YthjacokachgmfaaGreatDoorT19
set_option linter.unusedVariables false
set_option linter.unusedSimpArgs false
section
namespace Go.Proofs.YthjacokachgmfaaGreatDoor.H
open Go Go.RowKit Go.Shelf YthjacokachgmfaaGreatDoorW.PrintWords YthjacokachgmfaaGreatDoorW.PrintLast YthjacokachgmfaaGreatDoorW.PrintMore
open Ev YthjacokachgmfaaGreatDoor.Pure
attribute [local go_sem] Oper.semAt_some
def seen (x:Int):Prop:=x=27∨32≤x∧x < 127
theorem pclean_calls (x:Int) (h:seen x) (w:World):Calls Tryz.prog 197 #[.int .i64 x] w fun e w'=>e=.returned (.bool (decide (32≤x)))∧Below w.heap.size w w':=by
  rcases h with rfl | ⟨h1,h2⟩
  · go_enter Tryz.func197,Tryz.ntmps197
    go_wp2
    all_goals go_ret
    exact ⟨rfl,Below.refl _ _⟩
  · have e9:(x == 9)=false:=beq_eq_false_iff_ne.2 (by omega)
    have e10:(x == 10)=false:=beq_eq_false_iff_ne.2 (by omega)
    have e13:(x == 13)=false:=beq_eq_false_iff_ne.2 (by omega)
    have e32:decide (32≤x)=true:=decide_eq_true h1
    have e127:decide (x < 127)=true:=decide_eq_true h2
    rw [e32]
    go_enter Tryz.func197,Tryz.ntmps197
    go_wp2
    all_goals go_ret
    exact ⟨rfl,Below.refl _ _⟩
theorem ppoints_calls (A:Option Addr) (n c:Nat) (w:World):Calls Tryz.prog 144 #[.slice A n c] w fun e w'=>∃ g:Nat,e=.returned (.func (.func 196) #[] #[.pointer (some ⟨g,0,none⟩)])∧w'.heap[g]?=some (.cells #[.slice A n c] 22 (0,0))∧w.heap.size≤g∧Below w.heap.size w w':=by
  go_enter Tryz.func144,Tryz.ntmps144
  go_wp2
  go_ret
  exact ⟨_,rfl,blk_new w _,Nat.le_refl _,below_alloc (Below.refl _ _) _⟩
def ppts (A:Option Addr) (c:Nat):List Int→List (Value × Bool)
  | []=>[]
  | x :: r=>(.slice A 1 c,decide (32≤x)) :: ppts (if c=1 then A else A.map (·.add 1)) (c - 1) r
@[reducible] def encV (x:Value × Bool):Array Value:=#[x.1,.bool x.2]
theorem ppts_at {w:World}:∀ {l:List Int} {A:Option Addr} {c:Nat},Kd.C (Kd.int .u8) w A l.length l→l.length≤c→∀ {k:Nat} {x:Value × Bool},(ppts A c l)[k]?=some x→∃ A' c' y,x.1=.slice A' 1 c'∧l[k]?=some y∧x.2=decide (32≤y)∧Kd.C (Kd.int .u8) w A' 1 [y]∧1≤c'
  | [],A,c,_,_,k,x,h=>by simp [ppts] at h
  | y :: r,A,c,hC,hc,k,x,h=>by
    cases k with
    | zero =>
      simp only [ppts,List.getElem?_cons_zero,Option.some.injEq] at h
      subst h
      have:=Kd.C_take hC (m:=1) (by simp)
      exact ⟨A,c,y,rfl,rfl,rfl,by simpa using this,by simp at hc;omega⟩
    | succ k =>
      simp only [ppts,List.getElem?_cons_succ] at h ⊢
      have h2:=Kd.C_drop hC (m:=1) (c:=c) (by simp) hc
      exact ppts_at (l:=r) (by simpa [show Kd.sz (Kd.int .u8)=1 from rfl] using h2) (by simp at hc;omega) h
theorem ppts_len:∀ (l:List Int) (A:Option Addr) (c:Nat),(ppts A c l).length=l.length
  | [],_,_=>rfl
  | _ :: r,_,_=>by simp [ppts,ppts_len r]
theorem take_seen {x:Int} {r:List Int} (h:∀ z∈x :: r,seen z):takeC (x :: r)=(x,1):=by
  have hx:x < 128:=by rcases h x (by simp) with h | h<;>omega
  rw [takeC_S _ (fun z hz=>by rcases h z hz with h | h<;>omega)]
  exact takeS_1 hx
theorem yield_two {e:Ending} {A B:Prop} (h:(e=.returned (.bool true)∧A)∨(e=.returned (.bool false)∧B)):∃ bq:Bool,e=.returned (.bool bq)∧Aside0 ((bq=true∧A)∨(bq=false∧B)):=by
  rcases h with ⟨rfl,h⟩ | ⟨rfl,h⟩
  · exact ⟨true,rfl,⟨.inl ⟨rfl,h⟩⟩⟩
  · exact ⟨false,rfl,⟨.inr ⟨rfl,h⟩⟩⟩
set_option maxRecDepth 100000 in
set_option maxHeartbeats 4000000 in
theorem ppoints_seq (w:World) (n:Nat) (hn:3≤n) (b:Nat) (A0:Option Addr) (c0:Nat) (l0:List Int) (hr0:Kd.C (Kd.int .u8) w A0 l0.length l0) (hc0:l0.length≤c0) (hs:∀ z∈l0,seen z) (hb:w.heap.size≤b) (W:World) (hW:Below w.heap.size w W)
    (hcell:W.heap[b]?=some (.cells #[.slice A0 l0.length c0] 22 (0,0))):SeqCell b w.heap.size Fence.wide n Tryz.prog 196 #[.pointer (some ⟨b,0,none⟩)] encV (ppts A0 c0 l0) W:=by
  intro l J Jx hJ hJx hJb hJxb hY h0
  refine callsIn_of_wp Tryz.func196 rfl trivial ?_ rfl
  simp only [Tryz.ntmps196,List.size_toArray,List.length_cons,List.length_nil,Nat.reduceAdd,Nat.reduceSub,Array.replicate_succ,Array.replicate_zero,List.push_toArray,List.append_toArray,List.nil_append,List.cons_append]
  gi_wp2
  gi_loopw [3] (fun v3 wr=>∃ (m:Nat) (pre:List (Value × Bool)) (A:Option Addr) (c:Nat),m≤l0.length∧Aside0 (ppts A0 c0 l0=pre++ppts A c (l0.drop m))∧Aside0 (wr.heap[b]?=some (.cells #[.slice A (l0.drop m).length c] 22 (0,0)))∧Aside0 (Kd.C (Kd.int .u8) w A (l0.drop m).length (l0.drop m)∧(l0.drop m).length≤c)∧Aside0 (J pre wr)∧Aside0 (Below w.heap.size w wr)) (fun _ wr=>leftAt b wr)
  case atStart=>exact ⟨0,[],A0,c0,Nat.zero_le _,⟨rfl⟩,⟨hcell⟩,⟨hr0,hc0⟩,⟨h0⟩,⟨hW⟩⟩
  case round =>
    obtain ⟨m,pre,A,c,hm,HP,HC,HR,HJ,HB⟩:=hrel
    have hcz:=(blk_cell HC.out 0).trans rfl
    have hfz:=blk_frozen HC.out 0
    have hlt:=blk_lt HC.out
    have hsL:∀ z∈l0.drop m,seen z:=fun z hz=>hs z (List.mem_of_mem_drop hz)
    cases hL:l0.drop m with
    | nil =>
      have hall:ppts A0 c0 l0=pre:=by rw [HP.out,hL,ppts,List.append_nil]
      have Hall:=Aside0.mk hall
      rw [hL] at hcz
      clear hall
      gi_wp2
      go_end0
      exact ⟨⟨_,rfl⟩,.inl (by rw [Hall.out];exact HJ.out)⟩
    | cons x r =>
      rw [hL] at HC HR HP hcz hsL
      have HT:=Aside0.mk (show utf_Take.f (x :: r)=some (x,1) by rw [utf_Take.f,take_seen hsL])
      have HX:=Aside0.mk (hsL x (by simp))
      have hml:m+1≤l0.length:=by
        have:=congrArg List.length hL
        rw [List.length_drop,List.length_cons] at this
        omega
      have hdr:l0.drop (m+1)=r:=by rw [← List.drop_drop,hL];rfl
      obtain ⟨i0,hi0,_,hsz,_⟩:=info_parts info5
      have hcut1:=cut_to (P:=Tryz.prog) 22 5 .i64 Tryz.underlying22 hi0 A (x :: r).length c 1 (by omega) (by rw [List.length_cons];omega) HR.out.2
      have hcut2:=cut_from (P:=Tryz.prog) 22 5 .i64 Tryz.underlying22 hi0 1 hsz A (x :: r).length c 1 (by omega) (by rw [List.length_cons];omega)
      have hCd:=Kd.C_drop (m:=1) (c:=c) HR.out.1 (by simp) HR.out.2
      have HN:=Aside0.mk (show ppts A0 c0 l0=(pre++[(.slice A 1 c,decide (32≤x))])++ppts (if c=1 then A else A.map (·.add 1)) (c - 1) r by rw [HP.out,ppts];simp)
      simp only [Int.toNat_one,Nat.one_mul,show Kd.sz (Kd.int .u8)=1 from rfl,List.drop_succ_cons,List.drop_zero,show (x :: r).length - 1=r.length by simp] at hcut1 hcut2 hCd
      obtain ⟨A',hA'⟩:∃ A',(if c=1 then A else A.map (·.add 1))=A':=⟨_,rfl⟩
      rw [hA'] at hcut2 hCd HN
      have HCd:=Aside0.mk hCd
      have HRL:=Aside0.mk (show r.length≤c - 1 by have:=HR.out.2;simp at this;omega)
      obtain ⟨c',hc'⟩:∃ c',c - 1=c':=⟨_,rfl⟩
      rw [hc'] at hcut2 HN HRL
      have HD:=Aside0.mk hdr
      have HM:=Aside0.mk hml
      obtain ⟨fl,hfl⟩:∃ fl,decide (32≤x)=fl:=⟨_,rfl⟩
      rw [hfl] at HN
      have HFL:=Aside0.mk hfl
      have HCL:=Aside0.mk (fun W=>pclean_calls x HX.out W)
      rw [hfl] at HCL
      obtain ⟨Lx,hLx⟩:∃ Lx,x :: r=Lx:=⟨_,rfl⟩
      have hpl:decide (0 < Lx.length)=true:=by rw [← hLx];simp
      rw [hLx] at hcz hcut1 hcut2 HC HR HT
      have HLx:=Aside0.mk hLx
      clear hCd hA' hc' hdr hml hfl hLx hi0 hsz hL hsL hm HP
      gi_wp2
      refine ⟨trivial,fun _=>by omega,?_⟩
      refine (callsIn_wide.2 (utf_Take.calls A c Lx x 1 _ (Kd.C_below HR.out.1 HB.out) HR.out.2 HT.out)).mono ?_
      rintro e w1 ⟨rfl,hb1⟩
      have HB1:=Aside0.mk (below_step HB.out hb1)
      have HC1:=Aside0.mk (blk_below HC.out hb1)
      have hcz1:=(blk_cell HC1.out 0).trans rfl
      have Hb1:=Aside0.mk hb1
      clear hcz hfz hlt hb1
      gi_wp2
      gi_region_with (first|(refine ⟨trivial,fun _=>by omega,?_⟩;refine (callsIn_wide.2 (HCL.out w1.drew)).mono ?_;rintro e w2 ⟨rfl,hb2⟩;have HJ2:=Aside0.mk (hJ pre wr w2 none HJ.out (grown_of_below1 (below_step (below_drew1 Hb1.out) hb2)) (fun _ e=>by cases e));have HB2:=Aside0.mk (below_step (below_drew1 HB1.out) hb2);have HC2:=Aside0.mk (blk_below (blk_drew HC1.out) hb2);have hcz2:=(blk_cell HC2.out 0).trans rfl;obtain ⟨fn,tmps,assign,body,hy,hR⟩:=hY pre (.slice A 1 c,fl) w2 HJ2.out (by rw [HN.out];exact List.prefix_append _ _);dsimp only [encV] at hy;clear hb2)|(refine ⟨fun _=>by omega,hR.mono ?_⟩;intro e W3 h3;obtain ⟨bq,rfl,h4⟩:=yield_two h3;clear h3 hR))
      all_goals
        obtain ⟨rfl,hJ3,hk3⟩ | ⟨rfl,hx3⟩:=h4.out
        · have HC3:=Aside0.mk (hk3.cell.trans HC2.out)
          have HB3:=Aside0.mk (HB2.out.trans hk3.low)
          have hcz3:=(blk_cell HC3.out 0).trans rfl
          have hfz3:=blk_frozen HC3.out 0
          have hlt3:=blk_lt HC3.out
          gi_wp2
          have hB:=blk_put (cs:=#[.slice A Lx.length c]) HC3.out 0 (.slice A' r.length c') rfl
          refine ⟨⟨m+1,pre++[(.slice A 1 c,fl)],A',c',HM.out,⟨by rw [HD.out];exact HN.out⟩,⟨by rw [HD.out];exact hB⟩,⟨by rw [HD.out];exact HCd.out,by rw [HD.out];exact HRL.out⟩,⟨hJb _ _ _ hJ3⟩,⟨below_set HB3.out hb⟩⟩,?_⟩
          rw [leftAt_of hB,leftAt_of HC.out,← HLx.out]
          simp
        · gi_wp2
          refine bodyPost_ret (results_none rfl _ _ _) rfl ?_
          exact ⟨⟨_,rfl⟩,.inr ⟨pre++[(.slice A 1 c,fl)],by rw [HN.out];exact List.prefix_append _ _,hx3⟩⟩
end Go.Proofs.YthjacokachgmfaaGreatDoor.H
end
section
namespace Go.Proofs.YthjacokachgmfaaGreatDoor.H
open Go Go.RowKit Go.Shelf YthjacokachgmfaaGreatDoorW.PrintWords YthjacokachgmfaaGreatDoorW.PrintLast YthjacokachgmfaaGreatDoorW.PrintMore
open Ev
attribute [local go_sem] Oper.semAt_some
theorem listIn_of_step {P:Program} {ops:Array Oper} {Q:Exit→Act→World→Prop} {l n:Nat} {o:Oper} {rest:List Oper} {a:Act} {w:World} (hg:o.guard=none) (hd:∀ c,o.op≠.defer c)
    (h:∀ Kc:Act→World→Prop,(∀ a' w',wpListIn (Fence.wide.inRound l) n P ops Q rest a' w'→Kc a' w')→if Region.wanted o (yielded ops a.tmps)=true then Oper.wp P o a w Kc Q else Kc (a.put o.dst undef) w):wpListIn (Fence.wide.inRound l) n P ops Q (o :: rest) a w:=by
  refine wpListIn_plain hg fun K hK=>?_
  have h1:=h K hK
  rw [if_pos (by simp [Region.wanted,hg])] at h1
  exact oper_inRound hd (fun _ _ h=>h) h1
section
variable {α:Type} {d:Kd α} {e base:Nat} {ok:Nat→Prop} {v:Value} {xs:List α} {W W2:World}
theorem keepsFrom_own {D:Nat} (h:d.R e W base ok v xs) (hg:W.grownBy W2 v.ownBlock):KeepsFrom D W W2 :=
  ⟨hg.size,fun k o _ hk hc=>(hg.block k (blk_lt hk) (fun he=>by
    obtain ⟨_,_,_,q,_,cells,hcl⟩:=(Kd.R_bound h).1 k he.symm
    rw [hcl] at hk
    cases hk
    cases hc)).trans hk⟩
theorem keeps_own {n₀ b:Nat} (h:d.R e W base ok v xs) (hg:W.grownBy W2 v.ownBlock) (hok:∀ k,ok k→k≠b) (hn:n₀≤base) (hn2:n₀≤W.heap.size) (hb:b < W.heap.size):Keeps n₀ b W W2 :=
  ⟨(Below.refl n₀ W).grown hg hn2 (fun k hk=>Nat.le_trans hn ((Kd.R_bound h).1 k hk).2.1),hg.block b hb (fun he=>hok b ((Kd.R_bound h).1 b he.symm).1 rfl)⟩
end
def clN (l:List Int):List Int:=l.filter (fun x=>decide (32≤x))
theorem clN_len (l:List Int):(clN l).length≤l.length:=List.length_filter_le _ _
theorem clN_on {l:List Int} {k:Nat} {y:Int} (h:l[k]?=some y) (hy:decide (32≤y)=true):clN (l.take (k+1))=clN (l.take k)++[y]:=by
  unfold clN
  rw [List.take_add_one,h,List.filter_append]
  simp [hy]
theorem clN_off {l:List Int} {k:Nat} {y:Int} (h:l[k]?=some y) (hy:decide (32≤y)=false):clN (l.take (k+1))=clN (l.take k):=by
  unfold clN
  rw [List.take_add_one,h,List.filter_append]
  simp [hy]
theorem Stb.size1 {D b:Nat} (N:Nat):Stb D b (fun W=>N≤W.heap.size) :=
  ⟨fun W W' row x hg _=>Nat.le_trans x hg.size,fun W v x=>by simpa [World.setCell] using x⟩
def PcS (w:World) (N b g3:Nat) (l:List Int) (k:Nat) (W:World):Prop :=
  ∃ v,W.heap[g3]?=some (.cells #[v] 22 (0,0))∧Kd.R (Kd.int .u8) 5 W w.heap.size (fun k=>k≠b) v (clN (l.take k))∧Below w.heap.size w W∧N≤W.heap.size
theorem PcS_stb (w:World) (D N b g3:Nat) (l:List Int) (hD:w.heap.size≤D) (hb:w.heap.size≤b) (hne:g3≠b) (k:Nat):Stb D b (PcS w N b g3 l k) :=
  Stb.ex fun v=>(Stb.blk g3 _ _ hne).and ((Stb.R _ _ _ _ _ _ (fun _ h=>h)).and ((Stb.below w hD hb).and (Stb.size1 N)))
set_option maxRecDepth 100000 in
set_option maxHeartbeats 4000000 in
theorem pcleanall_calls (A:Option Addr) (c:Nat) (l0:List Int) (w:World) (hr0:Kd.C (Kd.int .u8) w A l0.length l0) (hc0:l0.length≤c) (hs:∀ z∈l0,seen z) (hl:l0.length≤100000) :
    Calls Tryz.prog 105 #[.slice A l0.length c] w fun e w'=>∃ v,e=.returned v∧Kd.R (Kd.int .u8) 5 w' w.heap.size (fun _=>True) v (clN l0)∧Below w.heap.size w w':=by
  have HC:=Aside0.mk hr0
  have HL:=Aside0.mk hc0
  have HS:=Aside0.mk hs
  have HLL:=Aside0.mk hl
  clear hr0 hc0 hs hl
  refine (callsIn_wide (n:=6)).1 ?_
  refine callsIn_of_wp_marks Tryz.func105 rfl trivial ?_ rfl
  simp only [Tryz.ntmps105,List.size_toArray,List.length_cons,List.length_nil,Nat.reduceAdd,Nat.reduceSub,Array.replicate_succ,Array.replicate_zero,List.push_toArray,List.append_toArray,List.nil_append,List.cons_append]
  gi_wp2
  refine ⟨trivial,?_⟩
  have hbl:=blk_new w (.cells #[.slice none 0 0] 22 (0,0))
  have hB0:Below w.heap.size w (w.alloc (.cells #[.slice none 0 0] 22 (0,0))):=below_alloc (Below.refl _ _) _
  refine (callsIn_wide.2 (ppoints_calls A l0.length c _)).mono ?_
  rintro e w1 ⟨gq,rfl,kq,nq,hb⟩
  have hbl1:=blk_below hbl hb
  have hB1:=below_step hB0 hb
  have hlt1:=blk_lt kq
  have nl:w.heap.size≠gq:=by simp at nq;omega
  have nq2:w.heap.size≤gq:=by simp at nq;omega
  generalize w.alloc (.cells #[.slice none 0 0] 22 (0,0))=wa at *
  gi_wp2
  refine range_n (F:=Fence.wide) (n:=6) (w:=w1) (b:=gq) (n₀:=w.heap.size) hlt1 hB1.size rfl (by decide) (gf:=196) (lb:=#[.pointer (some ⟨gq,0,none⟩)]) rfl trivial (enters_of Tryz.func196 (by kernel_rfl) rfl) (encs:=encV) (all:=ppts A c l0)
    (fun W hW=>ppoints_seq w 5 (by decide) gq A c l0 HC.out HL.out HS.out nq2 W (below_step hB1 hW) (blk_below kq hW)) (fun _=>rfl)
    (PcS w w1.heap.size gq w.heap.size l0) (PcS_stb w _ _ _ _ _ hB1.size nq2 nl) ⟨_,hbl1,Kd.R_nil _ _ _ _ _,hB1,Nat.le_refl _⟩
    (fun x=>{ tmps:=#[.slice A l0.length c,undef,.slice none 0 0,.pointer (some ⟨w.heap.size,0,none⟩),x.1,.bool x.2,.slice A l0.length c,.func (.func 196) #[] #[.pointer (some ⟨gq,0,none⟩)],x.1,.bool x.2,undef,undef,undef,undef,undef],defers:=[] }) ?assign ?body ?done
  case assign =>
    intro l x W K hK
    gi_wp2
    exact hK
  case body =>
    intro l k x W hS hk
    obtain ⟨A',c',y,hx1,hy,hx2,hCy,hc'⟩:=ppts_at HC.out HL.out hk
    obtain ⟨xv,xb⟩:=x
    dsimp only at hx1 hx2
    subst hx1
    obtain ⟨v,hv,hR,hB,hsz⟩:=hS
    have hgW:gq < W.heap.size:=Nat.lt_of_lt_of_le hlt1 hsz
    cases hyb:decide (32≤y) with
    | false =>
      rw [hyb] at hx2
      subst hx2
      gi_wp2
      exact ⟨keepsFrom_below (Below.refl _ _),keeps_below (Below.refl _ _) hB.size hgW,v,hv,by rw [clN_off hy hyb];exact hR,hB,hsz⟩
    | true =>
      rw [hyb] at hx2
      subst hx2
      have hCy':=Kd.C_below hCy hB
      obtain ⟨Av,cv,rfl⟩:=Kd.R_slice hR
      have q0:=cells1 hv
      have f0:=blk_frozen hv 0
      have hlt0:=blk_lt hv
      have HR:=Aside0.mk hR
      have HV:=Aside0.mk hv
      clear hR
      gi_wp2_with (first|(gi_at_builtin;refine listIn_of_step rfl (by intro c h;cases h) fun Kc hKc=>?_;refine Kd.R_append_rows_step (Kd.int .u8) (w0:=w) w.heap.size (by rfl) (.tmp 11) (.tmp 12) 22 5 (.int .u8 0) 1 rfl Tryz.underlying22 info5 rfl (by decide) (by decide) _ _ [y] A' 1 c' (fun k=>k≠gq) (fun _=>False) rfl rfl HR.out hCy' (fun _ _ h=>h) (fun _ h=>h.elim) (fun k hk e=>by omega) hB hB.size (by have:=HLL.out;have h1:=clN_len (l0.take k);have h2:=List.length_take_le k l0;have h3:=List.length_take_le' k l0;omega) ?_;intro v1 w3 hR1 hB1 hg hat;have hb4:=blk_grown HV.out hg (Kd.R_ne HR.out HV.out (by decide));have HG:=Aside0.mk hg;have HR1:=Aside0.mk hR1;have HB1:=Aside0.mk hB1;have q1:=cells1 hb4;have f1:=blk_frozen hb4 0;have hlt1':=blk_lt hb4;clear hg hR1 hB1 hat q0 f0 hlt0;obtain ⟨A3,c3,rfl⟩:=Kd.R_slice HR1.out;refine hKc _ _ ?_))
      refine ⟨(keepsFrom_own HR.out HG.out).trans ((KeepsOthers.setCell _ _ _).from _),keeps_set (keeps_own HR.out HG.out (fun _ h=>h) (Nat.le_refl _) hB.size hgW) (Nat.le_refl _) (Ne.symm nl),?_⟩
      exact ⟨_,blk_put hb4 0 _ rfl,by rw [clN_on hy hyb];have h_:=Kd.R_set HR1.out hb4 (by decide) 0 (.slice A3 ((clN (l0.take k)).length+1) c3);rw [List.length_append,List.length_singleton] at h_;exact h_,below_set HB1.out (Nat.le_refl _),by have:=HG.out.size;simp [World.setCell];omega⟩
  case done =>
    intro D W hD hS hDW
    obtain ⟨v,hv,hR,hB,hsz⟩:=hS
    rw [ppts_len,List.take_length] at hR
    have q0:=cells1 hv
    have HRD:=Aside0.mk (Kd.R_mono (R_putD (o:=.deferred none) hR hDW) (fun _ _=>(trivial:True)))
    have HBD:=Aside0.mk (below_putD (o:=.deferred none) hB (Nat.le_trans hB1.size hD))
    clear hR hB
    gi_wp2
    refine ⟨by simp,.inl ⟨_,_,rfl,run_takeDeferred hDW,?_⟩⟩
    exact ⟨_,results_tmp rfl _ _ _,v,rfl,HRD.out,HBD.out⟩
end Go.Proofs.YthjacokachgmfaaGreatDoor.H
end
section
namespace Go.Proofs.YthjacokachgmfaaGreatDoor.H
open Go Go.RowKit Go.Maps Go.ChangeMaps YthjacokachgmfaaGreatDoorW.PrintWords YthjacokachgmfaaGreatDoorW.PrintLast YthjacokachgmfaaGreatDoorW.PrintMore
def chk (md:Region.Mode) (ops:Array Oper) (LA:Array Bool):Nat→Array Bool→List Nat→Bool
  | 0,listed,rem=>rem.isEmpty&&(listed == LA)
  | n+1,listed,rem=>if rem.isEmpty then listed == LA else (Region.ready md ops listed == rem)&&rem.all fun i=>chk md ops LA n (listed.setIfInBounds i true) (rem.erase i)
def InMap (ent:Nat→Value × Value) (all rem:List Nat) (L:List (Value × Value)):Prop:=∀ p,p∈L↔∃ i∈all,i∉rem∧p=ent i
def insOf (ops:Array Oper) (i:Nat):Option (TypeId × Operand × Operand × Operand) :=
  match ops[i]? with
  | some ⟨none,.insert t m x v,_,_,_,none⟩=>some (t,m,x,v)
  | _=>none
theorem insOf_some {ops:Array Oper} {i:Nat} {t:TypeId} {m x v:Operand} (h:insOf ops i=some (t,m,x,v)):∃ o,ops[i]?=some o∧o.dst=none∧o.guard=none∧o.op=.insert t m x v:=by
  unfold insOf at h
  split at h
  · rename_i ho
    simp only [Option.some.injEq,Prod.mk.injEq] at h
    obtain ⟨rfl,rfl,rfl,rfl⟩:=h
    exact ⟨_,ho,rfl,rfl,rfl⟩
  · cases h
theorem wpAny_inserts {P:Program} {md:Region.Mode} {ops:Array Oper} {Q:Exit→Act→World→Prop} {k e t:TypeId} {g:Nat} {a:Act} (K:Keyed P k) (ht:P.underlying t=some (.map k e)) (ent:Nat→Value × Value) (all:List Nat)
    (hop:∀ i∈all,∃ m x v,insOf ops i=some (t,m,x,v)∧a.eval m=.map (some g)∧a.eval x=(ent i).1∧a.eval v=(ent i).2)
    (hkey:∀ i∈all,∃ l,keyOf P k (ent i).1=some l) (hinj:∀ i∈all,∀ j∈all,i≠j→(ent i).1≠(ent j).1) (LA:Array Bool) (fuel:Nat) (w0:World)
    (hend:∀ w L,MapAt P k w g L→InMap ent all [] L→w0.grownBy w (some g)→wpAny P md ops Q fuel LA a w) :
    ∀ (n:Nat) (listed:Array Bool) (rem:List Nat) (w:World) (L:List (Value × Value)),chk md ops LA n listed rem=true→(∀ i∈rem,i∈all)→rem.Nodup→MapAt P k w g L→InMap ent all rem L→w0.grownBy w (some g)→wpAny P md ops Q (rem.length+fuel) listed a w:=by
  intro n
  induction n with
  | zero =>
    intro listed rem w L hc hr hn hM hI hg
    simp only [chk,Bool.and_eq_true,List.isEmpty_iff,beq_iff_eq] at hc
    obtain ⟨rfl,rfl⟩:=hc
    rw [List.length_nil,Nat.zero_add]
    exact hend w L hM hI hg
  | succ n ih =>
    intro listed rem w L hc hr hn hM hI hg
    unfold chk at hc
    split at hc
    · rename_i he
      rw [List.isEmpty_iff] at he
      subst he
      rw [beq_iff_eq] at hc
      subst hc
      rw [List.length_nil,Nat.zero_add]
      exact hend w L hM hI hg
    · rename_i he
      simp only [Bool.and_eq_true,beq_iff_eq,List.all_eq_true] at hc
      obtain ⟨h1,h2⟩:=hc
      cases rem with
      | nil=>simp at he
      | cons i0 r0 =>
        rw [show (i0 :: r0).length+fuel=(r0.length+fuel)+1 by simp;omega]
        refine ⟨fun h=>(by rw [h1] at h;cases h),fun i hi=>?_⟩
        rw [h1] at hi
        obtain ⟨m,x,v,hins,hm,hx,hv⟩:=hop i (hr i hi)
        obtain ⟨o,ho,hd,hgd,hO⟩:=insOf_some hins
        obtain ⟨l,hl⟩:=hkey i (hr i hi)
        obtain ⟨w',hrun,hM',hg'⟩:=hM.put K ht hl (ent i).2 (fun p hp=>by
          obtain ⟨j,hj,hjr,rfl⟩:=(hI p).1 hp
          exact hinj j hj i (hr i hi) (fun e=>hjr (e ▸ hi)))
        have hlen:((i0 :: r0).erase i).length=r0.length:=by
          rw [List.length_erase_of_mem hi]
          rfl
        have hw:Region.wanted o (yielded ops a.tmps)=true:=by simp [Region.wanted,hgd]
        unfold wpOp
        rw [ho]
        simp only [hw,if_true]
        refine .inl ?_
        unfold Oper.wp execOp
        rw [hO]
        simp only [hm,hx,hv,Sem.run_bind,hrun,Result.andThen,Sem.run_pure,Oper.upon_skip,hd]
        have hgo:=ih (listed.setIfInBounds i true) ((i0 :: r0).erase i) w' (L++[((ent i).1,(ent i).2)]) (h2 i hi) (fun j hj=>hr j (List.mem_of_mem_erase hj)) (hn.erase i) hM' (fun p=>?_) ⟨hg'.os.trans hg.os,hg'.tape.trans hg.tape,hg'.output.trans hg.output,Nat.le_trans hg.size hg'.size,fun j hj hne=>(hg'.block j (Nat.lt_of_lt_of_le hj hg.size) hne).trans (hg.block j hj hne)⟩
        · rw [hlen] at hgo
          exact hgo
        · rw [List.mem_append,hI p]
          constructor
          · rintro (⟨j,hj,hjr,rfl⟩ | h)
            · exact ⟨j,hj,fun h=>hjr (List.mem_of_mem_erase h),rfl⟩
            · simp only [List.mem_singleton] at h
              exact ⟨i,hr i hi,fun h=>(hn.mem_erase_iff.1 h).1 rfl,h⟩
          · rintro ⟨j,hj,hjr,rfl⟩
            by_cases hji:j=i
            · subst hji
              exact .inr (List.mem_singleton.2 rfl)
            · exact .inl ⟨j,hj,fun h=>hjr (hn.mem_erase_iff.2 ⟨hji,h⟩),rfl⟩
theorem grown_refl {w:World} (row:Option Nat):w.grownBy w row:=⟨rfl,rfl,rfl,Nat.le_refl _,fun _ _ _=>rfl⟩
theorem wpAny_one {P:Program} {md:Region.Mode} {ops:Array Oper} {Q:Exit→Act→World→Prop} {listed:Array Bool} {a:Act} {w w':World} {fuel:Nat} (i:Nat) (N:Option Nat) {o:Oper} {v:Value} (hr:Region.ready md ops listed=[i]) (ho:ops[i]?=some o) (hgd:o.guard=none) (hN:o.dst=N)
    (hrun:(execOp a.eval o).run P w=.ok (.value v) w') (h:wpAny P md ops Q fuel (listed.setIfInBounds i true) (a.put N v) w'):wpAny P md ops Q (fuel+1) listed a w:=by
  subst hN
  refine ⟨fun h=>(by rw [hr] at h;cases h),fun j hj=>?_⟩
  rw [hr] at hj
  obtain rfl:=List.mem_singleton.1 hj
  have hw:Region.wanted o (yielded ops a.tmps)=true:=by simp [Region.wanted,hgd]
  unfold wpOp
  rw [ho]
  simp only [hw,if_true]
  refine .inl ?_
  unfold Oper.wp
  rw [hrun]
  exact h
theorem run_lookup_op {P:Program} {o:Oper} {a:Act} {t:TypeId} {m x:Operand} {M X v:Value} {w:World} (ho:o.op=.lookup t m x false) (hm:a.eval m=M) (hx:a.eval x=X) (h:(Instr.lookup t M X false).run P w=.ok v w):(execOp a.eval o).run P w=.ok (.value v) w:=by
  unfold execOp
  rw [ho]
  simp only [hm,hx,Sem.run_bind,h,Result.andThen,Sem.run_pure]
section
variable {P:Program} {ops:Array Oper} {rest:List Oper} {o:Oper} {a:Act} {Q:Exit→Act→World→Prop} {W:World} {k e t:TypeId}
theorem make_ev (hgd:o.guard=none) (N:Nat) (_hd:o.dst=some N) (_ho:o.op=.makeMap t none) (hrun:(execOp a.eval o).run P W=.ok (.value (.map (some W.heap.size))) (W.alloc (.map #[] 0)))
    (h:∀ g,g=W.heap.size→∀ w1,MapAt P k w1 g []→Below W.heap.size W w1→wpList P ops Q rest (a.put o.dst (.map (some g))) w1):wpList P ops Q (o :: rest) a W :=
  Kd.event_run hgd hrun (h _ rfl _ (MapAt.new W) (below_alloc (Below.refl _ _) _))
theorem put_ev (hgd:o.guard=none) (hN:o.dst=none) (m x v:Operand) (ho:o.op=.insert t m x v) (K:Keyed P k) (ht:P.underlying t=some (.map k e)) {g:Nat} {L:List (Value × Value)} {X V:Value} {lx:Lit} (hm:a.eval m=.map (some g)) (hx:a.eval x=X) (hv:a.eval v=V)
    (hM:MapAt P k W g L) (hk:keyOf P k X=some lx) (hn:∀ p∈L,p.1≠X) (h:∀ w1,MapAt P k w1 g (L++[(X,V)])→W.grownBy w1 (some g)→wpList P ops Q rest a w1):wpList P ops Q (o :: rest) a W:=by
  obtain ⟨w',hrun,hM',hg'⟩:=hM.put K ht hk V hn
  refine wpList_plain hgd fun Kc hK=>?_
  unfold Oper.wp execOp
  rw [ho]
  simp only [hm,hx,hv,Sem.run_bind,hrun,Result.andThen,Sem.run_pure,Oper.upon_skip,hN]
  exact hK a w' (h w' hM' hg')
theorem blk_mapGrown {w w1:World} {g b:Nat} {L:List (Value × Value)} {cs:Array Value} {tc:TypeId} (h:w.heap[b]?=some (.cells cs tc (0,0))) (hM:MapAt P k w g L) (hg:w.grownBy w1 (some g)):w1.heap[b]?=some (.cells cs tc (0,0)) :=
  blk_grown h hg (fun e=>by
    injection e with e
    subst e
    obtain ⟨es,c,hb,_⟩:=hM
    rw [h] at hb
    cases hb)
theorem map_grown {w w1:World} {g b:Nat} {L:List (Value × Value)} {cs:Array Value} {tc:TypeId} (hM:MapAt P k w g L) (h:w.heap[b]?=some (.cells cs tc (0,0))) (hg:w.grownBy w1 (some b)):MapAt P k w1 g L :=
  hM.kept (Kept.of_grown hg (Kept.refl w (fun k=>k=b)) (fun k e=>by cases e;exact .inl rfl)) (fun e=>by
    subst e
    obtain ⟨es,c,hb,_⟩:=hM
    rw [h] at hb
    cases hb)
end
end Go.Proofs.YthjacokachgmfaaGreatDoor.H
end
section
namespace Go.Proofs.YthjacokachgmfaaGreatDoor.H
open Go Go.RowKit Go.Maps Go.ChangeMaps YthjacokachgmfaaGreatDoorW.PrintWords YthjacokachgmfaaGreatDoorW.PrintLast YthjacokachgmfaaGreatDoorW.PrintMore
set_option maxRecDepth 100000
def flagKey (i:Nat):Int:=if i=4 then 1 else if i=8 then 66 else if i=12 then 67 else if i=16 then 1004 else if i=20 then 2004 else 0
def flagEnt (g0:Nat) (i:Nat):Value × Value:=(.int .i64 (flagKey i),.pointer (some ⟨g0,i / 4 - 1,none⟩))
set_option maxHeartbeats 4000000 in
theorem flag_calls (g0:Nat) (w:World) :
    Calls Tryz.prog 247 #[.pointer (some ⟨g0,0,none⟩),.bool true,.int .i64 2004] w fun e w'=>e=.returned (.pointer (some ⟨g0,4,none⟩))∧Below w.heap.size w w':=by
  go_enter Tryz.func247,Tryz.ntmps247
  go_wp2
  refine wp_region_any (by kernel_rfl) ?_
  refine wpAny_take (i := 1) (oi := { dst := some 9, op := Op.move (Operand.tmp 0), type := 290, pos := "modes.go:23", after := #[], guard := none }) (v := (.pointer (some ⟨g0, 0, none⟩))) rfl (by kernel_rfl) (by kernel_rfl) (by kernel_rfl) (fun _ _ _ h => h) (Or.inl ⟨by rfl, fun w => by kernel_rfl⟩) ?_
  refine wpAny_take (i := 2) (oi := { dst := some 10, op := Op.nilCheck (Operand.tmp 9), type := 0, pos := "modes.go:23", after := #[{ on := 1, ground := Ground.data }], guard := none }) (v := (.pointer (some ⟨g0, 0, none⟩))) rfl (by kernel_rfl) (by kernel_rfl) (by kernel_rfl) (fun _ _ _ h => h) (Or.inl ⟨by rfl, fun w => by kernel_rfl⟩) ?_
  refine wpAny_take (i := 3) (oi := { dst := some 11, op := Op.fieldAddr 32 (Operand.tmp 10) 0, type := 0, pos := "modes.go:23", after := #[{ on := 2, ground := Ground.data }], guard := none }) (v := (.pointer (some ⟨g0, 0, none⟩))) rfl (by kernel_rfl) (by kernel_rfl) (by kernel_rfl) (fun _ _ _ h => h) (Or.inl ⟨by rfl, fun w => by kernel_rfl⟩) ?_
  refine wpAny_take (i := 5) (oi := { dst := some 12, op := Op.move (Operand.tmp 0), type := 290, pos := "modes.go:23", after := #[], guard := none }) (v := (.pointer (some ⟨g0, 0, none⟩))) rfl (by kernel_rfl) (by kernel_rfl) (by kernel_rfl) (fun _ _ _ h => h) (Or.inl ⟨by rfl, fun w => by kernel_rfl⟩) ?_
  refine wpAny_take (i := 6) (oi := { dst := some 13, op := Op.nilCheck (Operand.tmp 12), type := 0, pos := "modes.go:23", after := #[{ on := 5, ground := Ground.data }], guard := none }) (v := (.pointer (some ⟨g0, 0, none⟩))) rfl (by kernel_rfl) (by kernel_rfl) (by kernel_rfl) (fun _ _ _ h => h) (Or.inl ⟨by rfl, fun w => by kernel_rfl⟩) ?_
  refine wpAny_take (i := 7) (oi := { dst := some 14, op := Op.fieldAddr 32 (Operand.tmp 13) 1, type := 0, pos := "modes.go:23", after := #[{ on := 6, ground := Ground.data }], guard := none }) (v := (.pointer (some ⟨g0, 1, none⟩))) rfl (by kernel_rfl) (by kernel_rfl) (by kernel_rfl) (fun _ _ _ h => h) (Or.inl ⟨by rfl, fun w => by kernel_rfl⟩) ?_
  refine wpAny_take (i := 9) (oi := { dst := some 15, op := Op.move (Operand.tmp 0), type := 290, pos := "modes.go:23", after := #[], guard := none }) (v := (.pointer (some ⟨g0, 0, none⟩))) rfl (by kernel_rfl) (by kernel_rfl) (by kernel_rfl) (fun _ _ _ h => h) (Or.inl ⟨by rfl, fun w => by kernel_rfl⟩) ?_
  refine wpAny_take (i := 10) (oi := { dst := some 16, op := Op.nilCheck (Operand.tmp 15), type := 0, pos := "modes.go:23", after := #[{ on := 9, ground := Ground.data }], guard := none }) (v := (.pointer (some ⟨g0, 0, none⟩))) rfl (by kernel_rfl) (by kernel_rfl) (by kernel_rfl) (fun _ _ _ h => h) (Or.inl ⟨by rfl, fun w => by kernel_rfl⟩) ?_
  refine wpAny_take (i := 11) (oi := { dst := some 17, op := Op.fieldAddr 32 (Operand.tmp 16) 2, type := 0, pos := "modes.go:23", after := #[{ on := 10, ground := Ground.data }], guard := none }) (v := (.pointer (some ⟨g0, 2, none⟩))) rfl (by kernel_rfl) (by kernel_rfl) (by kernel_rfl) (fun _ _ _ h => h) (Or.inl ⟨by rfl, fun w => by kernel_rfl⟩) ?_
  refine wpAny_take (i := 13) (oi := { dst := some 18, op := Op.move (Operand.tmp 0), type := 290, pos := "modes.go:23", after := #[], guard := none }) (v := (.pointer (some ⟨g0, 0, none⟩))) rfl (by kernel_rfl) (by kernel_rfl) (by kernel_rfl) (fun _ _ _ h => h) (Or.inl ⟨by rfl, fun w => by kernel_rfl⟩) ?_
  refine wpAny_take (i := 14) (oi := { dst := some 19, op := Op.nilCheck (Operand.tmp 18), type := 0, pos := "modes.go:23", after := #[{ on := 13, ground := Ground.data }], guard := none }) (v := (.pointer (some ⟨g0, 0, none⟩))) rfl (by kernel_rfl) (by kernel_rfl) (by kernel_rfl) (fun _ _ _ h => h) (Or.inl ⟨by rfl, fun w => by kernel_rfl⟩) ?_
  refine wpAny_take (i := 15) (oi := { dst := some 20, op := Op.fieldAddr 32 (Operand.tmp 19) 3, type := 0, pos := "modes.go:23", after := #[{ on := 14, ground := Ground.data }], guard := none }) (v := (.pointer (some ⟨g0, 3, none⟩))) rfl (by kernel_rfl) (by kernel_rfl) (by kernel_rfl) (fun _ _ _ h => h) (Or.inl ⟨by rfl, fun w => by kernel_rfl⟩) ?_
  refine wpAny_take (i := 17) (oi := { dst := some 21, op := Op.move (Operand.tmp 0), type := 290, pos := "modes.go:23", after := #[], guard := none }) (v := (.pointer (some ⟨g0, 0, none⟩))) rfl (by kernel_rfl) (by kernel_rfl) (by kernel_rfl) (fun _ _ _ h => h) (Or.inl ⟨by rfl, fun w => by kernel_rfl⟩) ?_
  refine wpAny_take (i := 18) (oi := { dst := some 22, op := Op.nilCheck (Operand.tmp 21), type := 0, pos := "modes.go:23", after := #[{ on := 17, ground := Ground.data }], guard := none }) (v := (.pointer (some ⟨g0, 0, none⟩))) rfl (by kernel_rfl) (by kernel_rfl) (by kernel_rfl) (fun _ _ _ h => h) (Or.inl ⟨by rfl, fun w => by kernel_rfl⟩) ?_
  refine wpAny_take (i := 19) (oi := { dst := some 23, op := Op.fieldAddr 32 (Operand.tmp 22) 4, type := 0, pos := "modes.go:23", after := #[{ on := 18, ground := Ground.data }], guard := none }) (v := (.pointer (some ⟨g0, 4, none⟩))) rfl (by kernel_rfl) (by kernel_rfl) (by kernel_rfl) (fun _ _ _ h => h) (Or.inl ⟨by rfl, fun w => by kernel_rfl⟩) ?_
  refine wpAny_take (i := 22) (oi := { dst := some 25, op := Op.move (Operand.tmp 2), type := 3, pos := "modes.go:23", after := #[], guard := none }) (v := (.int .i64 2004)) rfl (by kernel_rfl) (by kernel_rfl) (by kernel_rfl) (fun _ _ _ h => h) (Or.inl ⟨by rfl, fun w => by kernel_rfl⟩) ?_
  refine wpAny_one 0 (some 8) (v:=.map (some w.heap.size)) (w':=w.drew.alloc (.map #[] 0)) (by kernel_rfl) rfl rfl rfl (by rfl) ?_
  simp only [Act.put,List.setIfInBounds_toArray,List.set_cons_zero,List.set_cons_succ]
  refine wpAny_inserts (g:=w.heap.size) (int_keyed Tryz.underlying3) Tryz.underlying301 (flagEnt g0) [4,8,12,16,20] ?hop ?hkey ?hinj #[true,true,true,true,true,true,true,true,true,true,true,true,true,true,true,true,true,true,true,true,true,false,true,false,false] 3 (w.drew.alloc (.map #[] 0)) ?hend 5 #[true,true,true,true,false,true,true,true,false,true,true,true,false,true,true,true,false,true,true,true,false,false,true,false,false] [4,8,12,16,20] _ [] (by kernel_rfl) (fun i h=>h) (by decide) (MapAt.new _) ?hI (grown_refl _)
  case hop =>
    intro i hi
    simp only [List.mem_cons,List.not_mem_nil,or_false] at hi
    rcases hi with rfl | rfl | rfl | rfl | rfl
    · exact ⟨.tmp 8,.const (.int .i64 1),.tmp 11,by kernel_rfl,by kernel_rfl,by kernel_rfl,by kernel_rfl⟩
    · exact ⟨.tmp 8,.const (.int .i64 66),.tmp 14,by kernel_rfl,by kernel_rfl,by kernel_rfl,by kernel_rfl⟩
    · exact ⟨.tmp 8,.const (.int .i64 67),.tmp 17,by kernel_rfl,by kernel_rfl,by kernel_rfl,by kernel_rfl⟩
    · exact ⟨.tmp 8,.const (.int .i64 1004),.tmp 20,by kernel_rfl,by kernel_rfl,by kernel_rfl,by kernel_rfl⟩
    · exact ⟨.tmp 8,.const (.int .i64 2004),.tmp 23,by kernel_rfl,by kernel_rfl,by kernel_rfl,by kernel_rfl⟩
  case hkey =>
    intro i hi
    exact ⟨_,keyOf_int_mk Tryz.underlying3 ((by decide:∀ i∈[4,8,12,16,20],(Lit.int .i64 (flagKey i)).wf=true) i hi)⟩
  case hinj =>
    intro i hi j hj hne e
    injection e with _ e
    exact hne ((by decide:∀ i∈[4,8,12,16,20],∀ j∈[4,8,12,16,20],flagKey i=flagKey j→i=j) i hi j hj e)
  case hI =>
    intro p
    constructor
    · intro h;cases h
    · rintro ⟨i,hi,hn,_⟩
      exact absurd hi hn
  case hend =>
    intro w2 L hM hI hg
    have hlook:=hM.look (int_keyed Tryz.underlying3) Tryz.underlying301 (x:=.int .i64 2004) (v:=.pointer (some ⟨g0,4,none⟩)) (keyOf_int_mk Tryz.underlying3 (by decide)) ((hI _).2 ⟨20,by decide,by decide,rfl⟩) (fun p hp e=>by
      obtain ⟨i,hi,_,rfl⟩:=(hI p).1 hp
      injection e with _ e
      have:i=20:=(by decide:∀ i∈[4,8,12,16,20],flagKey i=2004→i=20) i hi e
      subst this
      rfl)
    have hB:=Aside0.mk (show Below w.heap.size w w2 from (below_alloc (below_drew1 (Below.refl _ _)) (.map #[] 0)).grown hg (by simp) (fun k e=>by cases e;exact Nat.le_refl _))
    refine wpAny_one 21 (some 24) (v:=.map (some w.heap.size)) (w':=w2) (by kernel_rfl) rfl rfl rfl (by kernel_rfl) ?_
    refine wpAny_one 23 (some 26) (v:=.pointer (some ⟨g0,4,none⟩)) (w':=w2) (by kernel_rfl) rfl rfl rfl (run_lookup_op rfl (by kernel_rfl) (by kernel_rfl) hlook) ?_
    refine wpAny_one 24 (some 6) (v:=.pointer (some ⟨g0,4,none⟩)) (w':=w2) (by kernel_rfl) rfl rfl rfl (by kernel_rfl) ?_
    refine wpAny_done (by kernel_rfl) ?_ _
    simp only [Act.put,List.setIfInBounds_toArray,List.set_cons_zero,List.set_cons_succ]
    go_wp2
    go_ret
    exact ⟨rfl,hB.out⟩
end Go.Proofs.YthjacokachgmfaaGreatDoor.H
end
section
namespace Go.Proofs.YthjacokachgmfaaGreatDoor.H
open Go Go.RowKit YthjacokachgmfaaGreatDoorW.PrintWords YthjacokachgmfaaGreatDoorW.PrintLast YthjacokachgmfaaGreatDoorW.PrintMore
open Ev
set_option maxRecDepth 100000
set_option maxHeartbeats 4000000 in
theorem set_calls (b0 b1 b2 b3 b4 b5 b6:Bool) (n0 n1 n2:Int) (w:World) :
    Calls Tryz.prog 202 #[.agg #[.bool b0,.bool b1,.bool b2,.bool b3,.bool b4,.bool b5,.bool b6,.int .i64 n0,.int .i64 n1,.int .i64 n2],.bool true,.int .i64 2004,.bool true] w fun e w'=>e=.returned (.tuple #[.agg #[.bool b0,.bool b1,.bool b2,.bool b3,.bool true,.bool b5,.bool b6,.int .i64 n0,.int .i64 n1,.int .i64 n2],.bool true])∧Below w.heap.size w w':=by
  have HB:=Aside0.mk (Below.refl w.heap.size w)
  go_enter Tryz.func202,Tryz.ntmps202
  go_wp2_with (first|(refine bx 4 #[.bool b0,.bool b1,.bool b2,.bool b3,.bool b4,.bool b5,.bool b6,.int .i64 n0,.int .i64 n1,.int .i64 n2] 32 (h:=?_);intro g4 hg w1 hbox hb;have HBo:=HB;replace HB:=bh HB hb;have B4:=Aside0.mk hbox;have q4:=cells10 B4.out;have G4:=gG HBo hg;clear hbox hb hg HBo)|(refine bx 8 #[.bool false,.bool false,.bool false,.bool false,.bool false,.bool false,.bool false,.int .i64 0,.int .i64 0,.int .i64 0] 32 (h:=?_);intro g8 hg w2 hbox hb;have HBo:=HB;have L4_:=blk_lt B4.out;replace B4:=kb B4 hb;clear q4;have q4:=cells10 B4.out;replace HB:=bh HB hb;have B8:=Aside0.mk hbox;have q8:=cells10 B8.out;have G8:=gG HBo hg;have NE8_4:=Aside0.mk (show g8≠g4 by omega);have NE4_8:=Aside0.mk (Ne.symm NE8_4.out);clear L4_;clear hbox hb hg HBo)|(go_at_call 247;refine (flag_calls g4 _).mono ?_;rintro e w3 ⟨rfl,hb⟩;replace B4:=kb B4 hb;clear q4;have q4:=cells10 B4.out;replace B8:=kb B8 hb;clear q8;have q8:=cells10 B8.out;replace HB:=bh HB hb;clear hb)|((with_reducible refine gate_store (t:=4) rfl ?_);refine sx 4 4 B4 (h:=?_);intro w4 hS hg;replace B8:=gk B8 hg NE8_4.out;clear q8;have q8:=cells10 B8.out;replace HB:=gb HB hg G4;clear B4 q4 hg;have B4:=hS;clear hS;have q4:=cells10 B4.out)|((with_reducible refine gate_store (t:=32) rfl ?_);refine sx 32 0 B8 (h:=?_);intro w5 hS hg;replace B4:=gk B4 hg NE4_8.out;clear q4;have q4:=cells10 B4.out;replace HB:=gb HB hg G8;clear B8 q8 hg;have B8:=hS;clear hS;have q8:=cells10 B8.out))
  refine bodyPost_ret (results_ct rfl _ _ g8 32 #[.bool b0,.bool b1,.bool b2,.bool b3,.bool true,.bool b5,.bool b6,.int .i64 n0,.int .i64 n1,.int .i64 n2] (0,0) _ rfl B8.out Tryz.underlying32 rfl (by kernel_rfl)) rfl ?_
  exact ⟨rfl,HB.out⟩
end Go.Proofs.YthjacokachgmfaaGreatDoor.H
end
section
namespace Go.Proofs.YthjacokachgmfaaGreatDoor.H
open Go Go.RowKit YthjacokachgmfaaGreatDoorW.PrintWords YthjacokachgmfaaGreatDoorW.PrintLast YthjacokachgmfaaGreatDoorW.PrintMore
open Ev
set_option maxRecDepth 100000
set_option maxHeartbeats 4000000 in
theorem get_calls (b0 b1 b2 b3 b5 b6:Bool) (n0 n1 n2:Int) (w:World) :
    Calls Tryz.prog 250 #[.agg #[.bool b0,.bool b1,.bool b2,.bool b3,.bool true,.bool b5,.bool b6,.int .i64 n0,.int .i64 n1,.int .i64 n2],.bool true,.int .i64 2004] w fun e w'=>e=.returned (.int .i64 1)∧Below w.heap.size w w':=by
  have HB:=Aside0.mk (Below.refl w.heap.size w)
  go_enter Tryz.func250,Tryz.ntmps250
  go_wp2_with (first|(refine bx 3 #[.bool b0,.bool b1,.bool b2,.bool b3,.bool true,.bool b5,.bool b6,.int .i64 n0,.int .i64 n1,.int .i64 n2] 32 (h:=?_);intro g3 hg w1 hbox hb;have HBo:=HB;replace HB:=bh HB hb;have B3:=Aside0.mk hbox;have q3:=cells10 B3.out;have G3:=gG HBo hg;clear hbox hb hg HBo)|(go_at_call 202;refine (set_calls b0 b1 b2 b3 true b5 b6 n0 n1 n2 _).mono ?_;rintro e w2 ⟨rfl,hb⟩;replace B3:=kb B3 hb;clear q3;have q3:=cells10 B3.out;replace HB:=bh HB hb;clear hb)|(refine bx 7 #[.bool false,.bool false,.bool false,.bool false,.bool false,.bool false,.bool false,.int .i64 0,.int .i64 0,.int .i64 0] 32 (h:=?_);intro g7 hg w3 hbox hb;have HBo:=HB;have L3_:=blk_lt B3.out;replace B3:=kb B3 hb;clear q3;have q3:=cells10 B3.out;replace HB:=bh HB hb;have B7:=Aside0.mk hbox;have q7:=cells10 B7.out;have G7:=gG HBo hg;have NE7_3:=Aside0.mk (show g7≠g3 by omega);have NE3_7:=Aside0.mk (Ne.symm NE7_3.out);clear L3_;clear hbox hb hg HBo)|((with_reducible refine gate_store (t:=32) rfl ?_);refine sx 32 0 B7 (h:=?_);intro w4 hS hg;replace B3:=gk B3 hg NE3_7.out;clear q3;have q3:=cells10 B3.out;replace HB:=gb HB hg G7;clear B7 q7 hg;have B7:=hS;clear hS;have q7:=cells10 B7.out))
  all_goals go_ret
  all_goals exact ⟨rfl,HB.out⟩
end Go.Proofs.YthjacokachgmfaaGreatDoor.H
end
