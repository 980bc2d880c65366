import Derived.Test.YthjacokachgmfaaGreatDoorT04
import Derived.Test.YthjacokachgmfaaGreatDoorT06
import Derived.Test.YthjacokachgmfaaGreatDoorT19
import Derived.Test.YthjacokachgmfaaGreatDoorT25
set_option linter.unusedVariables false
set_option linter.unusedSimpArgs false
section
namespace Go.Proofs.YthjacokachgmfaaGreatDoor.H
open Go Go.RowKit Go.Shelf YthjacokachgmfaaGreatDoorW.PrintWords YthjacokachgmfaaGreatDoorW.PrintLast YthjacokachgmfaaGreatDoorW.PrintMore
open Ev
set_option maxRecDepth 100000
attribute [local go_sem] Oper.semAt_some
theorem below_none {W W1:World} (hg:W.grownBy W1 none):Below W.heap.size W W1:=(Below.refl _ W).grown hg (Nat.le_refl _) (fun k e=>by cases e)
theorem kf_grown {D g:Nat} {W W1 W2:World} {cs:Array Value} {t:TypeId} (h:Below W.heap.size W W1) (hg:W1.grownBy W2 (some g)) (hG:W1.heap[g]?=some (.cells cs t (0,0))):KeepsFrom D W W2 :=
  ⟨Nat.le_trans h.size hg.size,fun k o _ hk hc=>by
    have h1:=(h.block k (blk_lt hk)).trans hk
    refine (hg.block k (blk_lt h1) (fun e=>?_)).trans h1
    injection e with e
    subst e
    rw [hG] at h1
    cases h1
    cases hc⟩
theorem kp_grown {n₀ b g:Nat} {W W1 W2:World} (hn:n₀≤W.heap.size) (hb:b < W.heap.size) (h:Below W.heap.size W W1) (hg:W1.grownBy W2 (some g)) (hgn:n₀≤g) (hne:g≠b):Keeps n₀ b W W2 :=
  ⟨(keeps_below h hn hb).low.grown hg (Nat.le_trans hn h.size) (fun k e=>by injection e with e;rw [← e];exact hgn),(hg.block b (Nat.lt_of_lt_of_le hb h.size) (fun e=>hne (by injection e with e;exact e.symm))).trans (h.block b hb)⟩
theorem Stb.size2 {D b:Nat} (N:Nat):Stb D b (fun W=>N≤W.heap.size) :=
  ⟨fun W W' row x hg _=>Nat.le_trans x hg.size,fun W v x=>by simpa [World.setCell] using x⟩
theorem Stb.kf {D b D0:Nat} {Wr:World} (hW:Wr.heap.size≤D):Stb D b (fun W=>KeepsFrom D0 Wr W) :=
  ⟨fun W W' row x hg hr=>ownFrom_keepsFrom (β:=Unit) hW () W W' row x hg hr,fun W v x=>x.trans ((KeepsOthers.setCell _ _ _).from _)⟩
theorem Stb.kp {D b n₀ z:Nat} {Wr:World} (hn:n₀≤Wr.heap.size) (hz:z < Wr.heap.size) (hW:Wr.heap.size≤D) (hb:n₀≤b) (hne:z≠b):Stb D b (fun W=>Keeps n₀ z Wr W) :=
  ⟨fun W W' row x hg hr=>⟨x.low.grown hg (Nat.le_trans hn x.low.size) (fun k e=>by have:=(hr k e).1;omega),(hg.block z (Nat.lt_of_lt_of_le hz x.low.size) (fun e=>by have:=(hr z e.symm).1;omega)).trans x.cell⟩,fun W v x=>keeps_set x hb hne⟩
theorem lit_row {W:World} {g t:Nat} {v:Value} {p:List Int} (h:W.heap[g]?=some (.cells #[v] t (0,0))):ReadsRow (fun q cs=>q=p∧cs=[v]) 1 W (some ⟨g,0,none⟩) 1 [p] :=
  ⟨rfl,by omega,fun _=>⟨⟨g,0,none⟩,rfl,fun j q hj=>by
    have hj2:j=0:=by
      have:=(List.getElem?_eq_some_iff.1 hj).1
      simp at this
      exact this
    subst hj2
    simp at hj
    subst hj
    refine ⟨[v],rfl,⟨rfl,rfl⟩,fun i u hu=>?_⟩
    have hi:i=0:=by
      have:=(List.getElem?_eq_some_iff.1 hu).1
      simp at this
      exact this
    subst hi
    simp at hu
    subst hu
    exact (blk_cell h 0).trans rfl⟩⟩
theorem number_s (T:List Int) (s:ByteArray) (hs:s=strOfNums T) (hl:1≤T.length∧T.length≤1000) (hd:∀ c∈T,48≤c∧c≤57) (w:World) :
    Calls Tryz.prog 111 #[.string s] w fun e w'=>e=.returned (.int .i64 (takeV T))∧Below w.heap.size w w':=by
  have hnum:numsS s=T:=by rw [hs];exact numsS_str (fun c hc=>by have:=hd c hc;omega)
  have kc:∀ W,(convert 9 22 (.string s)).run Tryz.prog W=.ok (.slice (some ⟨W.heap.size,0,none⟩) T.length (grownCap W s.size 0 5)) (Lib.bytesWorld W 5 s):=fun W=>by have:=conv_run W s;rw [hnum] at this;exact this
  have es:s.toList.isEmpty=false:=by rw [hs];exact strNe hl.1
  have hsz:s.size=T.length:=by rw [← numsS_len,hnum]
  have HCALL:=Aside0.mk (fun W=>numTake_calls (some ⟨W.heap.size,0,none⟩) (grownCap W s.size 0 5) T (Lib.bytesWorld W 5 s) (by have:=conv_c W s (by omega);rw [hnum] at this;exact this) (by omega) hd)
  have HCV:=Aside0.mk (conv_below w s)
  clear hs hl hd hnum hsz
  go_enter Tryz.func111,Tryz.ntmps111
  go_wp2_with (first|(go_at_call 169;refine (HCALL.out w).mono ?_;rintro e w1 ⟨rfl,hb⟩;have HB1:=Aside0.mk (below_step HCV.out hb);clear hb))
  go_ret
  exact ⟨rfl,HB1.out⟩
def PmS (w0 w:World) (N g g1 z1:Nat) (rc:Value→Array Value) (x:Int):Nat→World→Prop
  | 0,W=>W.heap[g]?=some (.cells (rc (.slice none 0 0)) 80 (0,0))∧W.heap[g1]?=some (.cells #[.pointer (some ⟨g,0,none⟩)] 129 (0,0))∧Below w0.heap.size w0 W∧Kept w W (fun k=>k=g)∧N≤W.heap.size
  | _+1,W=>∃ v,W.heap[g]?=some (.cells (rc v) 80 (0,0))∧kli.R 66 W w0.heap.size (fun k=>k≠z1) v [[x]]∧Below w0.heap.size w0 W∧Kept w W (fun k=>k=g)∧N≤W.heap.size
theorem PmS_stb (w0 w:World) (D N g g1 z1:Nat) (rc:Value→Array Value) (x:Int) (hg:g≠z1) (h1:g1≠z1) (hD:w0.heap.size≤D) (hz:w0.heap.size≤z1) (hD2:w.heap.size≤D) (hz2:w.heap.size≤z1):∀ k,Stb D z1 (PmS w0 w N g g1 z1 rc x k)
  | 0=>(Stb.blk _ _ _ hg).and ((Stb.blk _ _ _ h1).and ((Stb.below w0 hD hz).and ((Stb.kept w _ hD2 hz2).and (Stb.size2 N))))
  | _+1=>Stb.ex fun v=>(Stb.blk _ _ _ hg).and ((Stb.R _ _ _ _ _ _ (fun _ h=>h)).and ((Stb.below w0 hD hz).and ((Stb.kept w _ hD2 hz2).and (Stb.size2 N))))
def PmI (w0 w Wr:World) (D0 N g g1 gl z1 y1:Nat) (rc:Value→Array Value) (x:Int):Nat→World→Prop
  | 0,W=>W.heap[gl]?=some (.cells #[.slice none 0 0] 66 (0,0))∧W.heap[g]?=some (.cells (rc (.slice none 0 0)) 80 (0,0))∧W.heap[g1]?=some (.cells #[.pointer (some ⟨g,0,none⟩)] 129 (0,0))∧Below w0.heap.size w0 W∧Kept w W (fun k=>k=g)∧KeepsFrom D0 Wr W∧Keeps w0.heap.size z1 Wr W∧N≤W.heap.size
  | _+1,W=>∃ v,W.heap[gl]?=some (.cells #[v] 66 (0,0))∧Kd.R (Kd.int .i64) 3 W w0.heap.size (fun k=>k≠y1∧k≠z1) v [x]∧W.heap[g]?=some (.cells (rc (.slice none 0 0)) 80 (0,0))∧W.heap[g1]?=some (.cells #[.pointer (some ⟨g,0,none⟩)] 129 (0,0))∧Below w0.heap.size w0 W∧Kept w W (fun k=>k=g)∧KeepsFrom D0 Wr W∧Keeps w0.heap.size z1 Wr W∧N≤W.heap.size
theorem PmI_stb (w0 w Wr:World) (D D0 N g g1 gl z1 y1:Nat) (rc:Value→Array Value) (x:Int) (hg:g≠y1) (h1:g1≠y1) (hl:gl≠y1) (hD:w0.heap.size≤D) (hz:w0.heap.size≤y1) (hD2:w.heap.size≤D) (hz2:w.heap.size≤y1) (hWD:Wr.heap.size≤D) (hn:w0.heap.size≤Wr.heap.size) (hzW:z1 < Wr.heap.size) (hne:z1≠y1):∀ k,Stb D y1 (PmI w0 w Wr D0 N g g1 gl z1 y1 rc x k)
  | 0=>(Stb.blk _ _ _ hl).and ((Stb.blk _ _ _ hg).and ((Stb.blk _ _ _ h1).and ((Stb.below w0 hD hz).and ((Stb.kept w _ hD2 hz2).and ((Stb.kf hWD).and ((Stb.kp hn hzW hWD hz hne).and (Stb.size2 N)))))))
  | _+1=>Stb.ex fun v=>(Stb.blk _ _ _ hl).and ((Stb.R _ _ _ _ _ _ (fun _ h=>h.1)).and ((Stb.blk _ _ _ hg).and ((Stb.blk _ _ _ h1).and ((Stb.below w0 hD hz).and ((Stb.kept w _ hD2 hz2).and ((Stb.kf hWD).and ((Stb.kp hn hzW hWD hz hne).and (Stb.size2 N))))))))
set_option maxHeartbeats 16000000 in
theorem rparams_calls (g:Nat) (A:Option Addr) (c:Nat) (l:List Int) (k m:Nat) (kind priv fin p y:Int) (inter data:ByteArray) (T:List Int) (w0 w:World) (hC:Kd.C (Kd.int .u8) w0 A l.length l) (hl:l.length≤1000000) (hlc:l.length≤c) (hB:Below w0.heap.size w0 w) (hg:w0.heap.size≤g) (hb:w.heap[g]?=some (.cells #[.slice A l.length c,.int .i64 (k:Int),.int .i64 kind,.int .u8 priv,.slice none 0 0,.string inter,.int .u8 fin,.string data] 80 (0,0)))
    (hpk:l[k]?=some p) (hp:p < 60) (hT:(l.drop k).take m=T) (hTl:1≤T.length∧T.length≤1000) (hTd:∀ c∈T,48≤c∧c≤57) (hm:∀ j x,j < m→l[k+j]?=some x→48≤x∧x≤59) (hy:l[k+m]?=some y) (hy2:y < 48∨59 < y) :
    Calls Tryz.prog 59 #[.pointer (some ⟨g,0,none⟩)] w fun e w'=>e=.returned (.tuple #[])∧∃ v,w'.heap[g]?=some (.cells #[.slice A l.length c,.int .i64 ((k+m:Nat):Int),.int .i64 kind,.int .u8 priv,v,.string inter,.int .u8 fin,.string data] 80 (0,0))∧kli.R 66 w' w0.heap.size (fun _=>True) v [[takeV T]]∧Below w0.heap.size w0 w'∧Kept w w' (fun k=>k=g):=by
  obtain ⟨s,hs⟩:∃ s,s=strOfNums T:=⟨_,rfl⟩
  have HS:=Aside0.mk hs
  have HC:=Aside0.mk hC
  have HL:=Aside0.mk hl
  have HLC:=Aside0.mk hlc
  have HB:=Aside0.mk hB
  have Gr:=Aside0.mk hg
  have Br:=Aside0.mk hb
  have HPK:=Aside0.mk hpk
  have HTL:=Aside0.mk hTl
  have HTD:=Aside0.mk hTd
  have HM:=Aside0.mk hm
  have HY:=Aside0.mk hy
  have HY2:=Aside0.mk hy2
  have HT:=Aside0.mk (show strOfNums ((l.drop k).take m)=s by rw [hT,hs])
  have HK:Aside0 (Kept w w (fun k=>k=g)):=⟨Kept.refl _ _⟩
  have es:s.toList.isEmpty=false:=by rw [hs];exact strNe hTl.1
  have H58:=Aside0.mk (show Lib.indexByte s.data.toList 58 < 0 by rw [hs];exact noIdx_str (c:=58) hTd (by decide))
  have H59:=Aside0.mk (show Lib.indexByte s.data.toList 59 < 0 by rw [hs];exact noIdx_str (c:=59) hTd (by decide))
  have e60:decide (60≤p)=false:=decide_eq_false (by omega)
  clear hC hl hlc hB hg hb hpk hp hT hTl hTd hm hy hy2 hs
  have qr:=cells8 Br.out
  refine (callsIn_wide (n:=10)).1 ?_
  refine callsIn_of_wp_marks Tryz.func59 rfl trivial ?_ rfl
  simp only [Tryz.ntmps59,List.size_toArray,List.length_cons,List.length_nil,Nat.reduceAdd,Nat.reduceSub,Array.replicate_succ,Array.replicate_zero,List.push_toArray,List.append_toArray,List.nil_append,List.cons_append]
  refine wpIn_wide.2 ?_
  go_wp2_with (first|(refine bx 1 #[.pointer (some ⟨g,0,none⟩)] 129 (h:=?_);intro g1 hg w1 hbox hb;have HBo:=HB;replace Br:=kb Br hb;clear qr;have qr:=cells8 Br.out;replace HB:=bh HB hb;replace HK:=Aside0.mk (by first | exact Kept.below HK.out hb | exact Kept.below (Kept.below HK.out (below_drew1 (Below.refl _ _))) hb);have B1:=Aside0.mk hbox;have q1_0:=cells1 B1.out;have G1:=gG HBo hg;clear hbox hb hg HBo)|(go_at_call 58;refine (peek_calls g A c l k kind priv fin (.slice none 0 0) inter data w0 _ HC.out HL.out HB.out Gr.out Br.out p HPK.out).mono ?_;rintro e w2 ⟨rfl,hb⟩;replace Br:=kb Br hb;clear qr;have qr:=cells8 Br.out;replace B1:=kb B1 hb;clear q1_0;have q1_0:=cells1 B1.out;replace HB:=bh HB hb;replace HK:=Aside0.mk (by first | exact Kept.below HK.out hb | exact Kept.below (Kept.below HK.out (below_drew1 (Below.refl _ _))) hb);clear hb)|(go_at_call 61;refine (run_calls g A c l k kind priv fin (.slice none 0 0) inter data w0 _ HC.out HL.out HB.out Gr.out Br.out HLC.out 48 59 m HM.out y HY.out HY2.out).mono ?_;rintro e w3 ⟨rfl,hbr,hb,hk⟩;rw [HT.out];have B1_:=Aside0.mk ((hk.2 g1 (blk_lt B1.out) (blk_ne B1.out Br.out (by decide))).trans B1.out);have HK_:=Aside0.mk (Kept.then_ HK.out hk (fun _ h=>.inl h));clear B1 Br HB HK q1_0 qr;have B1:=B1_;have HK:=HK_;clear B1_ HK_;have Br:=Aside0.mk hbr;have HB:=Aside0.mk hb;clear hbr hb hk;have q1_0:=cells1 B1.out;have qr:=cells8 Br.out)|(go_at_call 110;refine (splitSeq_calls s 59 _).mono ?_;rintro e w4 ⟨z0,z1,z2,rfl,k0,k1,k2,n0,n1,n2,ne,hb⟩;have NZ:=Aside0.mk (Nat.le_trans HB.out.size n1);have NZw:=Aside0.mk (Nat.le_trans HK.out.1 n1);have NE1:=Aside0.mk (show g1≠z1 from fun e=>absurd (blk_lt B1.out) (by rw [e];omega));have NEr:=Aside0.mk (show g≠z1 from fun e=>absurd (blk_lt Br.out) (by rw [e];omega));replace Br:=kb Br hb;clear qr;have qr:=cells8 Br.out;replace B1:=kb B1 hb;clear q1_0;have q1_0:=cells1 B1.out;replace HB:=bh HB hb;replace HK:=Aside0.mk (by first | exact Kept.below HK.out hb | exact Kept.below (Kept.below HK.out (below_drew1 (Below.refl _ _))) hb);have K0:=Aside0.mk k0;have K1:=Aside0.mk k1;have K2:=Aside0.mk k2;clear k0 k1 k2 n0 n1 n2 ne hb))
  have hltz:=blk_lt K1.out
  have HN0w:=Aside0.mk HB.out.size
  refine (wpIn_wide (n:=10)).1 ?_
  refine range_nR (F:=Fence.wide) (n:=10) (w:=w4) (b:=z1) (n₀:=w0.heap.size) hltz HB.out.size rfl (by decide) (gf:=227) (lb:=#[.pointer (some ⟨z1,0,none⟩),.pointer (some ⟨z0,0,none⟩),.pointer (some ⟨z2,0,none⟩)]) rfl trivial (enters_of Tryz.func227 (by kernel_rfl) rfl) (encs:=fun x:ByteArray=>#[.string x]) (all:=[s])
    (fun W hW=>splitSeq_seq 9 (by decide) s 59 H59.out z1 w0.heap.size z0 z1 z2 W (blk_below K0.out hW) (blk_below K1.out hW) (blk_below K2.out hW)) (fun _=>rfl)
    (PmS w0 w w4.heap.size g g1 z1 (fun ps:Value=>#[.slice A l.length c,.int .i64 ((k+m:Nat):Int),.int .i64 kind,.int .u8 priv,ps,.string inter,.int .u8 fin,.string data]) (takeV T)) (PmS_stb w0 w _ _ _ _ _ _ _ NEr.out NE1.out HB.out.size NZ.out HK.out.1 NZw.out) ⟨Br.out,B1.out,HB.out,HK.out,Nat.le_refl _⟩
    (fun x=>{ tmps:=#[.pointer (some ⟨g,0,none⟩),.pointer (some ⟨g1,0,none⟩),.int .u8 p,.string s,.string x,undef,undef,.pointer (some ⟨g,0,none⟩),.pointer (some ⟨g,0,none⟩),.pointer (some ⟨g,0,none⟩),.int .u8 p,.int .u8 p,.bool false,.bool false,undef,undef,.bool false,undef,undef,undef,undef,undef,undef,undef,undef,.pointer (some ⟨g,0,none⟩),.pointer (some ⟨g,0,none⟩),.pointer (some ⟨g,0,none⟩),.string s,.string s,.bool false,.string s,.func (.func 227) #[] #[.pointer (some ⟨z1,0,none⟩),.pointer (some ⟨z0,0,none⟩),.pointer (some ⟨z2,0,none⟩)],.string x,undef,undef,undef,undef,undef,undef,undef,undef,undef,undef,undef,undef,undef,undef,undef,undef,undef,undef,undef,undef],defers:=[] }) ?assign ?body ?done
  case assign =>
    intro l x W K hK
    gi_wp2
    exact hK
  case body =>
    intro lr kq x Wr hlr hrec hS hk
    cases kq with
    | succ kq=>simp at hk
    | zero =>
      obtain rfl:s=x:=by simpa using hk
      clear Br B1 HB HK qr q1_0
      obtain ⟨hs1,hs2,hs3,hs4,hs5⟩:=hS
      have HLZ0:=Aside0.mk (Nat.lt_of_lt_of_le hltz hs5)
      have HN00:=Aside0.mk hs3.size
      have HREC:=Aside0.mk hrec
      have hbl:=blk_new Wr (.cells #[.slice none 0 0] 66 (0,0))
      have hB0:Below Wr.heap.size Wr (Wr.alloc (.cells #[.slice none 0 0] 66 (0,0))):=below_alloc (Below.refl _ _) _
      have HDP:1≤10 - 1 - 1:=by decide
      gi_wp2
      refine ⟨trivial,?_⟩
      refine (CallsIn.inRound lr (callsIn_wide.2 (splitSeq_calls s 58 _))).mono ?_
      rintro e wi ⟨y0,y1,y2,rfl,k0,k1,k2,n0,n1,n2,ne,hb⟩
      have hbW:=below_step hB0 hb
      have Bl0:=blk_below hbl hb
      have Br0:=blk_below (blk_below hs1 hB0) hb
      have B10:=blk_below (blk_below hs2 hB0) hb
      have HB0_:=below_step hs3 hbW
      have HK0_:=Kept.below hs4 hbW
      have hys:Wr.heap.size+1≤y1:=by simpa using n1
      have hy1:=blk_lt k1
      have hlz:z1 < Wr.heap.size:=HLZ0.out
      have hgr:=blk_lt hs1
      have hg1:=blk_lt hs2
      have hw0:w0.heap.size≤Wr.heap.size:=hs3.size
      have hww:w.heap.size≤Wr.heap.size:=hs4.1
      have hwi:=hbW.size
      have HS5:=Aside0.mk (Nat.le_trans hs5 hwi)
      obtain ⟨rr,hrr⟩:=HREC.out
      have hl0:wi.heap[lr]?=some (.loop rr):=(hbW.block lr (lt_rec hrr)).trans hrr
      have P0:=Aside0.mk (show PmI w0 w Wr w4.heap.size wi.heap.size g g1 Wr.heap.size z1 y1 (fun ps:Value=>#[.slice A l.length c,.int .i64 ((k+m:Nat):Int),.int .i64 kind,.int .u8 priv,ps,.string inter,.int .u8 fin,.string data]) (takeV T) 0 wi from ⟨Bl0,Br0,B10,HB0_,HK0_,keepsFrom_below hbW,keeps_below hbW hw0 hlz,Nat.le_refl _⟩)
      have PS:=Aside0.mk (fun kq=>PmI_stb w0 w Wr wi.heap.size w4.heap.size wi.heap.size g g1 Wr.heap.size z1 y1 (fun ps:Value=>#[.slice A l.length c,.int .i64 ((k+m:Nat):Int),.int .i64 kind,.int .u8 priv,ps,.string inter,.int .u8 fin,.string data]) (takeV T) (by omega) (by omega) (by omega) (by omega) (by omega) (by omega) (by omega) hwi hw0 hlz (by omega) kq)
      have HGLw:=Aside0.mk hww
      have HGl:=Aside0.mk hw0
      have HNE1:=Aside0.mk (show Wr.heap.size≠y1 by omega)
      have HNE2:=Aside0.mk (show Wr.heap.size≠z1 by omega)
      have HWI:=Aside0.mk (And.intro hy1 (And.intro (Nat.lt_of_lt_of_le hlz hwi) (Nat.le_trans hw0 hwi)))
      clear hbl hB0 hb hbW Bl0 Br0 B10 HB0_ HK0_ hys hlz hgr hg1 hw0 hww hs1 hs2 hs3 hs4 hs5 n0 n1 n2 ne hrr
      generalize hgl:Wr.heap.size=gl at P0 PS HGLw HGl HNE1 HNE2 ⊢
      clear hgl hwi
      generalize Wr.alloc (.cells #[.slice none 0 0] 66 (0,0))=wa at *
      gi_wp2
      refine range_nN (F:=Fence.wide.inRound lr) (n:=10 - 1 - 1) (w:=wi) (b:=y1) (n₀:=w0.heap.size) (l₀:=lr) (r₀:=rr) hy1 HWI.out.2.2 rfl hl0 (by decide) (gf:=227) (lb:=#[.pointer (some ⟨y1,0,none⟩),.pointer (some ⟨y0,0,none⟩),.pointer (some ⟨y2,0,none⟩)]) rfl trivial (enters_of Tryz.func227 (by kernel_rfl) rfl) (encs:=fun x:ByteArray=>#[.string x]) (all:=[s])
        (fun W hW=>SeqCell.inRound lr (splitSeq_seq (10 - 1 - 1 - 1) (by decide) s 58 H58.out y1 w0.heap.size y0 y1 y2 W (blk_below k0 hW) (blk_below k1 hW) (blk_below k2 hW))) (fun _=>rfl)
        (PmI w0 w Wr w4.heap.size wi.heap.size g g1 gl z1 y1 (fun ps:Value=>#[.slice A l.length c,.int .i64 ((k+m:Nat):Int),.int .i64 kind,.int .u8 priv,ps,.string inter,.int .u8 fin,.string data]) (takeV T)) PS.out P0.out
        (fun y=>{ tmps:=#[.pointer (some ⟨g,0,none⟩),.pointer (some ⟨g1,0,none⟩),.int .u8 p,.string s,.string s,.pointer (some ⟨gl,0,none⟩),.string y,.pointer (some ⟨g,0,none⟩),.pointer (some ⟨g,0,none⟩),.pointer (some ⟨g,0,none⟩),.int .u8 p,.int .u8 p,.bool false,.bool false,undef,undef,.bool false,undef,undef,undef,undef,undef,undef,undef,undef,.pointer (some ⟨g,0,none⟩),.pointer (some ⟨g,0,none⟩),.pointer (some ⟨g,0,none⟩),.string s,.string s,.bool false,.string s,.func (.func 227) #[] #[.pointer (some ⟨z1,0,none⟩),.pointer (some ⟨z0,0,none⟩),.pointer (some ⟨z2,0,none⟩)],.string s,.string s,.func (.func 227) #[] #[.pointer (some ⟨y1,0,none⟩),.pointer (some ⟨y0,0,none⟩),.pointer (some ⟨y2,0,none⟩)],.string y,undef,undef,undef,undef,undef,undef,undef,undef,undef,undef,undef,undef,undef,undef,undef,undef,undef],defers:=[] }) ?assign2 ?body2 ?done2
      case assign2 =>
        intro l2 y W K hK
        gi_wp2
        exact hK
      case body2 =>
        intro l2 k2 y W hS2 hk2
        cases k2 with
        | succ k2=>simp at hk2
        | zero =>
          obtain rfl:s=y:=by simpa using hk2
          obtain ⟨t1,t2,t3,t4,t5,t6,t7,t8⟩:=hS2
          have Bl:=Aside0.mk t1
          have Br:=Aside0.mk t2
          have B1:=Aside0.mk t3
          have HB:=Aside0.mk t4
          have HK:=Aside0.mk t5
          have hKF0:=Aside0.mk t6
          have hKP0:=Aside0.mk t7
          have HN1:=Aside0.mk t8
          have HLY:=Aside0.mk (Nat.lt_of_lt_of_le HWI.out.1 t8)
          have HLZ:=Aside0.mk (Nat.lt_of_lt_of_le HWI.out.2.1 t8)
          have HN0:=Aside0.mk (Nat.le_trans HWI.out.2.2 t8)
          have HW:=Aside0.mk (Below.refl W.heap.size W)
          clear t1 t2 t3 t4 t5 t6 t7 t8
          have ql_0:=cells1 Bl.out
          have qr:=cells8 Br.out
          have q1_0:=cells1 B1.out
          gi_wp2
          refine start_round (m:=6) (S:=fun w'=>w'.cell? ⟨gl,0,none⟩=some (.slice none 0 0)) (ds:=[5]) #[false,false,false,false,false,false] (by kernel_rfl) (by rintro ⟨_,_,h⟩;exact h) (by kernel_rfl) rfl rfl (ql_0) (fun hHeld=>?_)
          refine pu 1 (h:=?_)
          refine tk 0 hHeld (h:=?_)
          refine oS 2 (h:=fun K hK=>?_)
          refine gc Tryz.func111 (number_s T s HS.out HTL.out HTD.out _) (h:=?_)
          rintro e w6 ⟨rfl,hb⟩
          refine ⟨_,rfl,?_⟩
          replace Bl:=kb Bl hb
          clear ql_0
          have ql_0:=cells1 Bl.out
          replace Br:=kb Br hb
          clear qr
          have qr:=cells8 Br.out
          replace B1:=kb B1 hb
          clear q1_0
          have q1_0:=cells1 B1.out
          replace HB:=bh HB hb
          replace HK:=Aside0.mk (by first | exact Kept.below HK.out hb | exact Kept.below (Kept.below HK.out (below_drew1 (Below.refl _ _))) hb)
          replace HW:=bh HW hb
          clear hb
          refine hK.out _ _ (ql_0) (fun hHeld=>?_)
          clear hK K
          refine nm 39 (h:=?_)
          refine oS 3 (h:=fun K hK=>?_)
          refine slice_step 40 (by rfl) (by rfl) (cs:=#[.int .i64 (takeV T)]) (t:=3) (by first|(go_simp;done)|(go_simp;rfl)) ?_
          intro gn hg w7 hbox hb
          have HBo:=HB
          replace Bl:=kb Bl hb
          clear ql_0
          have ql_0:=cells1 Bl.out
          replace Br:=kb Br hb
          clear qr
          have qr:=cells8 Br.out
          replace B1:=kb B1 hb
          clear q1_0
          have q1_0:=cells1 B1.out
          replace HB:=bh HB hb
          replace HK:=Aside0.mk (by first | exact Kept.below HK.out hb | exact Kept.below (Kept.below HK.out (below_drew1 (Below.refl _ _))) hb)
          replace HW:=bh HW hb
          have Bn:=Aside0.mk hbox
          have qn_0:=cells1 Bn.out
          have Gn:=Aside0.mk (show w0.heap.size≤gn by rw [hg];first | exact below_size HBo.out | exact below_size (below_drew1 HBo.out))
          clear hbox hb hg HBo
          refine hK.out _ _ (ql_0) (fun hHeld=>?_)
          clear hK K
          refine nm 40 (h:=?_)
          refine oS 4 (h:=fun K hK=>?_)
          refine Kd.R_append_rows_step (Kd.int .i64) (w0:=w0) w0.heap.size (by rfl) (.tmp 37) (.tmp 40) 66 3 (.int .i64 0) 8 rfl Tryz.underlying66 info3 rfl (by decide) (by decide) (.slice none 0 0) [] [takeV T] (some ⟨gn,0,none⟩) 1 1 (fun k=>k≠y1∧k≠z1) (fun _=>False) rfl rfl (Kd.R_nil _ _ _ _ _) (lit_one Bn.out) (fun _ _ h=>h) (fun _ h=>h.elim) (fun k hk=>⟨fun e=>absurd HLY.out (by have:=HW.out.size;omega),fun e=>absurd HLZ.out (by have:=HW.out.size;omega)⟩) HB.out HB.out.size (by simp) ?_
          intro v1 w9 hR hb' hg hat
          have hb:=below_none hg
          replace Bl:=kb Bl hb
          clear ql_0
          have ql_0:=cells1 Bl.out
          replace Br:=kb Br hb
          clear qr
          have qr:=cells8 Br.out
          replace B1:=kb B1 hb
          clear q1_0
          have q1_0:=cells1 B1.out
          replace Bn:=kb Bn hb
          clear qn_0
          have qn_0:=cells1 Bn.out
          replace HB:=bh HB hb
          replace HK:=Aside0.mk (by first | exact Kept.below HK.out hb | exact Kept.below (Kept.below HK.out (below_drew1 (Below.refl _ _))) hb)
          replace HW:=bh HW hb
          have HRv:=Aside0.mk hR
          obtain ⟨A9,c9,rfl⟩:=Kd.R_slice hR
          clear hb hb' hg hat hR
          refine hK.out _ _ (ql_0) (fun hHeld=>?_)
          clear hK K
          refine nm 41 (h:=?_)
          refine lN 5 (h:=fun K hK=>?_)
          refine store_step (by rfl) (by rfl) 66 (.tmp 5) (.tmp 41) (by rfl) gl 0 66 _ Bl.out (by rfl) _ (by rfl) [.slice A9 ([]++[takeV T]:List Int).length c9] rfl (by kernel_rfl) (by show 0+1≤1;decide) (by simp [Value.oneCell']) #[.slice A9 ([]++[takeV T]:List Int).length c9] rfl ?_
          intro w8 hS hg
          replace Br:=gnx Br hg Bl
          clear qr
          have qr:=cells8 Br.out
          replace B1:=gnx B1 hg Bl
          clear q1_0
          have q1_0:=cells1 B1.out
          replace Bn:=gnx Bn hg Bl
          clear qn_0
          have qn_0:=cells1 Bn.out
          replace HB:=gb HB hg HGl
          replace HK:=Aside0.mk (Kept.of_grown hg HK.out (fun k hk=>.inr (by injection hk with hk;rw [← hk];exact HGLw.out)))
          have HKF:=Aside0.mk (kf_grown (D:=wi.heap.size) HW.out hg Bl.out)
          have HKF0:=Aside0.mk (hKF0.out.trans (kf_grown (D:=w4.heap.size) HW.out hg Bl.out))
          have HKP:=Aside0.mk (kp_grown (b:=y1) HN0.out HLY.out HW.out hg HGl.out HNE1.out)
          have HKP0:=Aside0.mk (hKP0.out.trans (kp_grown (b:=z1) HN0.out HLZ.out HW.out hg HGl.out HNE2.out))
          have HRx:=Aside0.mk (R_grownT HRv.out Bl.out (by decide) hg)
          have HSZ:=Aside0.mk (Nat.le_trans HW.out.size hg.size)
          clear Bl ql_0 hg
          have Bl:=Aside0.mk hS
          clear hS
          have ql_0:=cells1 Bl.out
          refine hK.out _ _ ?_
          clear hK K
          refine done_ (by kernel_rfl) ?_
          exact ⟨HKF.out,HKP.out,_,Bl.out,HRx.out,Br.out,B1.out,HB.out,HK.out,HKF0.out,HKP0.out,Nat.le_trans HN1.out HSZ.out⟩
      case done2 =>
        intro W hS2
        obtain ⟨v,t1,t0,t2,t3,t4,t5,t6,t7,t8⟩:=hS2
        obtain ⟨Av,cv,rfl⟩:=Kd.R_slice t0
        have HRi:=Aside0.mk t0
        have Bl:=Aside0.mk t1
        have Br:=Aside0.mk t2
        have B1:=Aside0.mk t3
        have HB:=Aside0.mk t4
        have HK:=Aside0.mk t5
        have hKF0:=Aside0.mk t6
        have hKP0:=Aside0.mk t7
        have HN1:=Aside0.mk (Nat.le_trans HS5.out t8)
        have HLZ:=Aside0.mk (Nat.lt_of_lt_of_le HWI.out.2.1 t8)
        have HN0:=Aside0.mk (Nat.le_trans HWI.out.2.2 t8)
        have HW:=Aside0.mk (Below.refl W.heap.size W)
        clear t0 t1 t2 t3 t4 t5 t6 t7 t8
        have ql_0:=cells1 Bl.out
        have qr:=cells8 Br.out
        have q1_0:=cells1 B1.out
        gi_wp2
        refine start_round (m:=13) (S:=fun w'=>w'.cell? ⟨g1,0,none⟩=some (.pointer (some ⟨g,0,none⟩))∧w'.cell? ⟨g,4,none⟩=some (.slice none 0 0)∧w'.cell? ⟨gl,0,none⟩=some (.slice Av 1 cv)) (ds:=[12]) #[false,false,false,false,false,false,false,false,false,false,false,false,false] (by kernel_rfl) (by rintro ⟨_,_,h⟩;exact h) (by kernel_rfl) rfl rfl ⟨q1_0,qr.2.2.2.2.1,ql_0⟩ (fun hHeld=>?_)
        refine tk 0 hHeld (h:=?_)
        refine tk 1 hHeld (h:=?_)
        refine pu 2 (h:=?_)
        refine pu 3 (h:=?_)
        refine pu 4 (h:=?_)
        refine tk 5 hHeld (h:=?_)
        refine tk 6 hHeld (h:=?_)
        refine oS 7 (h:=fun K hK=>?_)
        refine slice_step 49 (by rfl) (by rfl) (cs:=#[.slice Av 1 cv]) (t:=66) (by first|(go_simp;done)|(go_simp;rfl)) ?_
        intro gn hg w7 hbox hb
        have Ll_:=blk_lt Bl.out
        have HBo:=HB
        replace Bl:=kb Bl hb
        clear ql_0
        have ql_0:=cells1 Bl.out
        replace Br:=kb Br hb
        clear qr
        have qr:=cells8 Br.out
        replace B1:=kb B1 hb
        clear q1_0
        have q1_0:=cells1 B1.out
        replace HB:=bh HB hb
        replace HK:=Aside0.mk (by first | exact Kept.below HK.out hb | exact Kept.below (Kept.below HK.out (below_drew1 (Below.refl _ _))) hb)
        replace HW:=bh HW hb
        replace HRi:=Aside0.mk (by first | exact Kd.R_below HRi.out hb | exact Kd.R_below (Kd.R_drew HRi.out) hb)
        have Bn:=Aside0.mk hbox
        have qn_0:=cells1 Bn.out
        have NEn_l:=Aside0.mk (show gn≠gl by rw [hg];exact fun e=>absurd Ll_ (by rw [← e];exact Nat.lt_irrefl _))
        have NEl_n:=Aside0.mk (Ne.symm NEn_l.out)
        clear Ll_
        have Gn:=Aside0.mk (show w0.heap.size≤gn by rw [hg];first | exact below_size HBo.out | exact below_size (below_drew1 HBo.out))
        clear hbox hb hg HBo
        refine hK.out _ _ ⟨q1_0,qr.2.2.2.2.1,ql_0⟩ (fun hHeld=>?_)
        clear hK K
        refine nm 49 (h:=?_)
        refine oS 8 (h:=fun K hK=>?_)
        refine Kd.R_append_rows_step kli (w0:=w0) (Rr:=fun p cs=>p=[takeV T]∧cs=[.slice Av 1 cv]) w0.heap.size (by rfl) (.tmp 47) (.tmp 49) 42 66 (.slice none 0 0) 24 rfl Tryz.underlying42 infoLI rfl (by decide) (by decide) (.slice none 0 0) [] [[takeV T]] (some ⟨gn,0,none⟩) 1 1 (fun k=>k≠z1) (fun k=>k≠y1∧k≠z1) rfl rfl (Kd.R_nil _ _ _ _ _) (lit_row Bn.out) (fun p cs h=>by obtain ⟨rfl,rfl⟩:=h;exact ⟨_,rfl,HRi.out⟩) (fun k h=>⟨h.2,by simp [Value.ownBlock]⟩) (fun k hk e=>absurd HLZ.out (by have:=HW.out.size;omega)) HB.out HB.out.size (by simp) ?_
        intro v1 w9 hR hb' hg hat
        have hb:=below_none hg
        replace Bl:=kb Bl hb
        clear ql_0
        have ql_0:=cells1 Bl.out
        replace Br:=kb Br hb
        clear qr
        have qr:=cells8 Br.out
        replace B1:=kb B1 hb
        clear q1_0
        have q1_0:=cells1 B1.out
        replace Bn:=kb Bn hb
        clear qn_0
        have qn_0:=cells1 Bn.out
        replace HB:=bh HB hb
        replace HK:=Aside0.mk (by first | exact Kept.below HK.out hb | exact Kept.below (Kept.below HK.out (below_drew1 (Below.refl _ _))) hb)
        replace HW:=bh HW hb
        replace HRi:=Aside0.mk (by first | exact Kd.R_below HRi.out hb | exact Kd.R_below (Kd.R_drew HRi.out) hb)
        have HRv:=Aside0.mk hR
        obtain ⟨A9,c9,rfl⟩:=Kd.R_slice hR
        clear hb hb' hg hat hR
        refine hK.out _ _ ⟨q1_0,qr.2.2.2.2.1,ql_0⟩ (fun hHeld=>?_)
        clear hK K
        refine nm 50 (h:=?_)
        refine pu 9 (h:=?_)
        refine pu 10 (h:=?_)
        refine pu 11 (h:=?_)
        refine lN 12 (h:=fun K hK=>?_)
        refine store_step (by rfl) (by rfl) 42 (.tmp 53) (.tmp 50) (by rfl) g 4 80 _ Br.out (by rfl) _ (by rfl) [.slice A9 ([]++[[takeV T]]:List (List Int)).length c9] rfl (by kernel_rfl) (by show 4+1≤8;decide) (by simp [Value.oneCell']) #[.slice A l.length c,.int .i64 ((k+m:Nat):Int),.int .i64 kind,.int .u8 priv,.slice A9 ([]++[[takeV T]]:List (List Int)).length c9,.string inter,.int .u8 fin,.string data] rfl ?_
        intro w8 hS hg
        replace Bl:=gnx Bl hg Br
        clear ql_0
        have ql_0:=cells1 Bl.out
        replace B1:=gnx B1 hg Br
        clear q1_0
        have q1_0:=cells1 B1.out
        replace Bn:=gnx Bn hg Br
        clear qn_0
        have qn_0:=cells1 Bn.out
        replace HB:=gb HB hg Gr
        replace HK:=Aside0.mk (Kept.of_grown hg HK.out (fun k hk=>.inl (by injection hk with hk;exact hk.symm)))
        have HKF0:=Aside0.mk (hKF0.out.trans (kf_grown (D:=w4.heap.size) HW.out hg Br.out))
        have HKP0:=Aside0.mk (hKP0.out.trans (kp_grown (b:=z1) HN0.out HLZ.out HW.out hg Gr.out NEr.out))
        have HRx:=Aside0.mk (R_grownT HRv.out Br.out (by decide) hg)
        have HSZ:=Aside0.mk (Nat.le_trans HW.out.size hg.size)
        skip
        clear Br qr hg
        have Br:=Aside0.mk hS
        clear hS
        have qr:=cells8 Br.out
        refine hK.out _ _ ?_
        clear hK K
        refine done_ (by kernel_rfl) ?_
        exact ⟨HKF0.out,HKP0.out,_,Br.out,HRx.out,HB.out,HK.out,Nat.le_trans HN1.out HSZ.out⟩
  case done =>
    intro D W hD hS hDW
    obtain ⟨v,hv,hR,hB2,hK2,hN2⟩:=hS
    gi_wp2
    refine ⟨by simp,.inl ⟨_,_,rfl,run_takeDeferred hDW,?_⟩⟩
    exact ⟨_,results_none rfl _ _ _,rfl,_,blk_putD hv hDW,Kd.R_mono (R_putD hR hDW) (fun _ _=>trivial),below_putD hB2 (Nat.le_trans HB.out.size hD),kept_putD hK2 (Nat.le_trans HK.out.1 hD)⟩
end Go.Proofs.YthjacokachgmfaaGreatDoor.H
end
section
namespace Go.Proofs.YthjacokachgmfaaGreatDoor.H
open Go Go.RowKit YthjacokachgmfaaGreatDoorW.PrintWords YthjacokachgmfaaGreatDoorW.PrintLast YthjacokachgmfaaGreatDoorW.PrintMore
open Ev
set_option maxRecDepth 100000
theorem bEqual_calls (A0 A1:Option Addr) (n0 n1 c0 c1:Nat) (l0 l1:List Int) (r:Bool) (w:World) (h0:Kd.C (Kd.int .u8) w A0 n0 l0) (h1:Kd.C (Kd.int .u8) w A1 n1 l1) (hr:((strOfNums l0).toList == (strOfNums l1).toList)=r) :
    Calls Tryz.prog 65 #[.slice A0 n0 c0,.slice A1 n1 c1] w fun e w'=>e=.returned (.bool r)∧Below w.heap.size w w':=by
  have e0:n0=l0.length:=(Kd.C_len h0).symm
  have e1:n1=l1.length:=(Kd.C_len h1).symm
  subst e0
  subst e1
  have k0:=Kd.C_string (c:=c0) Tryz.underlying22 Tryz.underlying5 Tryz.underlying9 h0
  have k1:=Kd.C_string (c:=c1) Tryz.underlying22 Tryz.underlying5 Tryz.underlying9 h1
  obtain ⟨m0,hm0⟩:∃ m,l0.length=m:=⟨_,rfl⟩
  obtain ⟨m1,hm1⟩:∃ m,l1.length=m:=⟨_,rfl⟩
  obtain ⟨s0,hs0⟩:∃ s,strOfNums l0=s:=⟨_,rfl⟩
  obtain ⟨s1,hs1⟩:∃ s,strOfNums l1=s:=⟨_,rfl⟩
  rw [hm0,hs0] at k0
  rw [hm1,hs1] at k1
  rw [hs0,hs1] at hr
  rw [hm0,hm1]
  have HR:=Aside0.mk hr
  clear h0 h1 hm0 hm1 hs0 hs1 hr
  go_enter Tryz.func65,Tryz.ntmps65
  go_wp2
  go_ret
  exact ⟨by rw [← HR.out];rfl,Below.refl _ _⟩
theorem cutTo_row {A:Option Addr} {c:Nat} {l:List Int} {w0:World} (hC:Kd.C (Kd.int .u8) w0 A l.length l) (hc:l.length≤c) (m:Nat) (h:m≤l.length) :
    (∀ W:World,(Instr.slice 22 (.slice A l.length c) none (some (.int .i64 (m:Int))) none).run Tryz.prog W=.ok (.slice A m c) W)∧Kd.C (Kd.int .u8) w0 A (l.take m).length (l.take m)∧(l.take m).length=m:=by
  obtain ⟨i0,hi0,_,hsz,_⟩:=info_parts info5c
  have h1:=cut_to (P:=Tryz.prog) 22 5 .i64 Tryz.underlying22 hi0 A l.length c (m:Int) (by omega) (by omega) hc
  simp only [Int.toNat_natCast] at h1
  exact ⟨h1,Kd.C_take hC h,by rw [List.length_take];omega⟩
theorem cutFrom_row {A:Option Addr} {c:Nat} {l:List Int} {w0:World} (hC:Kd.C (Kd.int .u8) w0 A l.length l) (hc:l.length≤c) (m:Nat) (h:m≤l.length) :
    ∃ A' c',(∀ W:World,(Instr.slice 22 (.slice A l.length c) (some (.int .i64 (m:Int))) none none).run Tryz.prog W=.ok (.slice A' (l.length - m) c') W)∧Kd.C (Kd.int .u8) w0 A' (l.drop m).length (l.drop m)∧(l.drop m).length=l.length - m∧(l.drop m).length≤c':=by
  obtain ⟨i0,hi0,_,hsz,_⟩:=info_parts info5c
  have h1:=cut_from (P:=Tryz.prog) 22 5 .i64 Tryz.underlying22 hi0 1 hsz A l.length c (m:Int) (by omega) (by omega)
  have h2:=Kd.C_drop (m:=m) (c:=c) hC h hc
  simp only [Int.toNat_natCast] at h1
  exact ⟨_,_,h1,h2,List.length_drop,by rw [List.length_drop];omega⟩
def pfxB (l0 l1:List Int):Bool:=decide (l1.length≤l0.length)&&((strOfNums (l0.take l1.length)).toList == (strOfNums l1).toList)
theorem hasPrefix_calls (A0 A1:Option Addr) (c0 c1:Nat) (l0 l1:List Int) (w:World) (h0:Kd.C (Kd.int .u8) w A0 l0.length l0) (h1:Kd.C (Kd.int .u8) w A1 l1.length l1) (hc:l0.length≤c0) :
    Calls Tryz.prog 28 #[.slice A0 l0.length c0,.slice A1 l1.length c1] w fun e w'=>e=.returned (.bool (pfxB l0 l1))∧Below w.heap.size w w':=by
  have H1:=Aside0.mk h1
  obtain ⟨m1,hm1⟩:∃ m,l1.length=m:=⟨_,rfl⟩
  unfold pfxB
  rw [hm1] at H1 ⊢
  by_cases hle:m1≤l0.length
  · obtain ⟨hcut,hC,hl⟩:=cutTo_row h0 hc m1 hle
    rw [hl] at hC
    obtain ⟨m0,hm0⟩:∃ m,l0.length=m:=⟨_,rfl⟩
    rw [hm0] at hcut hle ⊢
    have d1:decide (m1≤m0)=true:=decide_eq_true hle
    have d2:decide ((m1:Int)≤(m0:Int))=true:=decide_eq_true (by omega)
    rw [d1,Bool.true_and]
    have HC:=Aside0.mk hC
    clear h0 h1 hc hC hl hm0 hm1 hle
    go_enter Tryz.func28,Tryz.ntmps28
    go_wp2_with (first|(go_at_call 65;refine (bEqual_calls A0 A1 m1 m1 c0 c1 (l0.take m1) l1 _ _ HC.out H1.out rfl).mono ?_;rintro e w1 ⟨rfl,hb⟩;have HB:=Aside0.mk hb;clear hb))
    go_ret
    exact ⟨rfl,HB.out⟩
  · obtain ⟨m0,hm0⟩:∃ m,l0.length=m:=⟨_,rfl⟩
    rw [hm0] at hle ⊢
    have d1:decide (m1≤m0)=false:=decide_eq_false hle
    have d2:decide ((m1:Int)≤(m0:Int))=false:=decide_eq_false (by omega)
    rw [d1,Bool.false_and]
    clear h0 h1 hc hm0 hm1 hle
    go_enter Tryz.func28,Tryz.ntmps28
    go_wp2
    go_ret
    exact ⟨rfl,Below.refl _ _⟩
theorem cutPrefix_t (A0 A1 A':Option Addr) (c0 c1 n' c':Nat) (l0 l1:List Int) (w:World) (h0:Kd.C (Kd.int .u8) w A0 l0.length l0) (h1:Kd.C (Kd.int .u8) w A1 l1.length l1) (hc:l0.length≤c0) (hp:pfxB l0 l1=true)
    (hcut:∀ W:World,(Instr.slice 22 (.slice A0 l0.length c0) (some (.int .i64 (l1.length:Int))) none none).run Tryz.prog W=.ok (.slice A' n' c') W) :
    Calls Tryz.prog 238 #[.slice A0 l0.length c0,.slice A1 l1.length c1] w fun e w'=>e=.returned (.tuple #[.slice A' n' c',.bool true])∧Below w.heap.size w w':=by
  have HH:=Aside0.mk (hasPrefix_calls A0 A1 c0 c1 l0 l1 w h0 h1 hc)
  rw [hp] at HH
  obtain ⟨m1,hm1⟩:∃ m,l1.length=m:=⟨_,rfl⟩
  obtain ⟨m0,hm0⟩:∃ m,l0.length=m:=⟨_,rfl⟩
  rw [hm0,hm1] at HH hcut ⊢
  clear h0 h1 hc hp hm0 hm1
  go_enter Tryz.func238,Tryz.ntmps238
  go_wp2_with (first|(go_at_call 28;refine HH.out.mono ?_;rintro e w1 ⟨rfl,hb⟩;have HB:=Aside0.mk hb;clear hb))
  go_ret2
  exact ⟨rfl,HB.out⟩
theorem cutPrefix_f (A0 A1:Option Addr) (c0 c1:Nat) (l0 l1:List Int) (w:World) (h0:Kd.C (Kd.int .u8) w A0 l0.length l0) (h1:Kd.C (Kd.int .u8) w A1 l1.length l1) (hc:l0.length≤c0) (hp:pfxB l0 l1=false) :
    Calls Tryz.prog 238 #[.slice A0 l0.length c0,.slice A1 l1.length c1] w fun e w'=>e=.returned (.tuple #[.slice A0 l0.length c0,.bool false])∧Below w.heap.size w w':=by
  have HH:=Aside0.mk (hasPrefix_calls A0 A1 c0 c1 l0 l1 w h0 h1 hc)
  rw [hp] at HH
  obtain ⟨m1,hm1⟩:∃ m,l1.length=m:=⟨_,rfl⟩
  obtain ⟨m0,hm0⟩:∃ m,l0.length=m:=⟨_,rfl⟩
  rw [hm0,hm1] at HH ⊢
  clear h0 h1 hc hp hm0 hm1
  go_enter Tryz.func238,Tryz.ntmps238
  go_wp2_with (first|(go_at_call 28;refine HH.out.mono ?_;rintro e w1 ⟨rfl,hb⟩;have HB:=Aside0.mk hb;clear hb))
  go_ret2
  exact ⟨rfl,HB.out⟩
end Go.Proofs.YthjacokachgmfaaGreatDoor.H
end
