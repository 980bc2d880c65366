import Derived.Shelf.Unicode.PredsPay
import Derived.Lib.AppendIntMem
import Derived.Lib.ItoaLen
import Derived.Lib.Join
import Derived.Test.YthjacokachgmfaaGreatDoorProg
import Derived.WalkSpells
import Derived.Outline
import Derived.Test.YthjacokachgmfaaGreatDoorT01
import Derived.Test.YthjacokachgmfaaGreatDoorT02
import Derived.Test.YthjacokachgmfaaGreatDoorT03
import Derived.Test.YthjacokachgmfaaGreatDoorT04
import Derived.Test.YthjacokachgmfaaGreatDoorT05
import Derived.Test.YthjacokachgmfaaGreatDoorT07
set_option linter.unusedVariables false
set_option linter.unusedSimpArgs false
section
namespace Go.Proofs.YthjacokachgmfaaGreatDoor.H
open Go Go.RowKit YthjacokachgmfaaGreatDoorW.PrintWords YthjacokachgmfaaGreatDoorW.PrintLast YthjacokachgmfaaGreatDoorW.PrintMore
set_option maxRecDepth 100000
def Pow (w : World) : Prop := Lib.TabIs Tryz.prog w "internal/strconv.uint64pow10" .u64 Lib.pow10Tab
theorem powG : (Tryz.prog.globalNamed "internal/strconv.uint64pow10").isSome = true := by kernel_rfl
theorem Pow.below {w w':World} (h:Pow w) (hb:Below w.heap.size w w'):Pow w':=by
  obtain ⟨g,hg⟩:=Option.isSome_iff_exists.1 powG
  exact TabIs_below hg h hb
def numT (n:Int):List UInt8:=if n < 0 then [] else Lib.itoa n
theorem numText_calls (n:Int) (h1:-9223372036854775808≤n) (h2:n≤9223372036854775807) (w:World) (hp:Pow w) :
    Calls Tryz.prog 179 #[.int .i64 n] w fun e w'=>e=.returned (.string ⟨(numT n).toArray⟩)∧Below w.heap.size w w':=by
  have HP:=Aside0.mk hp
  have HB:=Aside0.mk (And.intro h1 h2)
  clear hp h1 h2
  by_cases hn:n < 0
  · have e1:decide (n < 0)=true:=decide_eq_true hn
    have e2:=Aside0.mk (show numT n=[] from if_pos hn)
    clear hn
    go_enter Tryz.func179,Tryz.ntmps179
    go_wp2
    go_ret
    exact ⟨by rw [e2.out];rfl,Below.refl _ _⟩
  · have e1:decide (n < 0)=false:=decide_eq_false hn
    have e2:=Aside0.mk (show numT n=Lib.itoa n from if_neg hn)
    clear hn
    go_enter Tryz.func179,Tryz.ntmps179
    go_wp2_with (go_at_call 236;refine (Tryz.strconv_Itoa n HB.out.1 HB.out.2 w HP.out).mono ?_;rintro e w1 ⟨rfl,k,os,hw⟩;have HW:=Aside0.mk hw;clear hw)
    go_ret
    refine ⟨by rw [e2.out];rfl,?_⟩
    rw [HW.out]
    exact Lib.below_grow _ _ (Nat.le_refl _) k os
def kstr:Kd ByteArray:=Kd.scalar Value.string (fun _=>rfl)
theorem infoStr:(Tryz.prog.info? 9).map (fun i=>(i.zero,i.size,i.bytes))=some (some (.string ⟨#[]⟩),1,16):=by kernel_rfl
def bstr (l:List UInt8):ByteArray:=⟨l.toArray⟩
theorem bstr_list (l:List (List UInt8)):(l.map bstr).map (fun x=>x.data.toList)=l:=by simp [bstr,Function.comp_def]
theorem numT_len (n:Int) (h1:-9223372036854775808≤n) (h2:n≤9223372036854775807):(numT n).length≤21:=by
  unfold numT
  split
  · simp
  · exact Lib.itoa_length_le n h1 h2
theorem join_le (l:List (List UInt8)) (sep:List UInt8) (m:Nat) (h:∀ x∈l,x.length≤m):(Lib.join l sep).length≤l.length * (m+sep.length):=by
  cases l with
  | nil=>simp [Lib.join_nil]
  | cons x r =>
    rw [Lib.join_length]
    have key:∀ r:List (List UInt8),(∀ x∈r,x.length≤m)→Lib.lens r≤r.length * m:=by
      intro r
      induction r with
      | nil=>intro _;simp [Lib.lens]
      | cons y r ih =>
        intro hr
        have h1:=hr y (by simp)
        have h2:=ih (fun x hx=>hr x (by simp [hx]))
        simp [Lib.lens] at h2 ⊢
        rw [Nat.add_mul]
        omega
    have h3:=key (x :: r) h
    simp only [List.length_cons] at h3 ⊢
    have e1:(r.length+1) * m=r.length * m+m:=Nat.succ_mul _ _
    have e2:(r.length+1) * (m+sep.length)=r.length * m+r.length * sep.length+m+sep.length:=by rw [Nat.succ_mul,Nat.mul_add];omega
    have e3:sep.length * r.length=r.length * sep.length:=Nat.mul_comm _ _
    omega
theorem join_row (w0 w:World) (A:Option Addr) (n c:Nat) (lb:List ByteArray) (l:List (List UInt8)) (sep:List UInt8) (ok:Nat→Prop) (base:Nat) (hr:Kd.R kstr 9 w base ok (.slice A n c) lb) (hlb:lb.map (fun x=>x.data.toList)=l) (hb:Below w0.heap.size w0 w) (hl:lb.length≤140737488355328) (hj:(Lib.join l sep).length≤140737488355328) :
    Calls Tryz.prog 115 #[.slice A n c,.string ⟨sep.toArray⟩] w fun e w'=>e=.returned (.string ⟨(Lib.join l sep).toArray⟩)∧Below w0.heap.size w0 w':=by
  obtain ⟨hn,hlc,hc⟩:=Kd.R_reads' hr
  subst hn
  rcases Nat.eq_zero_or_pos lb.length with h0 | h0
  · obtain rfl:=List.eq_nil_of_length_eq_zero h0
    subst hlb
    refine (Tryz.strings_Join_none A c ⟨sep.toArray⟩ w).mono ?_
    rintro e w' ⟨rfl,rfl⟩
    exact ⟨rfl,hb⟩
  · obtain ⟨g,cap,e2,hg0,hg1,_⟩:=Kd.R_form hr h0
    injection e2 with e3 e4 e5
    subst e3
    refine (Tryz.strings_Join g 0 c lb ⟨sep.toArray⟩ w (fun j y hy=>?_) hg1 hl hlc (by rw [hlb];exact hj)).mono ?_
    · have hj:j < lb.length:=(List.getElem?_eq_some_iff.1 hy).1
      have h1:=(Kd.R_celln (enc:=Value.string) (⟨#[]⟩:ByteArray) hr (j:Int) (by omega) (by omega)).1
      simp only [Int.toNat_natCast] at h1
      rw [Nat.zero_add,h1]
      simp only [rdOf,Int.toNat_natCast,List.getD_eq_getElem?_getD,hy,Option.getD_some]
    · rintro e w' ⟨rfl,hb'⟩
      rw [hlb]
      exact ⟨rfl,below_step hb hb'⟩
theorem lt_of_cellT {w:World} {p:Addr} {v:Value} {k:Nat} (h:w.cell? (p.add k)=some v):(p.add k).block < w.heap.size:=by
  rcases Nat.lt_or_ge (p.add k).block w.heap.size with h1 | h1
  · exact h1
  · exfalso
    unfold World.cell? at h
    rw [Array.getElem?_eq_none h1] at h
    simp at h
def oneT (p:List Int):List UInt8:=Lib.join (p.map numT) [58]
theorem oneT_len (p:List Int) (hp:∀ x∈p,-9223372036854775808≤x∧x≤9223372036854775807):(oneT p).length≤p.length * 22:=by
  have h:=join_le (p.map numT) [58] 21 (fun x hx=>by obtain ⟨n,hn,rfl⟩:=List.mem_map.1 hx;exact numT_len n (hp n hn).1 (hp n hn).2)
  simpa [oneT] using h
set_option maxHeartbeats 4000000 in
theorem one_calls (A:Option Addr) (c:Nat) (p:List Int) (w:World) (hr:Kd.C (Kd.int .i64) w A p.length p) (hp:∀ x∈p,-9223372036854775808≤x∧x≤9223372036854775807) (hl:p.length≤100000) (ht:Pow w) :
    Calls Tryz.prog 116 #[.slice A p.length c] w fun e w'=>e=.returned (.string ⟨(oneT p).toArray⟩)∧Below w.heap.size w w':=by
  have HR:=Aside0.mk hr
  have HP:=Aside0.mk hp
  have HL:=Aside0.mk hl
  have HT:=Aside0.mk ht
  clear hr hp hl ht
  go_enter Tryz.func116,Tryz.ntmps116
  go_wp2
  show Code.wp _ _ _ _ _
  go_loopg [3,8] (p.length+1) (fun kq v3 v8 W=>∃ k:Nat,v8=.int .i64 (k:Int)∧Aside0 (k≤p.length∧p.length - k < kq)∧Aside0 (Kd.R kstr 9 W w.heap.size (fun k=>w.heap.size≤k) v3 (((p.take k).map numT).map bstr))∧Aside0 (Below w.heap.size w W))
  case atStart=>exact ⟨0,rfl,⟨by omega⟩,⟨Kd.R_nil _ _ _ _ _⟩,⟨Below.refl _ _⟩⟩
  case round =>
    obtain ⟨k,rfl,HK,HO,HBr⟩:=hrel
    cases gk with
    | zero=>exact absurd HK.out (by omega)
    | succ k1 =>
      by_cases hx:k < p.length
      · have c1:decide ((k:Int) < (p.length:Int))=true:=decide_eq_true (by omega)
        have c1n:=eq_true hx
        obtain ⟨n,hn⟩:∃ n,p[k]?=some n:=⟨p[k],List.getElem?_eq_getElem hx⟩
        have hbn:=HP.out n (List.mem_of_getElem? hn)
        obtain ⟨ad,cs,eA,hcell⟩:∃ ad cs,A=some ad∧w.cell? (ad.add k)=some (.int .i64 n):=by
          obtain ⟨ad,e1,h2⟩:=(Kd.reads_of_C (enc:=Value.int .i64) (d:=(0:Int)) (h1:=fun _=>rfl) HR.out).2.2 (by omega)
          exact ⟨ad,0,e1,by rw [h2 k hx];simp [List.getD_eq_getElem?_getD,hn]⟩
        subst eA
        have hlt:=lt_of_cellT hcell
        have hy0:=(HBr.out.cell hlt).trans hcell
        have HX:=Aside0.mk hx
        have HN:=Aside0.mk hbn
        have HNK:=Aside0.mk hn
        have p1:(0:Int)≤(k:Int):=by omega
        have p2:(k:Int) < (p.length:Int):=by omega
        clear hcell hx hbn hn
        go_wp2_with (first|(go_at_call 179;refine (numText_calls n HN.out.1 HN.out.2 wr (HT.out.below HBr.out)).mono ?_;rintro e W1 ⟨rfl,hb⟩;have HBA:=Aside0.mk (below_step HBr.out hb);have HO_:=Aside0.mk (Kd.R_below HO.out hb);clear hb HO;have HO:=HO_;clear HO_)|((with_reducible refine gate_dst (N:=15) rfl ?_);refine Kd.R_lit kstr (w0:=w) w.heap.size 9 ?hg (N:=15) ?hd (xs:=([⟨(numT n).toArray⟩]:List ByteArray)) (inner:=[.string ⟨(numT n).toArray⟩]) (ok:=fun k=>w.heap.size≤k) (okp:=fun _=>False) ?hr ?hp (fun _ hk=>hk.elim) (below_size HBA.out) HBA.out (below_size HBA.out) (by simp) ?_;(case hd=>rfl);(case hg=>rfl);(case hr=>first|(go_simp;done)|(go_simp;rfl));(case hp=>exact Reps.one (show Kd.M kstr _ _ _ _ [.string ⟨(numT n).toArray⟩] from rfl) (Reps.none _ _));intro v2 W2 ho hb hg hat;obtain ⟨A2,c2,rfl,hl2,hc2⟩:=Kd.R_reads ho;have HC2:=Aside0.mk hc2;have HO_:=Aside0.mk (Kd.R_grown HO.out hg (fun k _ e=>by cases e));have HBB:=Aside0.mk hb;clear HO HBA;have HO:=HO_;clear HO_ ho hb hg hat hl2 hc2)|((with_reducible refine gate_builtin (b:=.append) (xs:=#[.tmp 12,.tmp 15]) rfl ?_);at_builtin;refine Kd.R_append_rows kstr (w0:=w) w.heap.size rfl (.tmp 12) (.tmp 15) 28 9 (.string ⟨#[]⟩) 16 rfl Tryz.underlying28 infoStr rfl (by decide) (by omega) _ (((p.take k).map numT).map bstr) [⟨(numT n).toArray⟩] A2 _ c2 (fun k=>w.heap.size≤k) (fun _=>False) rfl rfl HO.out HC2.out (fun _ _ h=>h) (fun _ h=>h.elim) (fun k hk=>Nat.le_trans (below_size HBB.out) hk) HBB.out (below_size HBB.out) (by have:=HL.out;have:=HX.out;simp only [List.length_map,List.length_take,List.length_cons,List.length_nil];omega) ?_;intro v3 W3 ho hb hg hat;have HO3:=Aside0.mk ho;have HB3:=Aside0.mk hb;clear ho hb hg hat HO HBB HC2))
        go_roundg k1
        case measure=>omega
        case rel=>exact ⟨k+1,by first | rfl|(congr 1;omega)|(rw [IntWalk.wrap64_in _ (by have:=HL.out;omega)];rfl),⟨by have:=HX.out;have:=HK.out;omega⟩,⟨by have h_:=HO3.out;rw [List.take_add_one,HNK.out];simpa [bstr] using h_⟩,HB3⟩
      · have c1:decide ((k:Int) < (p.length:Int))=false:=decide_eq_false (by omega)
        have c1n:=eq_false hx
        have hk:k=p.length:=by have:=HK.out;omega
        subst hk
        have hO:=HO.out
        rw [List.take_length] at hO
        obtain ⟨A3,c3,rfl⟩:=Kd.R_slice hO
        have h_:=join_row w wr A3 _ c3 _ (p.map numT) [58] _ _ hO (bstr_list _) HBr.out (by have:=HL.out;simp;omega) (by have h_:=oneT_len p HP.out;unfold oneT at h_;have:=HL.out;omega)
        simp only [List.length_map] at h_
        have HCALL:=Aside0.mk h_
        clear h_
        clear hO hx
        go_wp2_with (go_at_call 115;refine HCALL.out.mono ?_;rintro e W4 ⟨rfl,hb⟩;have HB4:=Aside0.mk hb;clear hb)
        go_ret
        exact ⟨rfl,HB4.out⟩
end Go.Proofs.YthjacokachgmfaaGreatDoor.H
end
section
namespace Go.Proofs.YthjacokachgmfaaGreatDoor.H
open Go Go.RowKit YthjacokachgmfaaGreatDoorW.PrintWords YthjacokachgmfaaGreatDoorW.PrintLast YthjacokachgmfaaGreatDoorW.PrintMore
open Ev
set_option maxRecDepth 100000
def takeV (l:List Int):Int:=l.foldl (fun n c=>min (10 * n+(c - 48)) 1114111) 0
theorem takeV_bounds (l:List Int) (h:∀ c∈l,48≤c∧c≤57):0≤takeV l∧takeV l≤1114111:=by
  unfold takeV
  have:∀ (l:List Int) (a:Int),0≤a∧a≤1114111→(∀ c∈l,48≤c∧c≤57)→0≤l.foldl (fun n c=>min (10 * n+(c - 48)) 1114111) a∧l.foldl (fun n c=>min (10 * n+(c - 48)) 1114111) a≤1114111:=by
    intro l
    induction l with
    | nil=>intro a ha _;exact ha
    | cons c l ih =>
      intro a ha hl
      have hc:=hl c List.mem_cons_self
      refine ih (min (10 * a+(c - 48)) 1114111) (by omega) (fun x hx=>hl x (List.mem_cons_of_mem _ hx))
  exact this l 0 (by omega) h
theorem takeV_step {l:List Int} {k:Nat} {c:Int} (h:l[k]?=some c):takeV (l.take (k+1))=min (10 * takeV (l.take k)+(c - 48)) 1114111:=by
  rw [List.take_add_one,h]
  simp [takeV]
theorem at_U {w:World} {A:Option Addr} {p:List Int} (h:Kd.C (Kd.int .u8) w A p.length p) {k:Nat} (hx:k < p.length):∃ ad n,A=some ad∧p[k]?=some n∧w.cell? (ad.add k)=some (.int .u8 n):=by
  obtain ⟨ad,e1,h2⟩:=(Kd.reads_of_C (enc:=Value.int .u8) (d:=(0:Int)) (h1:=fun _=>rfl) h).2.2 (by omega)
  have hn:p[k]?=some p[k]:=List.getElem?_eq_getElem hx
  exact ⟨ad,p[k],e1,hn,by rw [h2 k hx];simp [List.getD_eq_getElem?_getD,hn]⟩
theorem figure_calls (c:Int) (w:World) (h:48≤c∧c≤57) :
    Calls Tryz.prog 230 #[.int .u8 c] w fun e w'=>e=.returned (.bool true)∧Below w.heap.size w w':=by
  obtain ⟨h1,h2⟩:=h
  go_enter Tryz.func230,Tryz.ntmps230
  go_wp2
  all_goals (first | omega|(go_ret;exact ⟨rfl,Below.refl _ _⟩))
set_option maxHeartbeats 4000000 in
theorem numTake_calls (A:Option Addr) (c:Nat) (l:List Int) (w:World) (hr:Kd.C (Kd.int .u8) w A l.length l) (hl:l.length≤1000) (hd:∀ c∈l,48≤c∧c≤57) :
    Calls Tryz.prog 169 #[.slice A l.length c] w fun e w'=>e=.returned (.tuple #[.int .i64 (takeV l),.int .i64 l.length])∧Below w.heap.size w w':=by
  have HR:=Aside0.mk hr
  have HL:=Aside0.mk hl
  have HD:=Aside0.mk hd
  clear hr hl hd
  go_enter Tryz.func169,Tryz.ntmps169
  go_wp2
  show Code.wp _ _ _ _ _
  go_loopg [5,9] (l.length+1) (fun kq v5 v9 W=>∃ k:Nat,v5=.int .i64 (takeV (l.take k))∧v9=.int .i64 (k:Int)∧Aside0 (k≤l.length∧l.length - k < kq)∧Aside0 (Below w.heap.size w W))
  case atStart=>exact ⟨0,rfl,rfl,⟨by omega⟩,⟨Below.refl _ _⟩⟩
  case round =>
    obtain ⟨k,rfl,rfl,HK,HBr⟩:=hrel
    cases gk with
    | zero=>exact absurd HK.out (by omega)
    | succ k1 =>
      by_cases hk:k < l.length
      · obtain ⟨ad,n,eA,hn,hcell⟩:=at_U (Kd.C_below HR.out HBr.out) (k:=k) hk
        subst eA
        have hb:=takeV_bounds (l.take k) (fun x hx=>HD.out x (List.mem_of_mem_take hx))
        have hnb:=HD.out n (List.mem_of_getElem? hn)
        have HS:=Aside0.mk (takeV_step hn)
        have HFIG:=Aside0.mk (figure_calls n wr hnb)
        have HN:=Aside0.mk hnb
        have HVB:=Aside0.mk hb
        have EV:=Aside0.mk (show min (wrap64 (wrap64 (10 * takeV (l.take k))+(n - 48) % 256)) 1114111=takeV (l.take (k+1)) by rw [HS.out,IntWalk.wrap64_in (10 * takeV (l.take k)) (by omega),IntWalk.wrap64_in _ (by omega)];omega)
        have HKL:=Aside0.mk hk
        have c1:decide ((k:Int) < (l.length:Int))=true:=decide_eq_true (by omega)
        have p1:(0:Int)≤(k:Int):=by omega
        have p2:(k:Int) < (l.length:Int):=by omega
        have e4:wrap64 ((k:Int)+1)=((k+1:Nat):Int):=by have:=HL.out;rw [IntWalk.wrap64_in _ (by omega)];omega
        clear hn hnb hb hk
        go_wp2_with (go_at_call 230;refine HFIG.out.mono ?_;rintro e W1 ⟨rfl,hb⟩;have HBA:=Aside0.mk (below_step HBr.out hb);have hcell1:=hb.cell (lt_of_cellT hcell) |>.trans hcell;clear hb)
        go_roundg k1
        case measure=>omega
        case rel=>exact ⟨k+1,by rw [EV.out],by first | rfl | rw [e4],⟨by have:=HK.out;have:=HKL.out;omega⟩,HBA⟩
      · have hkl:k=l.length:=by have:=HK.out;omega
        subst hkl
        rw [List.take_length]
        go_wp2
        go_ret2
        exact ⟨rfl,HBr.out⟩
end Go.Proofs.YthjacokachgmfaaGreatDoor.H
end
section
namespace Go.Proofs.YthjacokachgmfaaGreatDoorW.PrintWords
open Go.RowKit
section
variable {P:Program} {ops:Array Oper} {rest:List Oper} {o:Oper} {a:Act} {Q:Exit→Act→World→Prop} {W:World}
end
end Go.Proofs.YthjacokachgmfaaGreatDoorW.PrintWords
end
section
namespace Go.Proofs.YthjacokachgmfaaGreatDoor.H
open Go.RowKit YthjacokachgmfaaGreatDoorW.PrintWords YthjacokachgmfaaGreatDoorW.PrintLast YthjacokachgmfaaGreatDoorW.PrintMore
def isB (r:Int):Bool:=decide (0≤r∧r≤1114111∧(r < 55296∨r > 57343))
theorem is_c (r:Int) (w:World):Calls Tryz.prog 122 #[.int .i64 r] w fun e w'=>e=.returned (.bool (isB r))∧Below w.heap.size w w':=by
  have HB:=Aside0.mk (Below.refl w.heap.size w)
  go_enter Tryz.func122,Tryz.ntmps122
  go_wp2
  all_goals go_ret
  all_goals refine ⟨?_,HB.out⟩
  · have:isB r=(decide (r < 55296)||decide (57343 < r)):=by unfold isB;rw [Bool.eq_iff_iff];simp;omega
    rw [this];rfl
  · have:isB r=true:=decide_eq_true (by omega)
    rw [this];rfl
  · have:isB r=false:=decide_eq_false (by omega)
    rw [this];rfl
  · have:isB r=false:=decide_eq_false (by omega)
    rw [this];rfl
def sizeCells:Array Value:=#[.int .i64 1,.int .i64 127,.int .u8 0,.int .u8 127,.int .i64 2,.int .i64 2047,.int .u8 192,.int .u8 31,.int .i64 3,.int .i64 65535,.int .u8 224,.int .u8 15,.int .i64 4,.int .i64 1114111,.int .u8 240,.int .u8 7]
theorem sizes_c (w:World):Calls Tryz.prog 123 #[] w fun e w'=>e=.returned (.agg sizeCells)∧Below w.heap.size w w':=by
  have HB:=Aside0.mk (Below.refl w.heap.size w)
  go_enter Tryz.func123,Tryz.ntmps123
  go_wp2
  refine bodyPost_ret (results_cell_row rfl _ _ w.heap.size 188 sizeCells (0,0) _ rfl ?_ Tryz.underlying188 rfl (by kernel_rfl)) rfl ⟨rfl,?_⟩
  · show (w.heap.push _)[w.heap.size]?=_
    exact Array.getElem?_push_size
  · exact below_alloc HB.out _
theorem ix0 (W:World):(Instr.index 188 (.agg sizeCells) (.int .i64 0)).run Tryz.prog W=.ok (.agg #[.int .i64 1,.int .i64 127,.int .u8 0,.int .u8 127]) W:=by kernel_rfl
theorem ix1 (W:World):(Instr.index 188 (.agg sizeCells) (.int .i64 1)).run Tryz.prog W=.ok (.agg #[.int .i64 2,.int .i64 2047,.int .u8 192,.int .u8 31]) W:=by kernel_rfl
theorem ix2 (W:World):(Instr.index 188 (.agg sizeCells) (.int .i64 2)).run Tryz.prog W=.ok (.agg #[.int .i64 3,.int .i64 65535,.int .u8 224,.int .u8 15]) W:=by kernel_rfl
theorem ix3 (W:World):(Instr.index 188 (.agg sizeCells) (.int .i64 3)).run Tryz.prog W=.ok (.agg #[.int .i64 4,.int .i64 1114111,.int .u8 240,.int .u8 7]) W:=by kernel_rfl
end Go.Proofs.YthjacokachgmfaaGreatDoor.H
end
