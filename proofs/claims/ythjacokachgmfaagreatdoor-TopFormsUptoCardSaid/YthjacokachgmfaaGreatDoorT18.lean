import Derived.Lib.AppendStr
import Derived.Test.YthjacokachgmfaaGreatDoorT04
import Derived.Test.YthjacokachgmfaaGreatDoorT17
set_option linter.unusedVariables false
set_option linter.unusedSimpArgs false
section
namespace Go.Proofs.YthjacokachgmfaaGreatDoor.H
open Go Go.RowKit YthjacokachgmfaaGreatDoorW.PrintWords YthjacokachgmfaaGreatDoorW.PrintLast YthjacokachgmfaaGreatDoorW.PrintMore
set_option maxRecDepth 100000
def betw (s:List UInt8) (a b:Nat):Bool:=s.all (fun c=>decide (a≤c.toNat)&&decide (c.toNat≤b))
theorem idx_from (p:Nat→Bool) (s:ByteArray) (hs:∀ c∈s.data.toList,c.toNat < 128):∀ (f pos:Nat),s.size≤pos+f→decide (0≤Lib.idxFuncFrom p true s f pos)=(s.data.toList.drop pos).any (fun c=>p c.toNat):=by
  intro f
  induction f with
  | zero =>
    intro pos h
    rw [List.drop_of_length_le (by simpa using h)]
    simp [Lib.idxFuncFrom]
  | succ f ih =>
    intro pos h
    unfold Lib.idxFuncFrom
    by_cases hp:pos < s.size
    · have hl:pos < s.data.toList.length:=by simpa using hp
      have hd:s.data.toList.drop pos=s[pos] :: s.data.toList.drop (pos+1):=by
        rw [List.drop_eq_getElem_cons hl]
        rfl
      have ha:(s[pos]'hp).toNat < 128:=hs _ (by
        have:s[pos]'hp=s.data.toList[pos]'hl:=rfl
        rw [this]
        exact List.getElem_mem hl)
      rw [if_pos hp,decode_ascii s pos hp ha,hd,List.any_cons]
      by_cases hq:p (s[pos]'hp).toNat=true
      · rw [if_pos hq,hq]
        simp
      · rw [if_neg hq,ih (pos+1) (by omega)]
        simp at hq
        rw [hq]
        rfl
    · rw [if_neg hp,List.drop_of_length_le (by simp;omega)]
      rfl
theorem between_calls (s:List UInt8) (a b:Int) (ha:0≤a∧a≤255) (hb:0≤b∧b≤255) (hs:∀ c∈s,c.toNat < 128) (w:World) :
    Calls Tryz.prog 112 #[.string ⟨s.toArray⟩,.int .u8 a,.int .u8 b] w fun e w'=>e=.returned (.bool (betw s a.toNat b.toNat))∧Below w.heap.size w w':=by
  have hmf:∀ (fn:Fn) (first cap:Array Value) (w:World),(Instr.makeFunc fn first cap).run Tryz.prog w=.ok (.func fn first cap) w:=fun _ _ _ _=>rfl
  have hpred:∀ (g1 g2:Nat) (W0:World),W0.cell? ⟨g1,0,none⟩=some (.int .u8 a)→W0.cell? ⟨g2,0,none⟩=some (.int .u8 b)→g1 < W0.heap.size→g2 < W0.heap.size→PredAtRunes Tryz.prog 171 #[.pointer (some ⟨g1,0,none⟩),.pointer (some ⟨g2,0,none⟩)] (fun x=>decide ((x:Int) < a)||decide (b < (x:Int))) W0:=by
    intro g1 g2 W0 h1 h2 l1 l2 W x hx hbel
    have k1:=(hbel.cell (p:=⟨g1,0,none⟩) l1).trans h1
    have k2:=(hbel.cell (p:=⟨g2,0,none⟩) l2).trans h2
    have wa:=IntWalk.wrap32_in a
    show Calls Tryz.prog _ #[.int .i32 x,.pointer (some ⟨g1,0,none⟩),.pointer (some ⟨g2,0,none⟩)] W _
    by_cases hc:(x:Int) < a
    · have e1:decide ((x:Int) < a)=true:=decide_eq_true hc
      clear h1 h2 hbel hc
      go_enter Tryz.func171,Tryz.ntmps171
      go_wp2
      go_ret
      exact ⟨by simp;exact Or.inl (of_decide_eq_true e1),0,rfl⟩
    · have e1:decide ((x:Int) < a)=false:=decide_eq_false hc
      clear h1 h2 hbel hc
      go_enter Tryz.func171,Tryz.ntmps171
      go_wp2
      go_ret
      exact ⟨by simp;intro h;exact absurd h (of_decide_eq_false e1),0,rfl⟩
  have HPR:=Aside0.mk hpred
  have HID:=Aside0.mk (idx_from (fun x=>decide ((x:Int) < a)||decide (b < (x:Int))) ⟨s.toArray⟩ (by simpa using hs))
  have HZ:=Aside0.mk (show (w.alloc (.cells #[.int .u8 a] 5 (0,0))).heap.size=w.heap.size+1 from Array.size_push _)
  clear hpred hs
  go_enter Tryz.func112,Tryz.ntmps112
  go_wp2_with (go_at_call 170;refine (Tryz.strings_ContainsFunc_runes 171 _ (fun _ _=>rfl) _ ⟨s.toArray⟩ _ (HPR.out _ _ _ ?h1 ?h2 ?l1 ?l2)).mono ?_;(case h1=>exact (blk_cell (blk_alloc (blk_new w _) _) 0).trans rfl);(case h2=>rw [← HZ.out];exact (blk_cell (blk_new (w.alloc (.cells #[.int .u8 a] 5 (0,0))) (.cells #[.int .u8 b] 5 (0,0))) 0).trans rfl);(case l1=>exact blk_lt (blk_alloc (blk_new w _) _));(case l2=>rw [← HZ.out];exact blk_lt (blk_new (w.alloc (.cells #[.int .u8 a] 5 (0,0))) _));rintro e W1 ⟨rfl,hb⟩;have HB1:=Aside0.mk hb;clear hb)
  go_ret
  refine ⟨?_,?_⟩
  · show Ending.returned (Value.bool (!decide (0≤Lib.idxFunc _ true (⟨s.toArray⟩:ByteArray))))=_
    rw [show Lib.idxFunc (fun x=>decide ((x:Int) < a)||decide (b < (x:Int))) true (⟨s.toArray⟩:ByteArray)=Lib.idxFuncFrom (fun x=>decide ((x:Int) < a)||decide (b < (x:Int))) true (⟨s.toArray⟩:ByteArray) (⟨s.toArray⟩:ByteArray).size 0 from rfl,HID.out _ 0 (Nat.le_add_left _ _),List.drop_zero,List.not_any_eq_all_not]
    congr 2
    unfold betw
    apply List.all_congr rfl
    intro c
    rw [Bool.eq_iff_iff]
    simp
    omega
  · exact below_step (below_alloc (below_alloc (Below.refl _ _) _) _) HB1.out
end Go.Proofs.YthjacokachgmfaaGreatDoor.H
end
section
namespace Go.Proofs.YthjacokachgmfaaGreatDoor.H
open Go Go.RowKit YthjacokachgmfaaGreatDoorW.PrintWords YthjacokachgmfaaGreatDoorW.PrintLast YthjacokachgmfaaGreatDoorW.PrintMore
set_option maxRecDepth 100000
def oddN (n:Int):Bool:=decide (n < -1)||decide (1114111 < n)
theorem odd_calls (n:Int) (w:World):Calls Tryz.prog 174 #[.int .i64 n] w fun e w'=>e=.returned (.bool (oddN n))∧Below w.heap.size w w':=by
  by_cases hc:n < -1
  · have e1:decide (n < -1)=true:=decide_eq_true hc
    have E:=Aside0.mk e1
    clear hc
    go_enter Tryz.func174,Tryz.ntmps174
    go_wp2
    go_ret
    exact ⟨by unfold oddN;rw [E.out];rfl,Below.refl _ _⟩
  · have e1:decide (n < -1)=false:=decide_eq_false hc
    have E:=Aside0.mk e1
    clear hc
    go_enter Tryz.func174,Tryz.ntmps174
    go_wp2
    go_ret
    exact ⟨by unfold oddN;rw [E.out];rfl,Below.refl _ _⟩
theorem at_I {w:World} {A:Option Addr} {p:List Int} (h:Kd.C (Kd.int .i64) w A p.length p) {k:Nat} (hx:k < p.length):∃ ad n,A=some ad∧p[k]?=some n∧w.cell? (ad.add k)=some (.int .i64 n):=by
  obtain ⟨ad,e1,h2⟩:=(Kd.reads_of_C (enc:=Value.int .i64) (d:=(0:Int)) (h1:=fun _=>rfl) h).2.2 (by omega)
  have hn:p[k]?=some p[k]:=List.getElem?_eq_getElem hx
  exact ⟨ad,p[k],e1,hn,by rw [h2 k hx];simp [List.getD_eq_getElem?_getD,hn]⟩
set_option maxHeartbeats 4000000 in
theorem idxOdd_calls (A:Option Addr) (c:Nat) (p:List Int) (w:World) (hr:Kd.C (Kd.int .i64) w A p.length p) (hl:p.length≤100000) :
    Calls Tryz.prog 232 #[.slice A p.length c,.func (.func 174) #[] #[]] w fun e w'=>(∃ r:Int,e=.returned (.int .i64 r)∧decide (0≤r)=p.any oddN)∧Below w.heap.size w w':=by
  have HR:=Aside0.mk hr
  have HL:=Aside0.mk hl
  clear hr hl
  go_enter Tryz.func232,Tryz.ntmps232
  go_wp2
  show Code.wp _ _ _ _ _
  go_loopg [8] (p.length+1) (fun kq v8 W=>∃ k:Nat,v8=.int .i64 (k:Int)∧Aside0 (k≤p.length∧p.length - k < kq)∧Aside0 ((p.take k).any oddN=false)∧Aside0 (Below w.heap.size w W))
  case atStart=>exact ⟨0,rfl,⟨by omega⟩,⟨by simp⟩,⟨Below.refl _ _⟩⟩
  case round =>
    obtain ⟨k,rfl,HK,HO,HBr⟩:=hrel
    cases gk with
    | zero=>exact absurd HK.out (by omega)
    | succ k1 =>
      by_cases hx:k < p.length
      · have c1:decide ((k:Int) < (p.length:Int))=true:=decide_eq_true (by omega)
        have c1n:=eq_true hx
        obtain ⟨ad,n,eA,hn,hcell⟩:=at_I HR.out hx
        subst eA
        have hlt:=lt_of_cellT hcell
        have hy0:=(HBr.out.cell hlt).trans hcell
        have HX:=Aside0.mk hx
        have HNK:=Aside0.mk hn
        have p1:(0:Int)≤(k:Int):=by omega
        have p2:(k:Int) < (p.length:Int):=by omega
        clear hcell hx hn
        cases hod:oddN n with
        | true =>
          have HOD:=Aside0.mk hod
          have hcl:=odd_calls n wr
          rw [hod] at hcl
          have HCL:=Aside0.mk hcl
          clear hcl hod
          go_wp2_with (go_at_call 174;refine HCL.out.mono ?_;rintro e W1 ⟨rfl,hb⟩;have HBA:=Aside0.mk (below_step HBr.out hb);clear hb)
          go_ret
          refine ⟨⟨k,rfl,?_⟩,HBA.out⟩
          rw [decide_eq_true (by omega),eq_comm,List.any_eq_true]
          exact ⟨n,List.mem_of_getElem? HNK.out,HOD.out⟩
        | false =>
          have HOD:=Aside0.mk hod
          have hcl:=odd_calls n wr
          rw [hod] at hcl
          have HCL:=Aside0.mk hcl
          clear hcl hod
          go_wp2_with (go_at_call 174;refine HCL.out.mono ?_;rintro e W1 ⟨rfl,hb⟩;have HBA:=Aside0.mk (below_step HBr.out hb);clear hb)
          go_roundg k1
          case measure=>omega
          case rel=>exact ⟨k+1,by first | rfl|(congr 1;omega)|(rw [IntWalk.wrap64_in _ (by have:=HL.out;omega)];rfl),⟨by have:=HX.out;have:=HK.out;omega⟩,⟨by rw [List.take_add_one,HNK.out,List.any_append,HO.out];simp [HOD.out]⟩,HBA⟩
      · have c1:decide ((k:Int) < (p.length:Int))=false:=decide_eq_false (by omega)
        have c1n:=eq_false hx
        have hk:k=p.length:=by have:=HK.out;omega
        subst hk
        have hO:=HO.out
        rw [List.take_length] at hO
        have HO2:=Aside0.mk hO
        clear hO hx
        go_wp2
        go_ret
        exact ⟨⟨-1,rfl,by rw [HO2.out];rfl⟩,HBr.out⟩
theorem cfOdd_calls (A:Option Addr) (c:Nat) (p:List Int) (w:World) (hr:Kd.C (Kd.int .i64) w A p.length p) (hl:p.length≤100000) :
    Calls Tryz.prog 173 #[.slice A p.length c,.func (.func 174) #[] #[]] w fun e w'=>e=.returned (.bool (p.any oddN))∧Below w.heap.size w w':=by
  have H:=Aside0.mk (idxOdd_calls A c p w hr hl)
  clear hr hl
  go_enter Tryz.func173,Tryz.ntmps173
  go_wp2_with (go_at_call 232;refine H.out.mono ?_;rintro e W1 ⟨⟨r,rfl,hr⟩,hb⟩;have HR1:=Aside0.mk hr;have HB1:=Aside0.mk hb;clear hr hb)
  go_ret
  exact ⟨by rw [← HR1.out];simp,HB1.out⟩
end Go.Proofs.YthjacokachgmfaaGreatDoor.H
end
section
namespace Go.Proofs.YthjacokachgmfaaGreatDoor.H
open Go Go.RowKit YthjacokachgmfaaGreatDoorW.PrintWords YthjacokachgmfaaGreatDoorW.PrintLast YthjacokachgmfaaGreatDoorW.PrintMore
set_option maxRecDepth 100000
set_option maxHeartbeats 4000000 in
theorem eqNone_calls (A:Option Addr) (c:Nat) (p:List Int) (g:Nat) (w:World) (hr:Kd.C (Kd.int .i64) w A p.length p) (hg:w.cell? ⟨g,0,none⟩=some (.int .i64 (-1))) :
    Calls Tryz.prog 172 #[.slice A p.length c,.slice (some ⟨g,0,none⟩) 1 1] w fun e w'=>e=.returned (.bool (p == [-1]))∧Below w.heap.size w w':=by
  by_cases h1:p.length=1
  · obtain ⟨x,rfl⟩:=List.length_eq_one_iff.1 h1
    obtain ⟨ad,n,eA,hn,hcell⟩:=at_I hr (k:=0) (by simp)
    subst eA
    obtain rfl:x=n:=by simpa using hn
    have hlt:=lt_of_cellT hcell
    have hlg:=lt_of_cellT (p:=⟨g,0,none⟩) (k:=0) hg
    have hcell1:=Aside0.mk hcell
    have hg1:=Aside0.mk hg
    clear hr h1 hn
    have hB0:=Aside0.mk (Below.refl w.heap.size w)
    show Calls Tryz.prog 172 #[.slice (some ad) 1 c,.slice (some ⟨g,0,none⟩) 1 1] w _
    go_enter Tryz.func172,Tryz.ntmps172
    go_wp2
    show Code.wp _ _ _ _ _
    go_loopg [13] 2 (fun kq v13 W=>∃ k:Nat,v13=.int .i64 (k:Int)∧Aside0 (k≤1∧1 - k < kq∧(k=1→x=-1))∧Aside0 (Below w.heap.size w W))
    case atStart=>exact ⟨0,rfl,⟨by omega,by omega,fun h=>absurd h (by omega)⟩,hB0⟩
    case round =>
      clear hB0 hcell hg
      obtain ⟨k,rfl,HK,HBr⟩:=hrel
      have hcell:wr.cell? ad=some (.int .i64 x):=(HBr.out.cell hlt).trans hcell1.out
      have hg:wr.cell? ⟨g,0,none⟩=some (.int .i64 (-1)):=(HBr.out.cell (p:=⟨g,0,none⟩) hlg).trans hg1.out
      cases gk with
      | zero=>exact absurd HK.out (by omega)
      | succ k1 =>
        by_cases hk:k=0
        · subst hk
          by_cases hx:x=-1
          · subst hx
            go_wp2
            go_region
            go_wp2
            go_roundg k1
            case measure=>omega
            case rel=>exact ⟨1,rfl,⟨by omega,by have:=HK.out;omega,fun _=>by first | trivial | rfl⟩,⟨by (repeat (first | exact HBr.out | apply below_drew1))⟩⟩
          · have e1:(x != -1)=true:=by simpa using hx
            have HX:=Aside0.mk hx
            clear hx
            go_wp2
            go_region
            go_wp2
            go_ret
            exact ⟨by simp [HX.out],by (repeat (first | exact HBr.out | apply below_drew1))⟩
        · obtain rfl:k=1:=by have:=HK.out;omega
          have hx:=HK.out.2.2 rfl
          subst hx
          clear hk
          go_wp2
          go_ret
          exact ⟨rfl,HBr.out⟩
  · have hne:p.length≠1:=h1
    refine (Tryz.slices_Equal_int_lens A (some ⟨g,0,none⟩) p.length c 1 1 w hne).mono ?_
    rintro e w' ⟨rfl,rfl⟩
    refine ⟨?_,Below.refl _ _⟩
    congr 2
    rw [eq_comm,beq_eq_false_iff_ne]
    intro h
    rw [h] at h1
    simp at h1
def oneOk (p:List Int):Bool:=!(p.any oddN)&&decide (1≤p.length)&&decide (p.length≤8)
def listedT (ps:List (List Int)):Bool:=!(decide (16 < ps.length)||(decide (ps.length=1)&&(rdL ps 0 == [-1])))&&ps.all oneOk
theorem C_len {w:World} {A:Option Addr} {ps:List (List Int)} (h:Kd.C kli w A ps.length ps) {k:Nat} (hk:k < ps.length):True:=trivial
set_option maxHeartbeats 8000000 in
theorem listed_calls (A:Option Addr) (c:Nat) (ps:List (List Int)) (w:World) (hr:Kd.C kli w A ps.length ps) (hl:ps.length≤100000) (hp:∀ p∈ps,p.length≤100000) :
    Calls Tryz.prog 113 #[.slice A ps.length c] w fun e w'=>e=.returned (.bool (listedT ps))∧Below w.heap.size w w':=by
  have HR:=Aside0.mk hr
  have HL:=Aside0.mk hl
  have HP:=Aside0.mk hp
  clear hr hl hp
  by_cases h16:16 < ps.length
  · have e1:decide ((16:Int) < (ps.length:Int))=true:=decide_eq_true (by omega)
    have E:=Aside0.mk (show listedT ps=false by unfold listedT;rw [decide_eq_true h16];rfl)
    clear h16
    go_enter Tryz.func113,Tryz.ntmps113
    go_wp2
    go_ret
    exact ⟨by rw [E.out];rfl,Below.refl _ _⟩
  · have e1:decide ((16:Int) < (ps.length:Int))=false:=decide_eq_false (by omega)
    have H16:=Aside0.mk h16
    clear h16
    have hB0:=Aside0.mk (Below.refl w.heap.size w)
    by_cases h1:ps.length=1
    · have e2:((ps.length:Int) == 1)=true:=by rw [h1];rfl
      obtain ⟨ad,A0,c0,eA,hcell,hlc,hC⟩:=at_L HR.out 0 (by omega)
      subst eA
      have p1:(0:Int) < (ps.length:Int):=by omega
      have hlt:=lt_of_cellT hcell
      have HC:=Aside0.mk hC
      have hcell0:w.cell? ad=some (.slice A0 (rdL ps 0).length c0):=hcell
      have H1:=Aside0.mk h1
      clear hC hcell hlc h1
      cases heq:(rdL ps 0 == [-1]) with
      | true =>
        have E:=Aside0.mk (show listedT ps=false by unfold listedT;rw [decide_eq_true H1.out,heq];simp)
        have HEQ:=Aside0.mk heq
        clear heq
        go_enter Tryz.func113,Tryz.ntmps113
        go_wp2_with (go_at_call 172;refine (eqNone_calls A0 c0 (rdL ps 0) _ _ ?hr ?hg).mono ?_;(case hr=>exact Kd.C_below HC.out (below_alloc hB0.out _));(case hg=>exact (blk_cell (blk_new w _) 0).trans rfl);rw [HEQ.out];rintro e W1 ⟨rfl,hb⟩;have HB1:=Aside0.mk (below_step (below_alloc hB0.out _) hb);clear hb)
        go_ret
        exact ⟨by rw [E.out];rfl,HB1.out⟩
      | false =>
        have E:=Aside0.mk (show listedT ps=ps.all oneOk by unfold listedT;rw [decide_eq_false H16.out,heq];simp)
        have HEQ:=Aside0.mk heq
        clear heq
        go_enter Tryz.func113,Tryz.ntmps113
        go_wp2_with (go_at_call 172;refine (eqNone_calls A0 c0 (rdL ps 0) _ _ ?hr ?hg).mono ?_;(case hr=>exact Kd.C_below HC.out (below_alloc hB0.out _));(case hg=>exact (blk_cell (blk_new w _) 0).trans rfl);rw [HEQ.out];rintro e W1 ⟨rfl,hb⟩;have HB1:=Aside0.mk (below_step (below_alloc hB0.out _) hb);clear hb)
        show Code.wp _ _ _ _ _
        go_loopg [23] (ps.length+1) (fun kq v23 W=>∃ k:Nat,v23=.int .i64 (k:Int)∧Aside0 (k≤ps.length∧ps.length - k < kq)∧Aside0 ((ps.take k).all oneOk=true)∧Aside0 (Below w.heap.size w W))
        case atStart=>exact ⟨0,rfl,⟨by omega⟩,⟨by simp⟩,HB1⟩
        case round =>
          try clear hcell0
          obtain ⟨k,rfl,HK,HO,HBr⟩:=hrel
          cases gk with
          | zero=>exact absurd HK.out (by omega)
          | succ k1 =>
            by_cases hx:k < ps.length
            · have c1:decide ((k:Int) < (ps.length:Int))=true:=decide_eq_true (by omega)
              have c1n:=eq_true hx
              obtain ⟨ad,A0,c0,eA,hcell,hlc,hC⟩:=at_L HR.out k hx
              obtain ⟨hmem,hget⟩:=rdL_mem hx
              obtain ⟨p,hpp⟩:∃ p,rdL ps k=p:=⟨_,rfl⟩
              rw [hpp] at hcell hlc hC hmem hget
              first | subst eA|(obtain rfl:=Option.some.inj eA)
              have hlt:=lt_of_cellT hcell
              have hy0:=(HBr.out.cell hlt).trans hcell
              have HX:=Aside0.mk hx
              have HM:=Aside0.mk hmem
              have HNK:=Aside0.mk hget
              have HC0:=Aside0.mk hC
              have p1:(0:Int)≤(k:Int):=by omega
              have p2:(k:Int) < (ps.length:Int):=by omega
              clear hcell hx hget hmem hlc hC hpp
              cases hany:p.any oddN with
              | true =>
                have HA:=Aside0.mk hany
                clear hany
                go_wp2_with (go_at_call 173;refine (cfOdd_calls A0 c0 p wr (Kd.C_below HC0.out HBr.out) (HP.out p HM.out)).mono ?_;rw [HA.out];rintro e W1 ⟨rfl,hb⟩;have HBA:=Aside0.mk (below_step HBr.out hb);clear hb)
                go_ret
                refine ⟨?_,HBA.out⟩
                rw [E.out,List.all_eq_false.2 ⟨p,HM.out,by unfold oneOk;rw [HA.out];simp⟩]
                rfl
              | false =>
                have HA:=Aside0.mk hany
                clear hany
                by_cases hl1:p.length < 1
                · have e5:decide ((p.length:Int) < 1)=true:=decide_eq_true (by omega)
                  have HL1:=Aside0.mk hl1
                  clear hl1
                  go_wp2_with (go_at_call 173;refine (cfOdd_calls A0 c0 p wr (Kd.C_below HC0.out HBr.out) (HP.out p HM.out)).mono ?_;rw [HA.out];rintro e W1 ⟨rfl,hb⟩;have HBA:=Aside0.mk (below_step HBr.out hb);clear hb)
                  go_ret
                  refine ⟨?_,HBA.out⟩
                  rw [E.out,List.all_eq_false.2 ⟨p,HM.out,by unfold oneOk;rw [decide_eq_false (p:=1≤p.length) (by have:=HL1.out;omega)];simp⟩]
                  rfl
                · have e5:decide ((p.length:Int) < 1)=false:=decide_eq_false (by omega)
                  have HL1:=Aside0.mk hl1
                  clear hl1
                  by_cases hl8:8 < p.length
                  · have e6:decide ((8:Int) < (p.length:Int))=true:=decide_eq_true (by omega)
                    have HL8:=Aside0.mk hl8
                    clear hl8
                    go_wp2_with (go_at_call 173;refine (cfOdd_calls A0 c0 p wr (Kd.C_below HC0.out HBr.out) (HP.out p HM.out)).mono ?_;rw [HA.out];rintro e W1 ⟨rfl,hb⟩;have HBA:=Aside0.mk (below_step HBr.out hb);clear hb)
                    go_ret
                    refine ⟨?_,HBA.out⟩
                    rw [E.out,List.all_eq_false.2 ⟨p,HM.out,by unfold oneOk;rw [decide_eq_false (p:=p.length≤8) (by have:=HL8.out;omega)];simp⟩]
                    rfl
                  · have e6:decide ((8:Int) < (p.length:Int))=false:=decide_eq_false (by omega)
                    have HL8:=Aside0.mk hl8
                    clear hl8
                    go_wp2_with (go_at_call 173;refine (cfOdd_calls A0 c0 p wr (Kd.C_below HC0.out HBr.out) (HP.out p HM.out)).mono ?_;rw [HA.out];rintro e W1 ⟨rfl,hb⟩;have HBA:=Aside0.mk (below_step HBr.out hb);clear hb)
                    go_roundg k1
                    case measure=>omega
                    case rel=>exact ⟨k+1,by first | rfl|(congr 1;omega)|(rw [IntWalk.wrap64_in _ (by have:=HL.out;omega)];rfl),⟨by have:=HX.out;have:=HK.out;omega⟩,⟨by rw [List.take_add_one,HNK.out,List.all_append,HO.out];simp [oneOk,HA.out];have:=HL1.out;have:=HL8.out;omega⟩,HBA⟩
            · have c1:decide ((k:Int) < (ps.length:Int))=false:=decide_eq_false (by omega)
              have c1n:=eq_false hx
              have hk:k=ps.length:=by have:=HK.out;omega
              subst hk
              have hO:=HO.out
              rw [List.take_length] at hO
              have HO2:=Aside0.mk hO
              clear hO hx
              go_wp2
              go_ret
              exact ⟨by rw [E.out,HO2.out];rfl,HBr.out⟩
    · have e2:((ps.length:Int) == 1)=false:=by rw [beq_eq_false_iff_ne];omega
      have E:=Aside0.mk (show listedT ps=ps.all oneOk by unfold listedT;rw [decide_eq_false H16.out,decide_eq_false h1];simp)
      have HB1:=hB0
      clear h1
      go_enter Tryz.func113,Tryz.ntmps113
      go_wp2
      show Code.wp _ _ _ _ _
      go_loopg [23] (ps.length+1) (fun kq v23 W=>∃ k:Nat,v23=.int .i64 (k:Int)∧Aside0 (k≤ps.length∧ps.length - k < kq)∧Aside0 ((ps.take k).all oneOk=true)∧Aside0 (Below w.heap.size w W))
      case atStart=>exact ⟨0,rfl,⟨by omega⟩,⟨by simp⟩,HB1⟩
      case round =>
        try clear hcell0
        obtain ⟨k,rfl,HK,HO,HBr⟩:=hrel
        cases gk with
        | zero=>exact absurd HK.out (by omega)
        | succ k1 =>
          by_cases hx:k < ps.length
          · have c1:decide ((k:Int) < (ps.length:Int))=true:=decide_eq_true (by omega)
            have c1n:=eq_true hx
            obtain ⟨ad,A0,c0,eA,hcell,hlc,hC⟩:=at_L HR.out k hx
            obtain ⟨hmem,hget⟩:=rdL_mem hx
            obtain ⟨p,hpp⟩:∃ p,rdL ps k=p:=⟨_,rfl⟩
            rw [hpp] at hcell hlc hC hmem hget
            first | subst eA|(obtain rfl:=Option.some.inj eA)
            have hlt:=lt_of_cellT hcell
            have hy0:=(HBr.out.cell hlt).trans hcell
            have HX:=Aside0.mk hx
            have HM:=Aside0.mk hmem
            have HNK:=Aside0.mk hget
            have HC0:=Aside0.mk hC
            have p1:(0:Int)≤(k:Int):=by omega
            have p2:(k:Int) < (ps.length:Int):=by omega
            clear hcell hx hget hmem hlc hC hpp
            cases hany:p.any oddN with
            | true =>
              have HA:=Aside0.mk hany
              clear hany
              go_wp2_with (go_at_call 173;refine (cfOdd_calls A0 c0 p wr (Kd.C_below HC0.out HBr.out) (HP.out p HM.out)).mono ?_;rw [HA.out];rintro e W1 ⟨rfl,hb⟩;have HBA:=Aside0.mk (below_step HBr.out hb);clear hb)
              go_ret
              refine ⟨?_,HBA.out⟩
              rw [E.out,List.all_eq_false.2 ⟨p,HM.out,by unfold oneOk;rw [HA.out];simp⟩]
              rfl
            | false =>
              have HA:=Aside0.mk hany
              clear hany
              by_cases hl1:p.length < 1
              · have e5:decide ((p.length:Int) < 1)=true:=decide_eq_true (by omega)
                have HL1:=Aside0.mk hl1
                clear hl1
                go_wp2_with (go_at_call 173;refine (cfOdd_calls A0 c0 p wr (Kd.C_below HC0.out HBr.out) (HP.out p HM.out)).mono ?_;rw [HA.out];rintro e W1 ⟨rfl,hb⟩;have HBA:=Aside0.mk (below_step HBr.out hb);clear hb)
                go_ret
                refine ⟨?_,HBA.out⟩
                rw [E.out,List.all_eq_false.2 ⟨p,HM.out,by unfold oneOk;rw [decide_eq_false (p:=1≤p.length) (by have:=HL1.out;omega)];simp⟩]
                rfl
              · have e5:decide ((p.length:Int) < 1)=false:=decide_eq_false (by omega)
                have HL1:=Aside0.mk hl1
                clear hl1
                by_cases hl8:8 < p.length
                · have e6:decide ((8:Int) < (p.length:Int))=true:=decide_eq_true (by omega)
                  have HL8:=Aside0.mk hl8
                  clear hl8
                  go_wp2_with (go_at_call 173;refine (cfOdd_calls A0 c0 p wr (Kd.C_below HC0.out HBr.out) (HP.out p HM.out)).mono ?_;rw [HA.out];rintro e W1 ⟨rfl,hb⟩;have HBA:=Aside0.mk (below_step HBr.out hb);clear hb)
                  go_ret
                  refine ⟨?_,HBA.out⟩
                  rw [E.out,List.all_eq_false.2 ⟨p,HM.out,by unfold oneOk;rw [decide_eq_false (p:=p.length≤8) (by have:=HL8.out;omega)];simp⟩]
                  rfl
                · have e6:decide ((8:Int) < (p.length:Int))=false:=decide_eq_false (by omega)
                  have HL8:=Aside0.mk hl8
                  clear hl8
                  go_wp2_with (go_at_call 173;refine (cfOdd_calls A0 c0 p wr (Kd.C_below HC0.out HBr.out) (HP.out p HM.out)).mono ?_;rw [HA.out];rintro e W1 ⟨rfl,hb⟩;have HBA:=Aside0.mk (below_step HBr.out hb);clear hb)
                  go_roundg k1
                  case measure=>omega
                  case rel=>exact ⟨k+1,by first | rfl|(congr 1;omega)|(rw [IntWalk.wrap64_in _ (by have:=HL.out;omega)];rfl),⟨by have:=HX.out;have:=HK.out;omega⟩,⟨by rw [List.take_add_one,HNK.out,List.all_append,HO.out];simp [oneOk,HA.out];have:=HL1.out;have:=HL8.out;omega⟩,HBA⟩
          · have c1:decide ((k:Int) < (ps.length:Int))=false:=decide_eq_false (by omega)
            have c1n:=eq_false hx
            have hk:k=ps.length:=by have:=HK.out;omega
            subst hk
            have hO:=HO.out
            rw [List.take_length] at hO
            have HO2:=Aside0.mk hO
            clear hO hx
            go_wp2
            go_ret
            exact ⟨by rw [E.out,HO2.out];rfl,HBr.out⟩
end Go.Proofs.YthjacokachgmfaaGreatDoor.H
end
section
namespace Go.Proofs.YthjacokachgmfaaGreatDoor.H
open Go Go.RowKit YthjacokachgmfaaGreatDoorW.PrintWords YthjacokachgmfaaGreatDoorW.PrintLast YthjacokachgmfaaGreatDoorW.PrintMore
set_option maxRecDepth 100000
def nat8 (l:List UInt8):List Int:=l.map (fun b=>(b.toNat:Int))
theorem bytesOf_arr (l:List UInt8):bytesOf ⟨l.toArray⟩=nat8 l:=by simp [bytesOf,nat8]
def OwnB (w0 w:World) (v:Value) (l:List UInt8):Prop:=Kd.R (Kd.int .u8) 5 w w0.heap.size (fun k=>w0.heap.size≤k) v (nat8 l)
theorem infoU8':(Tryz.prog.info? 5).map (fun i=>(i.zero,i.size,i.bytes))=some (some (.int .u8 0),1,1):=by kernel_rfl
def glueT (l:List (List UInt8)):List UInt8:=27 :: Lib.join l []
set_option maxHeartbeats 4000000 in
theorem glue_calls (A:Option Addr) (n c:Nat) (lb:List ByteArray) (l:List (List UInt8)) (ok:Nat→Prop) (base:Nat) (w:World) (hr:Kd.R kstr 9 w base ok (.slice A n c) lb) (hlb:lb.map (fun x=>x.data.toList)=l) (hl:lb.length≤100000) (hj:(Lib.join l []).length≤100000000000) :
    Calls Tryz.prog 63 #[.slice A n c] w fun e w'=>(∃ v,e=.returned v∧OwnB w w' v (glueT l))∧Below w.heap.size w w':=by
  have HR:=Aside0.mk hr
  have HLB:=Aside0.mk hlb
  have HL:=Aside0.mk hl
  have HJ:=Aside0.mk hj
  have hB0:=Aside0.mk (Below.refl w.heap.size w)
  clear hr hlb hl hj
  go_enter Tryz.func63,Tryz.ntmps63
  go_wp2_with (first|(go_at_call 115;refine (join_row0 (w.alloc (.cells #[.int .u8 27] 5 (0,0))) A n c lb l [] ok base (Kd.R_below HR.out (below_alloc (Below.refl _ _) _)) HLB.out (by have:=HL.out;omega) (by have:=HJ.out;omega)).mono ?_;rintro e W1 ⟨rfl,hb⟩;have HB1:=Aside0.mk (below_step (below_alloc hB0.out _) hb);have HO1:=Aside0.mk (pw_own_below (own_lit w w.heap.size 5 .u8 [27] (Nat.le_refl _) (by simp)) hb);clear hb)|((with_reducible refine gate_builtin (b:=.append) (xs:=#[.tmp 3,.tmp 5]) rfl ?_);at_builtin;refine print_append_str (w0:=w) w.heap.size rfl (.tmp 3) (.tmp 5) 22 9 5 rfl Tryz.underlying22 Tryz.underlying9 infoU8' _ [27] ⟨(Lib.join l []).toArray⟩ rfl rfl HO1.out HB1.out (below_size HB1.out) (by have:=HJ.out;show 1+(Lib.join l []).toArray.size≤_;simp only [List.size_toArray];omega) ?_;intro v1 w1 hown hbb hg;have HO2:=Aside0.mk hown;have HB2:=Aside0.mk hbb;clear hown hbb hg))
  go_ret
  refine ⟨⟨_,rfl,?_⟩,HB2.out⟩
  unfold OwnB
  have h_:=HO2.out
  rw [bytesOf_arr] at h_
  exact Kd.R_of_own (enc:=Value.int .u8) (h1:=fun _=>rfl) h_ (own_base h_)
end Go.Proofs.YthjacokachgmfaaGreatDoor.H
end
