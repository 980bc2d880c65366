import Derived.Lib.Bytes
import Derived.Test.YthjacokachgmfaaGreatDoorT10
import Derived.Test.YthjacokachgmfaaGreatDoorT11
import Derived.Test.YthjacokachgmfaaGreatDoorT13
set_option linter.unusedVariables false
set_option linter.unusedSimpArgs false
section
namespace Go.Proofs.YthjacokachgmfaaGreatDoor.Pure
open Go.RowKit YthjacokachgmfaaGreatDoorW.PrintWords YthjacokachgmfaaGreatDoorW.PrintLast YthjacokachgmfaaGreatDoor.H
theorem byteF {P:Int→Prop} (h:∀ n:Fin 256,P (n.val:Int)) (b:Int) (hb:0≤b∧b≤255):P b:=by
  have:=h ⟨b.toNat,by omega⟩
  simp only [Int.toNat_of_nonneg hb.1] at this
  exact this
set_option maxRecDepth 100000 in
theorem byte_and (b:Int) (hb:0≤b∧b≤255):Go.bits .and .u8 b 127=b % 128∧Go.bits .and .u8 b 31=b % 32∧Go.bits .and .u8 b 15=b % 16∧Go.bits .and .u8 b 7=b % 8∧Go.bits .and .u8 b 63=b % 64 :=
  byteF (P:=fun b=>Go.bits .and .u8 b 127=b % 128∧Go.bits .and .u8 b 31=b % 32∧Go.bits .and .u8 b 15=b % 16∧Go.bits .and .u8 b 7=b % 8∧Go.bits .and .u8 b 63=b % 64) (by decide +kernel) b hb
set_option maxRecDepth 100000 in
theorem byte_not (b:Int) (hb:0≤b∧b≤255):(Go.bits .andNot .u8 b 127=0↔b < 128)∧(Go.bits .andNot .u8 b 31=192↔192≤b∧b < 224)∧(Go.bits .andNot .u8 b 15=224↔224≤b∧b < 240)∧(Go.bits .andNot .u8 b 7=240↔240≤b∧b < 248) :=
  byteF (P:=fun b=>(Go.bits .andNot .u8 b 127=0↔b < 128)∧(Go.bits .andNot .u8 b 31=192↔192≤b∧b < 224)∧(Go.bits .andNot .u8 b 15=224↔224≤b∧b < 240)∧(Go.bits .andNot .u8 b 7=240↔240≤b∧b < 248)) (by decide +kernel) b hb
theorem or_low (x y:Int) (hx:0≤x∧x < 1099511627776) (hy:0≤y∧y < 64):Go.bits .or .i64 (x * 64) y=x * 64+y:=by
  obtain ⟨m,rfl⟩:∃ m:Nat,x=(m:Int):=⟨x.toNat,by omega⟩
  obtain ⟨n,rfl⟩:∃ n:Nat,y=(n:Int):=⟨y.toNat,by omega⟩
  have e1:(BitVec.ofInt 64 ((m:Int) * 64)).toNat=m * 64:=by
    rw [show (m:Int) * 64=((m * 64:Nat):Int) by omega,BitVec.ofInt_natCast,BitVec.toNat_ofNat];exact Nat.mod_eq_of_lt (by omega)
  have e2:(BitVec.ofInt 64 (n:Int)).toNat=n:=by
    rw [BitVec.ofInt_natCast,BitVec.toNat_ofNat];exact Nat.mod_eq_of_lt (by omega)
  show IntKind.i64.wrap ((BitVec.ofInt 64 ((m:Int) * 64) ||| BitVec.ofInt 64 (n:Int)).toNat:Int)=_
  rw [BitVec.toNat_or,e1,e2,i64_w]
  have h:m * 64 ||| n=m * 64+n:=by
    have:=Nat.shiftLeft_add_eq_or_of_lt (a:=m) (b:=n) (i:=6) (by omega)
    rw [Nat.shiftLeft_eq] at this
    exact this.symm
  rw [h]
  unfold wrap64
  omega
theorem wr {n:Int} (h0:-9223372036854775808≤n) (h1:n≤9223372036854775807):wrap64 n=n:=by unfold wrap64;omega
theorem tStep_eq (x c:Int) (hx:0≤x∧x < 1000000000) (hc:0≤c∧c≤255):tStep x c=x * 64+c % 64:=by
  unfold tStep
  rw [(byte_and c hc).2.2.2.2,wr (by omega) (by omega),wr (by omega) (by omega),or_low x (c % 64) (by omega) (by omega)]
theorem tStart_eq (b:Int) (hb:0≤b∧b≤255):tStart 127 b=b % 128∧tStart 31 b=b % 32∧tStart 15 b=b % 16∧tStart 7 b=b % 8:=by
  obtain ⟨h1,h2,h3,h4,_⟩:=byte_and b hb
  unfold tStart
  rw [h1,h2,h3,h4,wr (by omega) (by omega),wr (by omega) (by omega),wr (by omega) (by omega),wr (by omega) (by omega)]
  exact ⟨rfl,rfl,rfl,rfl⟩
def n2 (a b:Int):Int:=a % 32 * 64+b % 64
def n3 (a b c:Int):Int:=(a % 16 * 64+b % 64) * 64+c % 64
def n4 (a b c d:Int):Int:=((a % 8 * 64+b % 64) * 64+c % 64) * 64+d % 64
def tl (b:Int):Prop:=128≤b∧b < 192
instance (b:Int):Decidable (tl b):=by unfold tl;infer_instance
def g2 (a b:Int):Prop:=192≤a∧a < 224∧tl b∧128≤n2 a b
def g3 (a b c:Int):Prop:=224≤a∧a < 240∧tl b∧tl c∧2048≤n3 a b c∧(n3 a b c < 55296∨57343 < n3 a b c)
def g4 (a b c d:Int):Prop:=240≤a∧a < 248∧tl b∧tl c∧tl d∧65536≤n4 a b c d∧n4 a b c d≤1114111
instance (a b:Int):Decidable (g2 a b):=by unfold g2;infer_instance
instance (a b c:Int):Decidable (g3 a b c):=by unfold g3;infer_instance
instance (a b c d:Int):Decidable (g4 a b c d):=by unfold g4;infer_instance
def takeS:List Int→Int × Int
  | []=>(0,0)
  | [a]=>if a < 128 then (a,1) else (0,0)
  | [a,b]=>if a < 128 then (a,1) else if g2 a b then (n2 a b,2) else (0,0)
  | [a,b,c]=>if a < 128 then (a,1) else if g2 a b then (n2 a b,2) else if g3 a b c then (n3 a b c,3) else (0,0)
  | a :: b :: c :: d :: _=>if a < 128 then (a,1) else if g2 a b then (n2 a b,2) else if g3 a b c then (n3 a b c,3) else if g4 a b c d then (n4 a b c d,4) else (0,0)
theorem put1_iff (a:Int) (ha:0≤a∧a≤255) (h:a < 128):putP (a % 128)=[a]:=by
  unfold putP isB
  rw [if_pos (decide_eq_true (by omega)),if_pos (by omega)]
  congr 1
  omega
theorem put2_iff (a b:Int) (ha:192≤a∧a < 224) (hb:0≤b∧b≤255):putP (n2 a b)=[a,b]↔g2 a b:=by
  have hr:0≤n2 a b∧n2 a b≤2047:=by unfold n2;omega
  unfold putP isB g2 tl
  rw [if_pos (decide_eq_true (by omega))]
  by_cases h1:n2 a b≤127
  · rw [if_pos h1]
    simp
    omega
  · rw [if_neg h1,if_pos hr.2]
    simp only [List.cons.injEq,and_true]
    unfold n2 at *
    omega
theorem put3_iff (a b c:Int) (ha:224≤a∧a < 240) (hb:0≤b∧b≤255) (hc:0≤c∧c≤255):putP (n3 a b c)=[a,b,c]↔g3 a b c:=by
  have hr:0≤n3 a b c∧n3 a b c≤65535:=by unfold n3;omega
  unfold putP isB g3 tl
  by_cases hs:n3 a b c < 55296∨n3 a b c > 57343
  · rw [if_pos (decide_eq_true (by omega))]
    by_cases h1:n3 a b c≤127
    · rw [if_pos h1]
      simp
      omega
    · rw [if_neg h1]
      by_cases h2:n3 a b c≤2047
      · rw [if_pos h2]
        simp
        omega
      · rw [if_neg h2,if_pos hr.2]
        simp only [List.cons.injEq,and_true]
        unfold n3 at *
        omega
  · rw [if_neg (by simp;omega)]
    simp
    omega
theorem put4_iff (a b c d:Int) (ha:240≤a∧a < 248) (hb:0≤b∧b≤255) (hc:0≤c∧c≤255) (hd:0≤d∧d≤255):putP (n4 a b c d)=[a,b,c,d]↔g4 a b c d:=by
  have hr:0≤n4 a b c d∧n4 a b c d≤2097151:=by unfold n4;omega
  unfold putP isB g4 tl
  by_cases hs:n4 a b c d≤1114111∧(n4 a b c d < 55296∨n4 a b c d > 57343)
  · rw [if_pos (decide_eq_true (by omega))]
    by_cases h1:n4 a b c d≤127
    · rw [if_pos h1]
      simp
      omega
    · rw [if_neg h1]
      by_cases h2:n4 a b c d≤2047
      · rw [if_pos h2]
        simp
        omega
      · rw [if_neg h2]
        by_cases h3:n4 a b c d≤65535
        · rw [if_pos h3]
          simp
          omega
        · rw [if_neg h3]
          simp only [List.cons.injEq,and_true]
          unfold n4 at *
          omega
  · rw [if_neg (by simp;omega)]
    simp
    omega
theorem ok1_of (a:Int) (r:List Int) (ha:0≤a∧a≤255):(ok1 (a :: r)↔a < 128)∧acc1 (a :: r)=a % 128:=by
  have e:acc1 (a :: r)=a % 128:=(tStart_eq a ha).1
  refine ⟨?_,e⟩
  unfold ok1
  rw [e]
  show 1≤r.length+1∧Go.bits .andNot .u8 a 127=0∧putP (a % 128)=[a]↔_
  rw [(byte_not a ha).1]
  exact ⟨fun h=>h.2.1,fun h=>⟨by omega,h,put1_iff a ha h⟩⟩
theorem ok2_of (a b:Int) (r:List Int) (ha:0≤a∧a≤255) (hb:0≤b∧b≤255):(ok2 (a :: b :: r)↔g2 a b)∧acc2 (a :: b :: r)=n2 a b:=by
  have e:acc2 (a :: b :: r)=n2 a b:=by
    show tStep (tStart 31 a) b=_
    rw [(tStart_eq a ha).2.1,tStep_eq _ _ (by omega) hb]
    rfl
  refine ⟨?_,e⟩
  unfold ok2
  rw [e]
  show 2≤r.length+1+1∧Go.bits .andNot .u8 a 31=192∧putP (n2 a b)=[a,b]↔_
  rw [(byte_not a ha).2.1]
  constructor
  · rintro ⟨_,h1,h2⟩
    exact (put2_iff a b h1 hb).mp h2
  · intro h
    exact ⟨by omega,⟨h.1,h.2.1⟩,(put2_iff a b ⟨h.1,h.2.1⟩ hb).mpr h⟩
theorem ok3_of (a b c:Int) (r:List Int) (ha:0≤a∧a≤255) (hb:0≤b∧b≤255) (hc:0≤c∧c≤255):(ok3 (a :: b :: c :: r)↔g3 a b c)∧acc3 (a :: b :: c :: r)=n3 a b c:=by
  have e:acc3 (a :: b :: c :: r)=n3 a b c:=by
    show tStep (tStep (tStart 15 a) b) c=_
    rw [(tStart_eq a ha).2.2.1,tStep_eq _ _ (by omega) hb,tStep_eq _ _ (by omega) hc]
    rfl
  refine ⟨?_,e⟩
  unfold ok3
  rw [e]
  show 3≤r.length+1+1+1∧Go.bits .andNot .u8 a 15=224∧putP (n3 a b c)=[a,b,c]↔_
  rw [(byte_not a ha).2.2.1]
  constructor
  · rintro ⟨_,h1,h2⟩
    exact (put3_iff a b c h1 hb hc).mp h2
  · intro h
    exact ⟨by omega,⟨h.1,h.2.1⟩,(put3_iff a b c ⟨h.1,h.2.1⟩ hb hc).mpr h⟩
theorem ok4_of (a b c d:Int) (r:List Int) (ha:0≤a∧a≤255) (hb:0≤b∧b≤255) (hc:0≤c∧c≤255) (hd:0≤d∧d≤255):(ok4 (a :: b :: c :: d :: r)↔g4 a b c d)∧acc4 (a :: b :: c :: d :: r)=n4 a b c d:=by
  have e:acc4 (a :: b :: c :: d :: r)=n4 a b c d:=by
    show tStep (tStep (tStep (tStart 7 a) b) c) d=_
    rw [(tStart_eq a ha).2.2.2,tStep_eq _ _ (by omega) hb,tStep_eq _ _ (by omega) hc,tStep_eq _ _ (by omega) hd]
    rfl
  refine ⟨?_,e⟩
  unfold ok4
  rw [e]
  show 4≤r.length+1+1+1+1∧Go.bits .andNot .u8 a 7=240∧putP (n4 a b c d)=[a,b,c,d]↔_
  rw [(byte_not a ha).2.2.2]
  constructor
  · rintro ⟨_,h1,h2⟩
    exact (put4_iff a b c d h1 hb hc hd).mp h2
  · intro h
    exact ⟨by omega,⟨h.1,h.2.1⟩,(put4_iff a b c d ⟨h.1,h.2.1⟩ hb hc hd).mpr h⟩
theorem takeC_S (l:List Int) (hl:∀ z∈l,0≤z∧z≤255):takeC l=takeS l:=by
  have n2_:l.length < 2→¬ ok2 l:=fun h k=>by have:=k.1;omega
  have n3_:l.length < 3→¬ ok3 l:=fun h k=>by have:=k.1;omega
  have n4_:l.length < 4→¬ ok4 l:=fun h k=>by have:=k.1;omega
  rcases l with _ | ⟨a,t⟩
  · exact takeC_4 ⟨fun _ h=>by have:=h.1;simp at this,fun _=>n2_ (by simp),fun _=>n3_ (by simp),fun _=>n4_ (by simp)⟩
  have ha:=hl a (by simp)
  obtain ⟨i1,a1⟩:=ok1_of a t ha
  by_cases h1:a < 128
  · have:takeS (a :: t)=(a,1):=by
      rcases t with _ | ⟨b,_ | ⟨c,_ | ⟨d,r⟩⟩⟩<;>exact if_pos h1
    rw [this,takeC_0 (i1.mpr h1),a1,Int.emod_eq_of_lt ha.1 h1]
  have k1:¬ ok1 (a :: t):=fun h=>h1 (i1.mp h)
  rcases t with _ | ⟨b,t⟩
  · rw [takeC_4 ⟨fun _=>k1,fun _=>n2_ (by simp),fun _=>n3_ (by simp),fun _=>n4_ (by simp)⟩]
    exact (if_neg h1).symm
  have hb:=hl b (by simp)
  obtain ⟨i2,a2⟩:=ok2_of a b t ha hb
  have m1:nots (a :: b :: t) 1:=nots_next1 (nots_0 _) k1
  by_cases h2:g2 a b
  · have:takeS (a :: b :: t)=(n2 a b,2):=by
      rcases t with _ | ⟨c,_ | ⟨d,r⟩⟩<;>exact (if_neg h1).trans (if_pos h2)
    rw [this,takeC_1 m1 (i2.mpr h2),a2]
  have k2:¬ ok2 (a :: b :: t):=fun h=>h2 (i2.mp h)
  have m2:=nots_next2 m1 k2
  rcases t with _ | ⟨c,t⟩
  · rw [takeC_4 ⟨fun _=>k1,fun _=>k2,fun _=>n3_ (by simp),fun _=>n4_ (by simp)⟩]
    exact ((if_neg h1).trans (if_neg h2)).symm
  have hc:=hl c (by simp)
  obtain ⟨i3,a3⟩:=ok3_of a b c t ha hb hc
  by_cases h3:g3 a b c
  · have:takeS (a :: b :: c :: t)=(n3 a b c,3):=by
      rcases t with _ | ⟨d,r⟩<;>exact (if_neg h1).trans ((if_neg h2).trans (if_pos h3))
    rw [this,takeC_2 m2 (i3.mpr h3),a3]
  have k3:¬ ok3 (a :: b :: c :: t):=fun h=>h3 (i3.mp h)
  have m3:=nots_next3 m2 k3
  rcases t with _ | ⟨d,t⟩
  · rw [takeC_4 ⟨fun _=>k1,fun _=>k2,fun _=>k3,fun _=>n4_ (by simp)⟩]
    exact ((if_neg h1).trans ((if_neg h2).trans (if_neg h3))).symm
  have hd:=hl d (by simp)
  obtain ⟨i4,a4⟩:=ok4_of a b c d t ha hb hc hd
  by_cases h4:g4 a b c d
  · have:takeS (a :: b :: c :: d :: t)=(n4 a b c d,4):=(if_neg h1).trans ((if_neg h2).trans ((if_neg h3).trans (if_pos h4)))
    rw [this,takeC_3 m3 (i4.mpr h4),a4]
  · rw [takeC_4 (nots_next4 m3 (fun h=>h4 (i4.mp h)))]
    exact ((if_neg h1).trans ((if_neg h2).trans ((if_neg h3).trans (if_neg h4)))).symm
end Go.Proofs.YthjacokachgmfaaGreatDoor.Pure
namespace Go.Proofs.YthjacokachgmfaaGreatDoor.Pure
open Go.RowKit YthjacokachgmfaaGreatDoorW.PrintWords YthjacokachgmfaaGreatDoorW.PrintLast YthjacokachgmfaaGreatDoor.H
def isR (r:Int):Prop:=0≤r∧r≤1114111∧(r < 55296∨r > 57343)
instance (r:Int):Decidable (isR r):=by unfold isR;infer_instance
def bytes (l:List Int):Prop:=∀ z∈l,0≤z∧z≤255
theorem bytes_drop {l:List Int} (h:bytes l) (n:Nat):bytes (l.drop n):=fun z hz=>h z (List.mem_of_mem_drop hz)
theorem bytes_take {l:List Int} (h:bytes l) (n:Nat):bytes (l.take n):=fun z hz=>h z (List.mem_of_mem_take hz)
theorem bytes_app {a b:List Int} (ha:bytes a) (hb:bytes b):bytes (a++b):=fun z hz=>by
  rcases List.mem_append.1 hz with h | h
  · exact ha z h
  · exact hb z h
theorem put_none {r:Int} (h:¬ isR r):putP r=[]:=by
  unfold putP isB
  exact if_neg (by simp;unfold isR at h;omega)
theorem put_1 {r:Int} (h:isR r) (h1:r≤127):putP r=[r]:=by
  unfold putP isB;rw [if_pos (decide_eq_true (show 0≤r∧r≤1114111∧(r < 55296∨r > 57343) from h)),if_pos h1]
theorem put_2 {r:Int} (h:isR r) (h1:127 < r) (h2:r≤2047):putP r=[192+r / 64,128+r % 64]:=by
  unfold putP isB;rw [if_pos (decide_eq_true (show 0≤r∧r≤1114111∧(r < 55296∨r > 57343) from h)),if_neg (by omega),if_pos h2]
theorem put_3 {r:Int} (h:isR r) (h1:2047 < r) (h2:r≤65535):putP r=[224+r / 64 / 64,128+r / 64 % 64,128+r % 64]:=by
  unfold putP isB;rw [if_pos (decide_eq_true (show 0≤r∧r≤1114111∧(r < 55296∨r > 57343) from h)),if_neg (by omega),if_neg (by omega),if_pos h2]
theorem put_4 {r:Int} (h:isR r) (h1:65535 < r):putP r=[240+r / 64 / 64 / 64,128+r / 64 / 64 % 64,128+r / 64 % 64,128+r % 64]:=by
  unfold putP isB;rw [if_pos (decide_eq_true (show 0≤r∧r≤1114111∧(r < 55296∨r > 57343) from h)),if_neg (by omega),if_neg (by omega),if_neg (by omega)]
theorem four (r:Int) (h:isR r):r≤127∨(127 < r∧r≤2047)∨(2047 < r∧r≤65535)∨65535 < r:=by omega
theorem put_bytes (r:Int):bytes (putP r):=by
  by_cases h:isR r
  · have hh:=h
    unfold isR at hh
    rcases four r h with h1 | ⟨h1,h2⟩ | ⟨h1,h2⟩ | h1
    · rw [put_1 h h1];intro z hz;simp only [List.mem_cons,List.not_mem_nil,or_false] at hz;omega
    · rw [put_2 h h1 h2];intro z hz;simp only [List.mem_cons,List.not_mem_nil,or_false] at hz;omega
    · rw [put_3 h h1 h2];intro z hz;simp only [List.mem_cons,List.not_mem_nil,or_false] at hz;omega
    · rw [put_4 h h1];intro z hz;simp only [List.mem_cons,List.not_mem_nil,or_false] at hz;omega
  · rw [put_none h];intro z hz;simp at hz
theorem put_len {r:Int} (h:isR r):1≤(putP r).length∧(putP r).length≤4:=by
  rcases four r h with h1 | ⟨h1,h2⟩ | ⟨h1,h2⟩ | h1
  · rw [put_1 h h1];simp
  · rw [put_2 h h1 h2];simp
  · rw [put_3 h h1 h2];simp
  · rw [put_4 h h1];simp
theorem takeS_1 {a:Int} {t:List Int} (h1:a < 128):takeS (a :: t)=(a,1):=by
  rcases t with _ | ⟨b,_ | ⟨c,_ | ⟨d,r⟩⟩⟩<;>exact if_pos h1
theorem takeS_2 {a b:Int} {t:List Int} (h1:¬ a < 128) (h2:g2 a b):takeS (a :: b :: t)=(n2 a b,2):=by
  rcases t with _ | ⟨c,_ | ⟨d,r⟩⟩<;>exact (if_neg h1).trans (if_pos h2)
theorem takeS_3 {a b c:Int} {t:List Int} (h1:¬ a < 128) (h2:¬ g2 a b) (h3:g3 a b c):takeS (a :: b :: c :: t)=(n3 a b c,3):=by
  rcases t with _ | ⟨d,r⟩<;>exact (if_neg h1).trans ((if_neg h2).trans (if_pos h3))
theorem takeS_4 {a b c d:Int} {t:List Int} (h1:¬ a < 128) (h2:¬ g2 a b) (h3:¬ g3 a b c) (h4:g4 a b c d):takeS (a :: b :: c :: d :: t)=(n4 a b c d,4) :=
  (if_neg h1).trans ((if_neg h2).trans ((if_neg h3).trans (if_pos h4)))
theorem take_put {r:Int} (h:isR r) {m:List Int} (hm:bytes m):takeC (putP r++m)=(r,((putP r).length:Int)):=by
  rw [takeC_S _ (bytes_app (put_bytes r) hm)]
  have hh:=h
  unfold isR at hh
  rcases four r h with h1 | ⟨h1,h2⟩ | ⟨h1,h2⟩ | h1
  · rw [put_1 h h1]
    exact takeS_1 (by omega)
  · rw [put_2 h h1 h2]
    have e:n2 (192+r / 64) (128+r % 64)=r:=by unfold n2;omega
    have k2:g2 (192+r / 64) (128+r % 64):=by unfold g2 tl;rw [e];omega
    refine (takeS_2 (by omega) k2).trans ?_
    rw [e];rfl
  · rw [put_3 h h1 h2]
    have e:n3 (224+r / 64 / 64) (128+r / 64 % 64) (128+r % 64)=r:=by unfold n3;omega
    have k2:¬ g2 (224+r / 64 / 64) (128+r / 64 % 64):=by unfold g2;omega
    have k3:g3 (224+r / 64 / 64) (128+r / 64 % 64) (128+r % 64):=by unfold g3 tl;rw [e];omega
    refine (takeS_3 (by omega) k2 k3).trans ?_
    rw [e];rfl
  · rw [put_4 h h1]
    have e:n4 (240+r / 64 / 64 / 64) (128+r / 64 / 64 % 64) (128+r / 64 % 64) (128+r % 64)=r:=by unfold n4;omega
    have k2:¬ g2 (240+r / 64 / 64 / 64) (128+r / 64 / 64 % 64):=by unfold g2;omega
    have k3:¬ g3 (240+r / 64 / 64 / 64) (128+r / 64 / 64 % 64) (128+r / 64 % 64):=by unfold g3;omega
    have k4:g4 (240+r / 64 / 64 / 64) (128+r / 64 / 64 % 64) (128+r / 64 % 64) (128+r % 64):=by unfold g4 tl;rw [e];omega
    refine (takeS_4 (by omega) k2 k3 k4).trans ?_
    rw [e];rfl
theorem isR_of_put {r:Int} (h:putP r≠[]):isR r:=Classical.byContradiction fun k=>h (put_none k)
theorem take_some {l:List Int} {r n:Int} (h:takeC l=(r,n)) (hn:n≠0):1≤n∧n≤4∧n≤l.length∧isR r∧putP r=l.take n.toNat:=by
  have key:∀ j:Nat,1≤j→j≤l.length→putP r=l.take j→isR r:=fun j hj1 hj2 he=>isR_of_put (by rw [he];intro e;have:=congrArg List.length e;rw [List.length_take,List.length_nil] at this;omega)
  unfold takeC at h
  split at h
  · rename_i k;cases h;exact ⟨by omega,by omega,by have:=k.1;omega,key 1 (by decide) k.1 k.2.2,k.2.2⟩
  split at h
  · rename_i k;cases h;exact ⟨by omega,by omega,by have:=k.1;omega,key 2 (by decide) k.1 k.2.2,k.2.2⟩
  split at h
  · rename_i k;cases h;exact ⟨by omega,by omega,by have:=k.1;omega,key 3 (by decide) k.1 k.2.2,k.2.2⟩
  split at h
  · rename_i k;cases h;exact ⟨by omega,by omega,by have:=k.1;omega,key 4 (by decide) k.1 k.2.2,k.2.2⟩
  · cases h;exact absurd rfl hn
theorem take_zero {l:List Int} (h:(takeC l).2=0):takeC l=(0,0):=by
  unfold takeC at h ⊢
  by_cases h1:ok1 l
  · rw [if_pos h1] at h;exact absurd (show (_:Int)=0 from h) (by intro k;simp at k)
  by_cases h2:ok2 l
  · rw [if_neg h1,if_pos h2] at h;exact absurd (show (_:Int)=0 from h) (by intro k;simp at k)
  by_cases h3:ok3 l
  · rw [if_neg h1,if_neg h2,if_pos h3] at h;exact absurd (show (_:Int)=0 from h) (by intro k;simp at k)
  by_cases h4:ok4 l
  · rw [if_neg h1,if_neg h2,if_neg h3,if_pos h4] at h;exact absurd (show (_:Int)=0 from h) (by intro k;simp at k)
  rw [if_neg h1,if_neg h2,if_neg h3,if_neg h4]
theorem take_of {l:List Int} (hl:bytes l) {r:Int} {n:Nat} (h1:1≤n) (h2:n≤l.length) (h:putP r=l.take n):takeC l=(r,(n:Int)):=by
  have hlen:(putP r).length=n:=by rw [h,List.length_take];omega
  have hr:isR r:=isR_of_put (by intro e;rw [e] at hlen;simp at hlen;omega)
  have:=take_put hr (bytes_drop hl n)
  rw [h,List.take_append_drop] at this
  rw [this,← h,hlen]
theorem pts_fuel:∀ (k:Nat) (l:List Int) (k':Nat),l.length < k→l.length < k'→pts k l=pts k' l:=by
  intro k
  induction k with
  | zero=>intro l k' h;omega
  | succ k ih =>
    intro l k' h h'
    obtain ⟨j,rfl⟩:∃ j,k'=j+1:=⟨k' - 1,by omega⟩
    rw [pts,pts]
    split
    · rfl
    split
    · rfl
    · rename_i h1 h2
      obtain ⟨e1,e2,e3,-⟩:=take_some (l:=l) (r:=(takeC l).1) (n:=(takeC l).2) rfl h2
      have hl:(l.drop (takeC l).2.toNat).length < l.length:=by rw [List.length_drop];omega
      rw [ih _ j (by omega) (by omega)]
theorem all_nil:allC []=([],true):=rfl
theorem all_bad {l:List Int} (h:l≠[]) (h0:(takeC l).2=0):allC l=([],false):=by
  have e:pts (l.length+1) l=[((takeC l).1,false)]:=by
    rw [pts,if_neg (fun e=>h (List.length_eq_zero_iff.1 e)),if_pos h0]
  unfold allC
  rw [e,if_neg (fun k=>by have:=k _ (List.mem_cons_self);simp at this)]
theorem all_step {l:List Int} {r n:Int} (h:takeC l=(r,n)) (hn:n≠0):allC l=if (allC (l.drop n.toNat)).2=true then (r :: (allC (l.drop n.toNat)).1,true) else ([],false):=by
  obtain ⟨e1,e2,e3,-⟩:=take_some h hn
  have e:pts (l.length+1) l=(r,true) :: pts ((l.drop n.toNat).length+1) (l.drop n.toNat):=by
    rw [pts,if_neg (by omega),h]
    dsimp only
    rw [if_neg hn,pts_fuel l.length _ ((l.drop n.toNat).length+1) (by rw [List.length_drop];omega) (by omega)]
  unfold allC
  rw [e]
  generalize pts ((l.drop n.toNat).length+1) (l.drop n.toNat)=P
  by_cases hP:∀ x∈P,x.2=true
  · rw [if_pos (show ∀ x∈(r,true) :: P,x.2=true by intro x hx;rcases List.mem_cons.1 hx with rfl | hx;rfl;exact hP x hx),if_pos hP]
    rfl
  · rw [if_neg (fun k=>hP (fun x hx=>k x (List.mem_cons_of_mem _ hx))),if_neg (by rw [if_neg hP];decide)]
def textP (l:List Int):List Int:=l.flatMap putP
theorem textP_cons (r:Int) (l:List Int):textP (r :: l)=putP r++textP l:=rfl
theorem text_of_all:∀ (n:Nat) (b:List Int),b.length≤n→(allC b).2=true→textP (allC b).1=b∧∀ r∈(allC b).1,isR r:=by
  intro n
  induction n with
  | zero =>
    intro b hb _
    obtain rfl:b=[]:=List.length_eq_zero_iff.1 (by omega)
    rw [all_nil]
    exact ⟨rfl,fun r hr=>by simp at hr⟩
  | succ n ih =>
    intro b hb h
    by_cases h0:b=[]
    · subst h0
      rw [all_nil]
      exact ⟨rfl,fun r hr=>by simp at hr⟩
    by_cases hz:(takeC b).2=0
    · rw [all_bad h0 hz] at h;simp at h
    obtain ⟨e1,e2,e3,e4,e5⟩:=take_some (l:=b) (r:=(takeC b).1) (n:=(takeC b).2) rfl hz
    have hs:=all_step (l:=b) (r:=(takeC b).1) (n:=(takeC b).2) rfl hz
    rw [hs] at h ⊢
    by_cases hd:(allC (b.drop (takeC b).2.toNat)).2=true
    · rw [if_pos hd]
      obtain ⟨i1,i2⟩:=ih (b.drop (takeC b).2.toNat) (by rw [List.length_drop];omega) hd
      constructor
      · show putP _++textP _=_
        rw [i1,e5,List.take_append_drop]
      · intro r hr
        rcases List.mem_cons.1 hr with rfl | hr
        · exact e4
        · exact i2 r hr
    · rw [if_neg hd] at h;simp at h
theorem all_len:∀ (b:List Int),(allC b).1.length≤b.length:=by
  intro b
  by_cases h:(allC b).2=true
  · obtain ⟨e,hr⟩:=text_of_all _ b (Nat.le_refl _) h
    have:∀ k:List Int,(∀ r∈k,isR r)→k.length≤(textP k).length:=by
      intro k
      induction k with
      | nil=>intro _;exact Nat.le_refl _
      | cons r k ih =>
        intro hk
        have:=put_len (hk r List.mem_cons_self)
        have:=ih (fun z hz=>hk z (List.mem_cons_of_mem _ hz))
        rw [textP_cons,List.length_append,List.length_cons]
        omega
    have:=this _ hr
    rwa [e] at this
  · have:allC b=([],false):=by
      unfold allC at h ⊢
      split at h
      · simp at h
      · rename_i k;rw [if_neg k]
    rw [this]
    exact Nat.zero_le _
theorem str_eq {a b:List Int} (ha:bytes a) (hb:bytes b):(strOfNums a).toList=(strOfNums b).toList↔a=b:=by
  refine ⟨fun h=>?_,fun h=>by rw [h]⟩
  rw [Go.Lib.strOfNums_toList,Go.Lib.strOfNums_toList] at h
  unfold Go.Lib.bytesOf at h
  have key:∀ (x y:List Int),bytes x→bytes y→x.map (fun n=>UInt8.ofNat n.toNat)=y.map (fun n=>UInt8.ofNat n.toNat)→x=y:=by
    intro x
    induction x with
    | nil=>intro y _ _ h;cases y with
      | nil=>rfl
      | cons _ _=>simp at h
    | cons u x ih =>
      intro y hx hy h
      cases y with
      | nil=>simp at h
      | cons v y =>
        rw [List.map_cons,List.map_cons] at h
        injection h with h1 h2
        have hu:=hx u List.mem_cons_self
        have hv:=hy v List.mem_cons_self
        have:u.toNat=v.toNat:=by
          have:=congrArg UInt8.toNat h1
          simpa [UInt8.toNat_ofNat',Nat.mod_eq_of_lt (show u.toNat < 256 by omega),Nat.mod_eq_of_lt (show v.toNat < 256 by omega)] using this
        rw [ih y (fun z hz=>hx z (List.mem_cons_of_mem _ hz)) (fun z hz=>hy z (List.mem_cons_of_mem _ hz)) h2,show u=v by omega]
  exact key a b ha hb h
end Go.Proofs.YthjacokachgmfaaGreatDoor.Pure
namespace Go.Proofs.YthjacokachgmfaaGreatDoor.Pure
open Go.RowKit YthjacokachgmfaaGreatDoorW.PrintWords YthjacokachgmfaaGreatDoorW.PrintLast YthjacokachgmfaaGreatDoor.H YthjacokachgmfaaGreatDoor.F
theorem is_eq (r:Int):clavierref02_Is.f r=some (decide (isR r)):=by
  unfold clavierref02_Is.f isR
  by_cases h1:r≥0
  · by_cases h2:r≤1114111
    · by_cases h3:r < 55296
      · rw [if_pos h1,if_pos h2,if_pos h3];exact congrArg some (decide_eq_true (by omega)).symm
      · rw [if_pos h1,if_pos h2,if_neg h3];exact congrArg some (decide_eq_decide.mpr (by omega))
    · rw [if_pos h1,if_neg h2];exact congrArg some (decide_eq_false (by omega)).symm
  · rw [if_neg h1];exact congrArg some (decide_eq_false (by omega)).symm
theorem refput_eq (r:Int):clavierref02_Put.f r=some (putP r):=by
  unfold clavierref02_Put.f
  rw [is_eq,Option.bind_some]
  by_cases h:isR r
  · rw [if_pos (decide_eq_true h)]
    have hh:=h
    unfold isR at hh
    have w {n:Int} (h0:-9223372036854775808≤n) (h1:n≤9223372036854775807):wrap64 n=n:=wr h0 h1
    have t1:Int.tdiv r 64=r / 64:=Int.tdiv_eq_ediv_of_nonneg hh.1
    have t2:Int.tdiv r 4096=r / 4096:=Int.tdiv_eq_ediv_of_nonneg hh.1
    have t3:Int.tdiv r 262144=r / 262144:=Int.tdiv_eq_ediv_of_nonneg hh.1
    have t4:Int.tmod r 64=r % 64:=Int.tmod_eq_emod_of_nonneg hh.1
    have t5:Int.tmod (r / 64) 64=r / 64 % 64:=Int.tmod_eq_emod_of_nonneg (by omega)
    have t6:Int.tmod (r / 4096) 64=r / 4096 % 64:=Int.tmod_eq_emod_of_nonneg (by omega)
    have w1:wrap64 (r / 64)=r / 64:=w (by omega) (by omega)
    have w2:wrap64 (r / 4096)=r / 4096:=w (by omega) (by omega)
    have w3:wrap64 (r / 262144)=r / 262144:=w (by omega) (by omega)
    have m1:r % 64 < 64∧0≤r % 64:=by omega
    have m2:r / 64 % 64 < 64∧0≤r / 64 % 64:=by omega
    have m3:r / 4096 % 64 < 64∧0≤r / 4096 % 64:=by omega
    rw [t1,t2,t3,t4,w1,w2,w3,t5,t6,w (n:=192+r / 64) (by omega) (by omega),w (n:=128+r % 64) (by omega) (by omega),w (n:=224+r / 4096) (by omega) (by omega),w (n:=128+r / 64 % 64) (by omega) (by omega),w (n:=240+r / 262144) (by omega) (by omega),w (n:=128+r / 4096 % 64) (by omega) (by omega)]
    rcases four r h with h1 | ⟨h1,h2⟩ | ⟨h1,h2⟩ | h1
    · rw [put_1 h h1,if_pos (by omega),Int.emod_eq_of_lt (by omega) (by omega)]
    · rw [put_2 h h1 h2,if_neg (by omega),if_pos (by omega)]
      congr 2
      · omega
      · congr 1;omega
    · rw [put_3 h h1 h2,if_neg (by omega),if_neg (by omega),if_pos (by omega)]
      congr 2
      · omega
      · congr 1
        · omega
        · congr 1;omega
    · rw [put_4 h h1,if_neg (by omega),if_neg (by omega),if_neg (by omega)]
      congr 2
      · omega
      · congr 1
        · omega
        · congr 1
          · omega
          · congr 1;omega
  · rw [if_neg (by simp [h]),put_none h]
theorem guess_some (l:List Int) (n:Int) (h1:1≤n) (h2:n≤4) (h3:n≤l.length):∃ g,clavierref02_guess.f l n=some g:=by
  unfold clavierref02_guess.f
  repeat' split
  all_goals first | exact ⟨_,rfl⟩ | (exfalso;omega)
theorem guess_put {r:Int} (h:isR r) (m:List Int):clavierref02_guess.f (putP r++m) ((putP r).length:Int)=some r:=by
  have hh:=h
  unfold isR at hh
  unfold clavierref02_guess.f
  rcases four r h with h1 | ⟨h1,h2⟩ | ⟨h1,h2⟩ | h1
  · rw [put_1 h h1]
    rw [if_pos (by simp),if_pos (by simp<;>omega)]
    show some (wrap64 r)=_
    rw [wr (by omega) (by omega)]
  · rw [put_2 h h1 h2]
    rw [if_neg (by simp),if_pos (by simp),if_pos (by simp;omega),if_pos (by simp;omega)]
    show some (((192+r / 64 - 192) % 256) * 64+(128+r % 64 - 128) % 256)=_
    congr 1;omega
  · rw [put_3 h h1 h2]
    rw [if_neg (by simp),if_neg (by simp),if_pos (by simp),if_pos (by simp;omega),if_pos (by simp;omega),if_pos (by simp;omega)]
    show some ((((224+r / 64 / 64 - 224) % 256) * 4096+((128+r / 64 % 64 - 128) % 256) * 64)+(128+r % 64 - 128) % 256)=_
    congr 1;omega
  · rw [put_4 h h1]
    rw [if_neg (by simp),if_neg (by simp),if_neg (by simp),if_pos (by simp;omega),if_pos (by simp;omega),if_pos (by simp;omega),if_pos (by simp;omega)]
    show some (((((240+r / 64 / 64 / 64 - 240) % 256) * 262144+((128+r / 64 / 64 % 64 - 128) % 256) * 4096)+((128+r / 64 % 64 - 128) % 256) * 64)+(128+r % 64 - 128) % 256)=_
    congr 1;omega
theorem guess_take {l:List Int} {r n:Int} (h:takeC l=(r,n)) (hn:n≠0):clavierref02_guess.f l n=some r:=by
  obtain ⟨h1,h2,h3,h4,h5⟩:=take_some h hn
  have:=guess_put h4 (l.drop n.toNat)
  rw [show ((putP r).length:Int)=n by rw [h5,List.length_take];omega,h5,List.take_append_drop] at this
  exact this
theorem take_step {l:List Int} (hl:bytes l) (k:Nat) (n:Nat) (h1:1≤n) (h2:n≤4) (h3:n≤l.length) (hlt:(takeC l).2=0∨(n:Int)≤(takeC l).2)
    (hs:((takeC l).2=0∨(n:Int)+1≤(takeC l).2)→clavierref02_Take.l0 k l ((n:Int)+1)=some (takeC l)):clavierref02_Take.l0 (k+2) l n=some (takeC l):=by
  rw [clavierref02_Take.l0,if_pos (by omega),clavierref02_Take.j1,if_pos (decide_eq_true (by omega))]
  obtain ⟨g,hg⟩:=guess_some l n (by omega) (by omega) (by omega)
  rw [hg,Option.bind_some,refput_eq,Option.bind_some]
  have hno:¬ putP g=l.take n→clavierref02_Take.l0 k l (wrap64 ((n:Int)+1))=some (takeC l):=by
    intro hne
    rw [wr (by omega) (by omega)]
    refine hs ?_
    rcases hlt with h | h
    · exact .inl h
    · right
      by_cases e:(takeC l).2=(n:Int)
      · exfalso
        have hn:(takeC l).2≠0:=by omega
        have hgt:=guess_take (l:=l) (r:=(takeC l).1) (n:=(takeC l).2) rfl hn
        rw [e,hg] at hgt
        cases hgt
        have:=(take_some (l:=l) (r:=(takeC l).1) (n:=(takeC l).2) rfl hn).2.2.2.2
        rw [e] at this
        exact hne this
      · omega
  by_cases hlen:((putP g).length:Int)=n
  · rw [if_pos hlen,Option.bind_some,if_pos (by omega),if_pos (by omega)]
    rw [show (n:Int).toNat=n by omega]
    by_cases he:putP g=l.take n
    · rw [if_pos (by rw [he]),take_of hl h1 h3 he]
    · rw [if_neg (fun h=>he ((str_eq (put_bytes g) (bytes_take hl n)).mp h))]
      exact hno he
  · rw [if_neg hlen]
    exact hno (fun e=>hlen (by rw [e,List.length_take];omega))
theorem take_stop {l:List Int} (k:Nat) (n:Nat) (h:4 < n∨l.length < n) (hlt:(takeC l).2=0∨(n:Int)≤(takeC l).2):clavierref02_Take.l0 (k+2) l n=some (takeC l):=by
  have hz:(takeC l).2=0:=by
    rcases hlt with h0 | h0
    · exact h0
    · by_cases hn:(takeC l).2=0
      · exact hn
      · obtain ⟨a,b,c,-⟩:=take_some (l:=l) (r:=(takeC l).1) (n:=(takeC l).2) rfl hn
        omega
  have e:clavierref02_Take.j1 (k+1) l n false=some (takeC l):=by
    rw [clavierref02_Take.j1,if_neg (by decide),take_zero hz]
  rw [clavierref02_Take.l0]
  split
  · rw [show decide ((n:Int)≤(l.length:Int))=false from decide_eq_false (by omega)]
    exact e
  · exact e
theorem reftake_eq {l:List Int} (hl:bytes l) (k:Nat):clavierref02_Take.f (k+10) l=some (takeC l):=by
  have go:∀ (m:Nat) (n:Nat),1≤n→n+m=5→∀ k,((takeC l).2=0∨(n:Int)≤(takeC l).2)→clavierref02_Take.l0 (k+(2 * m+2)) l n=some (takeC l):=by
    intro m
    induction m with
    | zero=>intro n h1 h2 k hlt;exact take_stop k n (by omega) hlt
    | succ m ih =>
      intro n h1 h2 k hlt
      by_cases h3:n≤l.length
      · rw [show k+(2 * (m+1)+2)=(k+(2 * m+2))+2 by omega]
        exact take_step hl _ n h1 (by omega) h3 hlt (fun h=>ih (n+1) (by omega) (by omega) k h)
      · rw [show k+(2 * (m+1)+2)=(k+(2 * m+2))+2 by omega]
        exact take_stop _ n (by omega) hlt
  unfold clavierref02_Take.f
  refine go 4 1 (by omega) (by omega) k ?_
  rcases takeC_len l with h | h
  · exact .inl h
  · exact .inr h.1
theorem refall_loop {b:List Int} (hb:bytes b) (hlen:b.length < 2000000):∀ (m i:Nat) (out:List Int) (k:Nat),b.length - i≤m→i≤b.length→out.length≤i→m+11 < k →
    clavierref02_All.l0 k b out i=some (if (allC (b.drop i)).2=true then (out++(allC (b.drop i)).1,true) else ([],false)):=by
  intro m
  induction m with
  | zero =>
    intro i out k h1 h2 h3 h4
    obtain ⟨k,rfl⟩:∃ j,k=j+1:=⟨k - 1,by omega⟩
    rw [clavierref02_All.l0,if_neg (by omega),List.drop_eq_nil_of_le (by omega),all_nil,if_pos rfl,List.append_nil]
  | succ m ih =>
    intro i out k h1 h2 h3 h4
    obtain ⟨k,rfl⟩:∃ j,k=j+1:=⟨k - 1,by omega⟩
    by_cases hi:i < b.length
    · rw [clavierref02_All.l0,if_pos (by omega),if_pos (by omega),if_pos (by omega),show (i:Int).toNat=i by omega]
      obtain ⟨j,rfl⟩:∃ j,k=j+10:=⟨k - 10,by omega⟩
      rw [reftake_eq (bytes_drop hb i),Option.bind_some]
      have hne:b.drop i≠[]:=fun e=>by have:=congrArg List.length e;rw [List.length_drop,List.length_nil] at this;omega
      by_cases hz:(takeC (b.drop i)).2=0
      · rw [if_pos hz,all_bad hne hz,if_neg (by decide)]
      · obtain ⟨e1,e2,e3,-⟩:=take_some (l:=b.drop i) (r:=(takeC (b.drop i)).1) (n:=(takeC (b.drop i)).2) rfl hz
        rw [List.length_drop] at e3
        rw [if_neg hz,if_pos (by omega),wr (by omega) (by omega)]
        generalize hn:(takeC (b.drop i)).2=n at *
        rw [show (i:Int)+n=((i+n.toNat:Nat):Int) by omega,ih (i+n.toNat) _ _ (by omega) (by omega) (by rw [List.length_append,List.length_singleton];omega) (by omega)]
        rw [all_step (l:=b.drop i) (r:=(takeC (b.drop i)).1) (n:=n) (by rw [← hn]) hz,List.drop_drop]
        by_cases hd:(allC (b.drop (i+n.toNat))).2=true
        · rw [if_pos hd,if_pos hd,if_pos rfl,List.append_assoc];rfl
        · rw [if_neg hd,if_neg hd,if_neg (by decide)]
    · rw [clavierref02_All.l0,if_neg (by omega),List.drop_eq_nil_of_le (by omega),all_nil,if_pos rfl,List.append_nil]
theorem all_pair (b:List Int):(if (allC b).2=true then ((allC b).1,true) else (([]:List Int),false))=allC b:=by
  by_cases h:(allC b).2=true
  · rw [if_pos h,← h]
  · rw [if_neg h]
    unfold allC at h ⊢
    split at h
    · simp at h
    · rename_i k;rw [if_neg k]
theorem refall_eq {b:List Int} (hb:bytes b) (hlen:b.length < 2000000) (k:Nat) (hk:b.length+11 < k):clavierref02_All.f k b=some (allC b):=by
  have:=refall_loop hb hlen b.length 0 [] k (by omega) (by omega) (by simp) hk
  rw [List.drop_zero,List.nil_append,all_pair] at this
  exact this
end Go.Proofs.YthjacokachgmfaaGreatDoor.Pure
end
