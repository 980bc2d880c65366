import Derived.Test.YthjacokachgmfaaGreatDoorT04
import Derived.Test.YthjacokachgmfaaGreatDoorT17
import Derived.Test.YthjacokachgmfaaGreatDoorT19
import Derived.Test.YthjacokachgmfaaGreatDoorT23
set_option linter.unusedVariables false
set_option linter.unusedSimpArgs false
section
namespace Go.Proofs.YthjacokachgmfaaGreatDoor.H
open Go Go.RowKit Go.Shelf YthjacokachgmfaaGreatDoorW.PrintWords YthjacokachgmfaaGreatDoorW.PrintLast YthjacokachgmfaaGreatDoorW.PrintMore
open Ev SeqK
attribute [local go_sem] Oper.semAt_some
theorem textC {w:World} {base:Nat} {P:Nat→Prop} {A:Option Addr} {c:Nat} {l:List Int} (h:Kd.R (Kd.int .u8) 5 w base P (.slice A l.length c) l):(convert 22 9 (.slice A l.length c)).run Tryz.prog w=.ok (.string (strOfNums l)) w :=
  Kd.C_string Tryz.underlying22 Tryz.underlying5 Tryz.underlying9 (Kd.R_reads' h).2.2
theorem nilC (w:World):(convert 22 9 (.slice none 0 0)).run Tryz.prog w=.ok (.string ⟨#[]⟩) w :=
  Kd.C_string (xs:=[]) Tryz.underlying22 Tryz.underlying5 Tryz.underlying9 (Kd.C_nil _ w)
set_option maxRecDepth 100000 in
set_option maxHeartbeats 8000000 in
theorem tell_calls (w0 w:World) (p:Nat) (P PO:Nat→Prop) (nx:Value) (priv fin:Int) (inter:List UInt8) (text:List Int) (first:Bool) (oA:Option Addr) (oc:Nat) (outs:List S44) (hB:Below w0.heap.size w0 w)
    (h:Pa w w0.heap.size p P ⟨nx,1,priv,⟨inter.toArray⟩,fin,text,first,oA,outs.length,oc⟩) (hO:k44.R 44 w w0.heap.size PO (.slice oA outs.length oc) outs) (hpl:Plain 1 priv fin inter []) (ht:1≤text.length∧text.length≤1000) (hd:∀ c∈text,48≤c∧c≤57) (hol:outs.length≤1000) :
    Calls Tryz.prog 198 #[.pointer (some ⟨p,0,none⟩)] w fun e w'=>∃ A7 c7,e=.returned (.tuple #[])∧Pa w' w0.heap.size p (fun _=>False) ⟨.nilFunc,0,0,⟨#[]⟩,0,[],false,A7,outs.length+1,c7⟩∧k44.R 44 w' w0.heap.size (fun k=>PO k∨w.heap.size≤k) (.slice A7 (outs.length+1) c7) (outs++[⟨1,priv,[[min (takeV text) 65535]],⟨inter.toArray⟩,fin,⟨#[]⟩⟩])∧Below w0.heap.size w0 w'∧Kept w w' (fun k=>P k∨k=p∨PO k):=by
  obtain ⟨h0,tx,h1,h2⟩:=h
  obtain ⟨A2,c2,rfl⟩:=Kd.R_slice h2
  obtain ⟨inter,hin⟩:∃ I:ByteArray,I=⟨inter.toArray⟩:=⟨_,rfl⟩
  obtain ⟨on,hon⟩:∃ n,n=outs.length:=⟨_,rfl⟩
  obtain ⟨T,hT⟩:∃ T,T=strOfNums text:=⟨_,rfl⟩
  rw [← hin] at h1
  dsimp only [PS.cells] at h1
  rw [← hon] at h1 hO
  have HT:=Aside0.mk hT
  have HIN:=Aside0.mk hin
  have HON:=Aside0.mk hon
  have Bp:=Aside0.mk h1
  have HB:=Aside0.mk hB
  have HR:=Aside0.mk h2
  have HO:=Aside0.mk (Kd.R_mono (ok':=fun k=>PO k∧k < w.heap.size) (Kd.R_bound hO) (fun k hk=>⟨hk.1,hk.2.2.1⟩))
  have HK:Aside0 (Kept w w (fun k=>P k∨k=p∨PO k)):=⟨Kept.refl _ _⟩
  have HX:=Aside0.mk (And.intro hpl (And.intro ht hd))
  have kn:=nilC
  have HLN:=Aside0.mk hol
  have hne:T.toList.isEmpty=false:=by rw [hT];exact strNe ht.1
  have N59:Lib.indexByte T.data.toList 59 < 0:=by rw [hT];exact noIdx_str hd (by decide)
  have N58:Lib.indexByte T.data.toList 58 < 0:=by rw [hT];exact noIdx_str hd (by decide)
  have NT:numsS T=text:=by rw [hT];exact numsS_str (fun c hc=>by have:=hd c hc;omega)
  have NS:1≤T.size∧T.size≤1000:=by rw [hT,strOfNums_size];exact ht
  have NF:∀ c∈numsS T,48≤c∧c≤57:=by rw [NT];exact hd
  have HN:=Aside0.mk (And.intro N58 (And.intro NS (And.intro NF NT)))
  have NB:=Aside0.mk (show 0≤min (takeV text) 65535∧min (takeV text) 65535≤65535 by have:=takeV_bounds text hd;omega)
  clear N58 NT NS NF
  have H00:=Aside0.mk hB.size
  clear hB h2 h1 hO hpl ht hd hT hin hon
  have qp:=cells13 Bp.out
  refine (callsIn_wide (n:=6)).1 ?_
  refine callsIn_of_wp_marks Tryz.func198 rfl trivial ?_ rfl
  simp only [Tryz.ntmps198,List.size_toArray,List.length_cons,List.length_nil,Nat.reduceAdd,Nat.reduceSub,Array.replicate_succ,Array.replicate_zero,List.push_toArray,List.append_toArray,List.nil_append,List.cons_append]
  refine wpIn_wide.2 ?_
  go_wp2_with (first|(refine bx 2 #[.int .i64 0,.int .u8 0,.slice none 0 0,.string ⟨#[]⟩,.int .u8 0,.string ⟨#[]⟩] 44 (h:=?_);intro gs hg w1 hbox hb;have HBo:=HB;have HKo:=HK;replace Bp:=kb Bp hb;clear qp;have qp:=cells13 Bp.out;replace HB:=bh HB hb;have HR_:=Aside0.mk (Kd.R_below HR.out hb);have HO_:=Aside0.mk (Kd.R_below HO.out hb);have HK_:=Aside0.mk (Kept.below HK.out hb);clear HR HO HK;have HR:=HR_;have HO:=HO_;have HK:=HK_;clear HR_ HO_ HK_;have Bs:=Aside0.mk hbox;have qs:=cells6 Bs.out;have Gs:=gG HBo hg;have GKs:=Aside0.mk (show w.heap.size≤gs by rw [hg];exact HKo.out.1);clear HKo;clear hbox hb hg HBo)|((with_reducible refine gate_store (t:=44) rfl ?_);refine sx 44 0 Bs (h:=?_);intro w2 hS hg;replace Bp:=gnx Bp hg Bs;clear qp;have qp:=cells13 Bp.out;replace HB:=gb HB hg Gs;have HR_:=Aside0.mk (R_grownT HR.out Bs.out (by decide) hg);have HO_:=Aside0.mk (Kd.R_grown HO.out hg (fun k hk e=>by injection e with e;have:=GKs.out;omega));have HK_:=Aside0.mk (Kept.of_grown hg HK.out (fun k hk=>.inr (by injection hk with hk;have:=GKs.out;omega)));clear HR HO HK;have HR:=HR_;have HO:=HO_;have HK:=HK_;clear HR_ HO_ HK_;clear Bs qs hg;have Bs:=hS;clear hS;have qs:=cells6 Bs.out)|((with_reducible refine gate_store (t:=9) rfl ?_);refine sx 9 5 Bs (h:=?_);intro w3 hS hg;replace Bp:=gnx Bp hg Bs;clear qp;have qp:=cells13 Bp.out;replace HB:=gb HB hg Gs;have HR_:=Aside0.mk (R_grownT HR.out Bs.out (by decide) hg);have HO_:=Aside0.mk (Kd.R_grown HO.out hg (fun k hk e=>by injection e with e;have:=GKs.out;omega));have HK_:=Aside0.mk (Kept.of_grown hg HK.out (fun k hk=>.inr (by injection hk with hk;have:=GKs.out;omega)));clear HR HO HK;have HR:=HR_;have HO:=HO_;have HK:=HK_;clear HR_ HO_ HK_;clear Bs qs hg;have Bs:=hS;clear hS;have qs:=cells6 Bs.out;have hct:=textC HR.out;rw [← HT.out] at hct)|(go_at_call 110;refine (splitSeq_calls T 59 _).mono ?_;rintro e w4 ⟨g0,g1,g2,rfl,k0,k1,k2,n0,n1,n2,ne,hb⟩;have GK1:=Aside0.mk (Nat.le_trans HK.out.1 n1);replace Bp:=kb Bp hb;clear qp;have qp:=cells13 Bp.out;replace Bs:=kb Bs hb;clear qs;have qs:=cells6 Bs.out;replace HB:=bh HB hb;have HR_:=Aside0.mk (Kd.R_below HR.out hb);have HO_:=Aside0.mk (Kd.R_below HO.out hb);have HK_:=Aside0.mk (Kept.below HK.out hb);clear HR HO HK;have HR:=HR_;have HO:=HO_;have HK:=HK_;clear HR_ HO_ HK_;clear hb))
  have hlt1:=blk_lt k1
  have np:=blk_ne Bp.out k1 (by decide)
  have ns:=blk_ne Bs.out k1 (by decide)
  refine (wpIn_wide (n:=6)).1 ?_
  refine range_n (F:=Fence.wide) (n:=6) (w:=w4) (b:=g1) (n₀:=w.heap.size) hlt1 HK.out.1 rfl (by decide) (gf:=227) (lb:=#[.pointer (some ⟨g1,0,none⟩),.pointer (some ⟨g0,0,none⟩),.pointer (some ⟨g2,0,none⟩)]) rfl trivial (enters_of Tryz.func227 (by kernel_rfl) rfl) (encs:=fun x:ByteArray=>#[.string x]) (all:=[T])
    (fun W hW=>splitSeq_seq 5 (by decide) T 59 N59 g1 w.heap.size g0 g1 g2 W (blk_below k0 hW) (blk_below k1 hW) (blk_below k2 hW)) (fun _=>rfl)
    (TellS w0 w p gs g1 PO (fun k=>P k∨k=p∨PO k) #[nx,.int .i64 1,.int .u8 priv,.slice none 0 0,.string inter,.int .u8 fin,.string ⟨#[]⟩,.slice A2 text.length c2,.slice none 0 0,.bool first,.bool false,.bool false,.slice oA on oc] priv fin inter (.slice oA on oc) outs (min (takeV text) 65535)) (TellS_stb w0 w _ p gs g1 PO _ _ priv fin inter _ outs _ H00.out HK.out.1 GK1.out np ns) ⟨Bp.out,Bs.out,⟨_,k1⟩,HO.out,HB.out,HK.out⟩
    (fun x=>{ tmps:=#[.pointer (some ⟨p,0,none⟩),undef,.pointer (some ⟨gs,0,none⟩),.string T,.string x,.pointer (some ⟨p,0,none⟩),.pointer (some ⟨p,0,none⟩),.pointer (some ⟨p,1,none⟩),.agg #[.int .i64 1,.int .u8 priv,.slice none 0 0,.string inter,.int .u8 fin,.string ⟨#[]⟩],.pointer (some ⟨p,0,none⟩),.pointer (some ⟨p,0,none⟩),.pointer (some ⟨p,8,none⟩),.slice none 0 0,.string ⟨#[]⟩,.pointer (some ⟨gs,5,none⟩),.pointer (some ⟨p,0,none⟩),.pointer (some ⟨p,0,none⟩),.pointer (some ⟨p,7,none⟩),.slice A2 text.length c2,.string T,.string T,.bool true,.string T,.func (.func 227) #[] #[.pointer (some ⟨g1,0,none⟩),.pointer (some ⟨g0,0,none⟩),.pointer (some ⟨g2,0,none⟩)],.string x,undef,undef,undef,undef,undef,undef,undef,undef,undef,undef,undef,undef,undef,undef,undef,undef,undef,undef,undef,undef,undef,undef,undef,undef,undef,undef,undef,undef,undef],defers:=[] }) ?assign ?body ?done
  case assign =>
    intro l x W K hK
    gi_wp2
    exact hK
  case body =>
    intro l k x W hS hk
    cases k with
    | succ k=>simp at hk
    | zero =>
      obtain rfl:T=x:=by simpa using hk
      obtain ⟨hp',hs',⟨u1,hu1⟩,hO',hB',hK'⟩:=hS
      obtain ⟨y0,y1,y2,y3,y4,y5⟩:=cells6 hs'
      have hdep:1≤6 - 1 - 1:=by decide
      have hmix:Tryz.prog.follows .mixedOrders=true:=by kernel_rfl
      have hlts:=blk_lt hs'
      gi_wp2
      gi_region_with_o (first|(refine ⟨trivial,?_⟩;gi_at_call 242;refine (CallsIn.inRound l (callsIn_wide.2 (parts_calls T HN.out.1 HN.out.2.1 HN.out.2.2.1 _))).mono ?_;rintro e w5 ⟨v5,rfl,hr5,hb5⟩;obtain ⟨A5,c5,rfl⟩:=Kd.R_slice hr5;have hs5:=blk_below (blk_drew hs') hb5;obtain ⟨z0,z1,z2,z3,z4,z5⟩:=cells6 hs5;have f2:=blk_frozen hs5 2;have hlt5:=blk_lt hs5))
      all_goals (exact tell_one ⟨hp',hs',⟨u1,hu1⟩,hO',hB',hK'⟩ (below_step (below_drew1 (Below.refl _ _)) hb5) (by rw [HN.out.2.2.2] at hr5;exact hr5) GKs.out H00.out (cap1 _ _).1 (cap1 _ _).2 (fun _=>trivial))
  case done =>
    intro D W hD hS hDW
    obtain ⟨A,c,hp',hs',hk',hO',hB',hK'⟩:=hS
    have GKD:=Aside0.mk (Nat.le_trans HK.out.1 hD)
    have hdf:∀ (W2:World),Below W.heap.size W W2→W2.heap[D]?=some (.deferred (some [])):=fun W2 h=>(h.block D (blk_lt hDW)).trans hDW
    have HDW:=Aside0.mk hDW
    clear hDW hdf
    have HKL:=Aside0.mk hk'
    clear Bp Bs HO HB HK HR qp qs
    have Bp:=Aside0.mk hp'
    have Bs:=Aside0.mk hs'
    have HO:=Aside0.mk hO'
    have HB:=Aside0.mk hB'
    have HK:=Aside0.mk hK'
    clear hp' hs' hO' hB' hK' hk'
    have qp:=cells13 Bp.out
    have qs:=cells6 Bs.out
    go_wp2_with (first|(go_at_call 62;refine (may_one priv fin (min (takeV text) 65535) _ inter HIN.out A c _ HX.out.1 NB.out (Kd.R_reads' HKL.out).2.2).mono ?_;rintro e w6 ⟨rfl,hb⟩;replace Bp:=kb Bp hb;clear qp;have qp:=cells13 Bp.out;replace Bs:=kb Bs hb;clear qs;have qs:=cells6 Bs.out;replace HB:=bh HB hb;have HO_:=Aside0.mk (Kd.R_below HO.out hb);have HL_:=Aside0.mk (Kd.R_below HKL.out hb);have HD_:=Aside0.mk ((hb.block D (Array.getElem?_eq_some_iff.1 HDW.out).1).trans HDW.out);have HK_:=Aside0.mk (Kept.below HK.out hb);clear HO HKL HDW HK;have HO:=HO_;have HKL:=HL_;have HDW:=HD_;have HK:=HK_;clear HO_ HL_ HD_ HK_;clear hb))
    have fp12:=blk_frozen Bp.out 12
    have hltp:=blk_lt Bp.out
    have hlts:=blk_lt Bs.out
    refine wp_region_noPanic ?_
    refine st 11 (fun w'=>w'.cell? ⟨p,12,none⟩=some (.slice oA on oc)∧w'.cell? ⟨gs,0,none⟩=some (.int .i64 1)∧w'.cell? ⟨gs,1,none⟩=some (.int .u8 priv)∧w'.cell? ⟨gs,2,none⟩=some (.slice A 1 c)∧w'.cell? ⟨gs,3,none⟩=some (.string inter)∧w'.cell? ⟨gs,4,none⟩=some (.int .u8 fin)∧w'.cell? ⟨gs,5,none⟩=some (.string ⟨#[]⟩)) [7,10] (hS:=⟨qp.2.2.2.2.2.2.2.2.2.2.2.2,qs.1,qs.2.1,qs.2.2.1,qs.2.2.2.1,qs.2.2.2.2.1,qs.2.2.2.2.2⟩) (h:=fun hHeld=>?_)
    refine pu 0 (h:=?_)
    refine pu 1 (h:=?_)
    refine pu 2 (h:=?_)
    refine pu 3 (h:=?_)
    refine tk 4 hHeld (h:=?_)
    refine tk 5 hHeld (h:=?_)
    refine oS 6 (h:=fun K hK=>?_)
    refine value_ (w1:=?_) (v:=?_) (by rfl) rfl ?_ ?_
    rotate_left 2
    · go_simp
      constructor
      · rfl
      · rfl
    refine hK.out _ _ ⟨(by first | exact (blk_cell (blk_alloc Bp.out _) 12).trans rfl | exact (blk_cell (blk_drew (blk_alloc Bp.out _)) 12).trans rfl),(by first | exact (blk_cell (blk_alloc Bs.out _) 0).trans rfl | exact (blk_cell (blk_drew (blk_alloc Bs.out _)) 0).trans rfl),(by first | exact (blk_cell (blk_alloc Bs.out _) 1).trans rfl | exact (blk_cell (blk_drew (blk_alloc Bs.out _)) 1).trans rfl),(by first | exact (blk_cell (blk_alloc Bs.out _) 2).trans rfl | exact (blk_cell (blk_drew (blk_alloc Bs.out _)) 2).trans rfl),(by first | exact (blk_cell (blk_alloc Bs.out _) 3).trans rfl | exact (blk_cell (blk_drew (blk_alloc Bs.out _)) 3).trans rfl),(by first | exact (blk_cell (blk_alloc Bs.out _) 4).trans rfl | exact (blk_cell (blk_drew (blk_alloc Bs.out _)) 4).trans rfl),(by first | exact (blk_cell (blk_alloc Bs.out _) 5).trans rfl | exact (blk_cell (blk_drew (blk_alloc Bs.out _)) 5).trans rfl)⟩ (fun hHeld=>?_)
    clear hK K
    refine nm 48 (h:=?_)
    refine lS 7 (h:=fun K hK=>?_)
    refine append_seq (by rfl) (.tmp 46) (.tmp 48) (by rfl) (by rfl) (by rfl) (k44_mkM _ _ _ ⟨1,priv,[[min (takeV text) 65535]],inter,fin,⟨#[]⟩⟩ HKL.out) (fun k hk=>hk.1) HO.out HB.out HK.out.1 HLN.out ?_
    intro v7 w7 ho hb hg
    obtain ⟨A7,c7,rfl⟩:=Kd.R_slice ho
    have Bp7:=Aside0.mk (blk_grown Bp.out hg (Kd.R_ne HO.out Bp.out (by decide)))
    have HB7:=Aside0.mk hb
    have HO7:=Aside0.mk ho
    have HK7:=Aside0.mk (Kept.of_grown hg HK.out (fun k hk=>.inl (.inr (.inr (HO.out.1 k hk).1))))
    have HD7:=Aside0.mk ((hg.block D (Array.getElem?_eq_some_iff.1 HDW.out).1 (fun e=>by obtain ⟨_,_,_,q,_,cs,hcs⟩:=(Kd.R_bound HO.out).1 D e.symm;rw [HDW.out] at hcs;cases hcs)).trans HDW.out)
    have fp7:=blk_frozen Bp7.out 12
    have qp7:=(cells13 Bp7.out).2.2.2.2.2.2.2.2.2.2.2.2
    clear ho hb hg
    refine hK.out _ _ ?_
    clear hK K
    refine nm 49 (h:=?_)
    refine pu 8 (h:=?_)
    refine pu 9 (h:=?_)
    refine lN 10 (h:=fun K hK=>?_)
    refine skip_ (w1:=?_) (by rfl) rfl ?_ ?_
    rotate_left
    · go_simp
      rfl
    refine hK.out _ _ ?_
    clear hK K
    refine done_ (by kernel_rfl) ?_
    refine NoPanic.normal ?_
    have BpX:=Aside0.mk (blk_put Bp7.out 12 (.slice A7 (outs.length+1) c7) rfl)
    have HBX:=Aside0.mk (below_set (g:=p) (j:=12) (v:=.slice A7 (outs.length+1) c7) HB7.out h0)
    have HOX:=Aside0.mk (Kd.R_set HO7.out Bp7.out (by decide) 12 (.slice A7 (outs.length+1) c7))
    have HKX:=Aside0.mk (Kept.setCell (p:=⟨p,12,none⟩) HK7.out (.inl (.inr (.inl rfl))) (.slice A7 (outs.length+1) c7))
    have HDX:=Aside0.mk ((Below.heap_setCell w7 ⟨p,12,none⟩ (.slice A7 (outs.length+1) c7) D (fun e=>by have e2:D=p:=e;have h1:=Bp7.out;rw [← e2,HD7.out] at h1;cases h1)).trans HD7.out)
    clear Bp7 HB7 HO7 HK7 HD7 fp7 qp7
    generalize w7.setCell ⟨p,12,none⟩ (.slice A7 (outs.length+1) c7)=w8 at *
    simp only [List.length_append,List.length_cons,List.length_nil,Nat.zero_add] at HOX
    go_wp2_with (first|(go_at_call 146;refine (drop_raw w0 _ p _ _ _ _ _ _ _ _ _ _ _ _ _ _ _ HBX.out h0 BpX.out).mono ?_;rintro e w9 ⟨rfl,hp9,hb9,hk9⟩))
    have HO9:=Kd.R_mono (Kd.R_kept (Kd.R_types HOX.out BpX.out (by decide)) hk9 (fun k hk e=>hk.2 e)) (fun _ h=>h.1)
    have hD9:=(hk9.2 D (Array.getElem?_eq_some_iff.1 HDX.out).1 (fun e=>by have h1:=BpX.out;rw [← e,HDX.out] at h1;cases h1)).trans HDX.out
    have HK9:=Kept.then_ HKX.out hk9 (fun k e=>.inl (.inr (.inl e)))
    refine ⟨by simp,.inl ⟨_,_,rfl,run_takeDeferred hD9,?_⟩⟩
    exact ⟨_,results_none rfl _ _ _,A7,c7,rfl,⟨h0,_,blk_putD hp9 hD9,Kd.R_nil _ _ _ _ _⟩,by rw [← HIN.out];exact R_putD HO9 hD9,below_putD hb9 (Nat.le_trans H00.out GKD.out),kept_putD HK9 GKD.out⟩
end Go.Proofs.YthjacokachgmfaaGreatDoor.H
end
section
namespace Go.Proofs.YthjacokachgmfaaGreatDoor.H
open Go Go.RowKit YthjacokachgmfaaGreatDoorW.PrintWords YthjacokachgmfaaGreatDoorW.PrintLast YthjacokachgmfaaGreatDoorW.PrintMore
open SeqK
set_option maxRecDepth 100000
set_option maxHeartbeats 8000000 in
theorem head_final (w0 w:World) (p:Nat) (P PO:Nat→Prop) (c:Int) (nx:Value) (priv fin:Int) (inter:List UInt8) (text:List Int) (first:Bool) (oA:Option Addr) (oc:Nat) (outs:List S44) (hB:Below w0.heap.size w0 w)
    (h:Pa w w0.heap.size p P ⟨nx,1,priv,⟨inter.toArray⟩,fin,text,first,oA,outs.length,oc⟩) (hO:k44.R 44 w w0.heap.size PO (.slice oA outs.length oc) outs) (hc:64≤c∧c≤126) (hpl:Plain 1 priv c inter []) (ht:1≤text.length∧text.length≤1000) (hd:∀ c∈text,48≤c∧c≤57) (hol:outs.length≤1000) :
    Calls Tryz.prog 243 #[.pointer (some ⟨p,0,none⟩),.int .u8 c] w fun e w'=>∃ A7 c7,e=.returned .nilFunc∧Pa w' w0.heap.size p (fun _=>False) ⟨.nilFunc,0,0,⟨#[]⟩,0,[],false,A7,outs.length+1,c7⟩∧k44.R 44 w' w0.heap.size (fun k=>PO k∨w.heap.size≤k) (.slice A7 (outs.length+1) c7) (outs++[⟨1,priv,[[min (takeV text) 65535]],⟨inter.toArray⟩,c,⟨#[]⟩⟩])∧Below w0.heap.size w0 w'∧Kept w w' (fun k=>P k∨k=p∨PO k):=by
  obtain ⟨h0,tx,h1,h2⟩:=h
  obtain ⟨A2,c2,rfl⟩:=Kd.R_slice h2
  dsimp only [PS.cells] at h1
  obtain ⟨q0,q1,q2,q3,q4,q5,q6,q7,q8,q9,q10,q11,q12⟩:=cells13 h1
  have H1:=Aside0.mk h1
  have HB:=Aside0.mk hB
  have HR:=Aside0.mk h2
  have HO:=Aside0.mk hO
  have HX:=Aside0.mk (And.intro hpl (And.intro ht (And.intro hd hol)))
  have HK:Aside0 (Kept w w (fun k=>P k∨k=p)):=⟨Kept.refl _ _⟩
  clear hB h2 h1 hO hpl ht hd hol
  obtain ⟨hc1,hc2⟩:=hc
  have e127:(c == 127)=false:=beq_eq_false_iff_ne.2 (by omega)
  go_enter Tryz.func243,Tryz.ntmps243
  go_wp2_with (first|((with_reducible refine gate_store (t:=5) rfl ?_);refine store_event rfl rfl 5 _ _ rfl p 5 117 _ H1.out rfl _ rfl [.int .u8 c] rfl (by kernel_rfl) (by show 5+1≤13;decide) (by simp [Value.oneCell']) #[nx,.int .i64 1,.int .u8 priv,.slice none 0 0,.string ⟨inter.toArray⟩,.int .u8 c,.string ⟨#[]⟩,.slice A2 text.length c2,.slice none 0 0,.bool first,.bool false,.bool false,.slice oA outs.length oc] rfl ?_;intro w1 hS hg;have H1_:=Aside0.mk hS;have HR_:=Aside0.mk (R_grownT HR.out H1.out (by decide) hg);have HB_:=Aside0.mk (HB.out.grown hg (below_size HB.out) (fun k hk=>by injection hk with hk;rw [← hk];exact h0));have HK_:=Aside0.mk (Kept.of_grown hg HK.out (fun k hk=>.inl (.inr (by injection hk with hk;exact hk.symm))));replace HO:=Aside0.mk (R_grownT HO.out H1.out (by decide) hg);clear H1 HR HB HK hS hg;have H1:=H1_;have HR:=HR_;have HB:=HB_;have HK:=HK_;clear H1_ HR_ HB_ HK_;obtain ⟨q0,q1,q2,q3,q4,q5,q6,q7,q8,q9,q10,q11,q12⟩:=cells13 H1.out)|(go_at_call 198;refine (tell_calls w0 _ p P PO nx priv c inter text first oA oc outs HB.out ⟨h0,_,H1.out,HR.out⟩ HO.out HX.out.1 HX.out.2.1 HX.out.2.2.1 HX.out.2.2.2).mono ?_;rintro e w2 ⟨A7,c7,rfl,hP,hO2,hb,hk⟩;have HP:=Aside0.mk hP;have HO2:=Aside0.mk hO2;have HB2:=Aside0.mk hb;have HK2:=Aside0.mk hk;clear hP hO2 hb hk))
  go_ret
  exact ⟨A7,c7,rfl,HP.out,Kd.R_mono HO2.out (fun k hk=>hk.elim .inl (fun h=>.inr (Nat.le_trans HK.out.1 h))),HB2.out,Kept.then_ (Kept.mono HK.out (fun k hk=>hk.elim .inl (fun h=>.inr (.inl h)))) HK2.out (fun k hk=>.inl hk)⟩
end Go.Proofs.YthjacokachgmfaaGreatDoor.H
end
section
namespace Go.Proofs.YthjacokachgmfaaGreatDoor.H
open Go Go.RowKit YthjacokachgmfaaGreatDoorW.PrintWords YthjacokachgmfaaGreatDoorW.PrintLast YthjacokachgmfaaGreatDoorW.PrintMore
open SeqK
structure PSt where
  mode:Nat
  kind:Int
  priv:Int
  inter:List UInt8
  text:List Int
  first:Bool
  outs:List S44
def modeV:Nat→Value
  | 0=>.nilFunc
  | 1=>.func (.func 148) #[] #[]
  | _+2=>.func (.func 243) #[] #[]
def figs (l:List Int):Bool:=l.all fun c=>decide (48≤c)&&decide (c≤57)
def okSeq (priv c:Int) (inter:List UInt8):Bool:=(decide (priv=0)||(decide (60≤priv)&&decide (priv≤63)))&&(decide (inter.length≤2)&&inter.all fun c=>decide (32≤c.toNat)&&decide (c.toNat≤47))
def stepF (s:PSt) (c:Int):Option PSt :=
  if c=27 then some ⟨1,0,0,[],[],false,s.outs⟩
  else if s.mode=1 then
    if c=91∧s.inter=[] then some { s with mode:=2,kind:=1,first:=true } else none
  else if s.mode=2 then
    if 48≤c∧c≤57 then if s.inter=[]∧s.text.length < 1000 then some { s with text:=s.text++[c],first:=false } else none
    else if 60≤c∧c≤63 then if s.first=true then some { s with priv:=c,first:=false } else none
    else if c=36 then if s.inter=[] then some { s with inter:=[36],first:=false } else none
    else if 64≤c∧c≤126 then
      if s.kind=1∧1≤s.text.length∧s.text.length≤1000∧figs s.text=true∧s.outs.length≤1000∧okSeq s.priv c s.inter=true then
        some ⟨0,0,0,[],[],false,s.outs++[⟨1,s.priv,[[min (takeV s.text) 65535]],⟨s.inter.toArray⟩,c,⟨#[]⟩⟩]⟩
      else none
    else none
  else none
def PaO (w:World) (base p:Nat) (PX:Nat→Prop) (nx:Value) (s:PSt):Prop :=
  ∃ (P PO:Nat→Prop) (oA:Option Addr) (oc:Nat) (fin:Int),Pa w base p P ⟨nx,s.kind,s.priv,⟨s.inter.toArray⟩,fin,s.text,s.first,oA,s.outs.length,oc⟩∧k44.R 44 w base PO (.slice oA s.outs.length oc) s.outs∧(∀ k,P k→PX k)∧(∀ k,PO k→PX k)
theorem PaO.typed {w:World} {base p:Nat} {PX:Nat→Prop} {nx:Value} {s:PSt} (h:PaO w base p PX nx s) :
    ∃ (P PO:Nat→Prop) (oA:Option Addr) (oc:Nat) (fin:Int),Pa w base p P ⟨nx,s.kind,s.priv,⟨s.inter.toArray⟩,fin,s.text,s.first,oA,s.outs.length,oc⟩∧k44.R 44 w base PO (.slice oA s.outs.length oc) s.outs∧(∀ k,P k→PX k)∧(∀ k,PO k→PX k)∧∀ k,PO k→¬ (P k∨k=p):=by
  obtain ⟨P,PO,oA,oc,fin,⟨h0,tx,h1,h2⟩,hO,hP,hPO⟩:=h
  refine ⟨fun k=>P k∧∃ cells,w.heap[k]?=some (.cells cells 5 (0,0)),fun k=>PO k∧∃ t cells,t≠5∧t≠117∧w.heap[k]?=some (.cells cells t (0,0)),oA,oc,fin,⟨h0,tx,h1,Kd.R_mono (Kd.R_bound h2) (fun k hk=>⟨hk.1,?_⟩)⟩,Kd.R_mono (Kd.R_bound hO) (fun k hk=>⟨hk.1,?_⟩),fun k hk=>hP k hk.1,fun k hk=>hPO k hk.1,?_⟩
  · obtain ⟨_,_,_,q,hq,cells,hc⟩:=hk
    have hq':q=5:=by
      have h:q∈[5]:=hq
      simpa using h
    exact ⟨cells,hq' ▸ hc⟩
  · obtain ⟨_,_,_,q,hq,cells,hc⟩:=hk
    have hq':q∈[44,66,3]:=hq
    refine ⟨q,cells,?_,?_,hc⟩
    · intro e
      subst e
      exact absurd hq' (by decide)
    · intro e
      subst e
      exact absurd hq' (by decide)
  · rintro k ⟨_,t,cells,n1,n2,hc⟩ (⟨_,cells',hc'⟩ | rfl)
    · rw [hc] at hc'
      injection hc' with hc'
      injection hc' with _ e
      exact n1 e
    · rw [hc] at h1
      injection h1 with h1
      injection h1 with _ e
      exact n2 e
theorem plain_of {priv c:Int} {inter:List UInt8} (h:okSeq priv c inter=true) (hc:64≤c∧c≤126):Plain 1 priv c inter []:=by
  unfold okSeq at h
  simp only [Bool.and_eq_true,Bool.or_eq_true,decide_eq_true_eq,List.all_eq_true] at h
  exact ⟨.inl ⟨rfl,rfl⟩,h.1,hc,h.2,by simp⟩
theorem figs_of {l:List Int} (h:figs l=true):∀ c∈l,48≤c∧c≤57:=by
  unfold figs at h
  simp only [List.all_eq_true,Bool.and_eq_true,decide_eq_true_eq] at h
  exact h
theorem one_step (w0 w:World) (p:Nat) (PX:Nat→Prop) (s t:PSt) (c:Int) (hB:Below w0.heap.size w0 w) (h:PaO w w0.heap.size p PX (modeV s.mode) s) (hs:stepF s c=some t) :
    Calls Tryz.prog 108 #[.pointer (some ⟨p,0,none⟩),.int .u8 c] w fun e w'=>e=.returned (modeV t.mode)∧(∃ nx,PaO w' w0.heap.size p (fun k=>PX k∨w.heap.size≤k) nx t)∧Below w0.heap.size w0 w'∧Kept w w' (fun k=>PX k∨k=p):=by
  obtain ⟨P,PO,oA,oc,fin,hP,hO,hPX,hPOX,hap⟩:=h.typed
  have kmono:∀ {w':World},Kept w w' (fun k=>P k∨k=p)→Kept w w' (fun k=>PX k∨k=p):=fun hk=>hk.mono (fun k hk=>hk.imp (hPX k) id)
  obtain ⟨mode,kind,priv,inter,text,first,outs⟩:=s
  dsimp only at hP hO h
  have okept:∀ {w':World},Kept w w' (fun k=>P k∨k=p)→k44.R 44 w' w0.heap.size PO (.slice oA outs.length oc) outs:=fun hk=>Kd.R_kept hO hk hap
  unfold stepF at hs
  dsimp only at hs
  split at hs
  · rename_i hc
    subst hc
    obtain rfl:=Option.some.inj hs
    refine (one_escape w0 w p P _ hB hP).mono ?_
    rintro e w' ⟨rfl,hP',hb,hk⟩
    exact ⟨rfl,⟨_,P,PO,oA,oc,0,hP',okept hk,fun k hk=>.inl (hPX k hk),fun k hk=>.inl (hPOX k hk)⟩,hb,kmono hk⟩
  · rename_i hc27
    split at hs
    · rename_i hm
      subst hm
      split at hs
      · rename_i hc
        obtain ⟨rfl,rfl⟩:=hc
        obtain rfl:=Option.some.inj hs
        refine one_behind w0 w p P _ 91 _ hP rfl (by decide) ((behind_open w0 w p P _ hB hP rfl).mono ?_)
        rintro e w' ⟨rfl,hP',hb,hk⟩
        exact ⟨⟨_,rfl⟩,rfl,⟨_,P,PO,oA,oc,fin,hP',okept hk,fun k hk=>.inl (hPX k hk),fun k hk=>.inl (hPOX k hk)⟩,hb,kmono hk⟩
      · cases hs
    · rename_i hm1
      split at hs
      · rename_i hm
        subst hm
        split at hs
        · rename_i hc
          split at hs
          · rename_i hi
            obtain ⟨rfl,hl⟩:=hi
            obtain rfl:=Option.some.inj hs
            refine one_head w0 w p P _ c _ hP rfl (by omega) ((head_figure w0 w p P _ c hB hP rfl (by omega) hl).mono ?_)
            rintro e w' ⟨rfl,hP',hb,hk⟩
            exact ⟨⟨_,rfl⟩,rfl,⟨_,_,PO,oA,oc,fin,hP',okept hk,fun k hk=>hk.imp (hPX k) id,fun k hk=>.inl (hPOX k hk)⟩,hb,kmono hk⟩
          · cases hs
        · rename_i hcf
          split at hs
          · rename_i hc
            split at hs
            · rename_i hi
              subst hi
              obtain rfl:=Option.some.inj hs
              refine one_head w0 w p P _ c _ hP rfl (by omega) ((head_mark w0 w p P _ c hB hP rfl hc).mono ?_)
              rintro e w' ⟨rfl,hP',hb,hk⟩
              exact ⟨⟨_,rfl⟩,rfl,⟨_,P,PO,oA,oc,fin,hP',okept hk,fun k hk=>.inl (hPX k hk),fun k hk=>.inl (hPOX k hk)⟩,hb,kmono hk⟩
            · cases hs
          · rename_i hcm
            split at hs
            · rename_i hc
              subst hc
              split at hs
              · rename_i hi
                subst hi
                obtain rfl:=Option.some.inj hs
                refine one_head w0 w p P _ 36 _ hP rfl (by decide) ((head_dollar w0 w p P _ hB hP rfl).mono ?_)
                rintro e w' ⟨rfl,hP',hb,hk⟩
                exact ⟨⟨_,rfl⟩,rfl,⟨_,P,PO,oA,oc,fin,hP',okept hk,fun k hk=>.inl (hPX k hk),fun k hk=>.inl (hPOX k hk)⟩,hb,kmono hk⟩
              · cases hs
            · split at hs
              · rename_i hc
                split at hs
                · rename_i hi
                  obtain ⟨rfl,h1,h2,hf,hol,hok⟩:=hi
                  obtain rfl:=Option.some.inj hs
                  refine one_head w0 w p P _ c _ hP rfl (by omega) ((head_final w0 w p P PO c _ priv fin inter text first oA oc outs hB hP hO hc (plain_of hok hc) ⟨h1,h2⟩ (figs_of hf) hol).mono ?_)
                  rintro e w' ⟨A7,c7,rfl,hP',hO',hb,hk⟩
                  refine ⟨⟨_,rfl⟩,rfl,⟨_,fun _=>False,fun k=>PO k∨w.heap.size≤k,A7,c7,0,by dsimp only;rw [List.length_append];exact hP',by rw [List.length_append];exact hO',fun k hk=>hk.elim,fun k hk=>hk.imp (hPOX k) id⟩,hb,hk.mono (fun k hk=>?_)⟩
                  rcases hk with hk | hk | hk
                  · exact .inl (hPX k hk)
                  · exact .inr hk
                  · exact .inl (hPOX k hk)
                · cases hs
              · cases hs
      · cases hs
end Go.Proofs.YthjacokachgmfaaGreatDoor.H
end
section
namespace Go.Proofs.YthjacokachgmfaaGreatDoor.H
open Go Go.RowKit YthjacokachgmfaaGreatDoorW.PrintWords YthjacokachgmfaaGreatDoorW.PrintLast YthjacokachgmfaaGreatDoorW.PrintMore
open Ev SeqK
set_option maxRecDepth 100000
theorem modeV_cells (n:Nat):(modeV n).cells.toList=[modeV n]:=by
  match n with
  | 0=>rfl
  | 1=>rfl
  | n+2=>rfl
theorem modeV_one (n:Nat):(modeV n).oneCell'=true:=by
  match n with
  | 0=>rfl
  | 1=>rfl
  | n+2=>rfl
def runF:PSt→List Int→Option PSt
  | s,[]=>some s
  | s,c :: l=>(stepF s c).bind fun t=>runF t l
theorem runF_step {s t:PSt} {l:List Int} {k:Nat} {c:Int} (h:runF s (l.drop k)=some t) (hc:l[k]?=some c):∃ s2,stepF s c=some s2∧runF s2 (l.drop (k+1))=some t:=by
  obtain ⟨hk,rfl⟩:=List.getElem?_eq_some_iff.1 hc
  rw [List.drop_eq_getElem_cons hk,runF] at h
  cases hs:stepF s l[k] with
  | none=>rw [hs] at h;cases h
  | some s2=>rw [hs] at h;exact ⟨s2,rfl,h⟩
theorem PaO.mono {w:World} {base p:Nat} {PX PY:Nat→Prop} {nx:Value} {s:PSt} (h:PaO w base p PX nx s) (hp:∀ k,PX k→PY k):PaO w base p PY nx s:=by
  obtain ⟨P,PO,oA,oc,fin,h1,h2,h3,h4⟩:=h
  exact ⟨P,PO,oA,oc,fin,h1,h2,fun k hk=>hp k (h3 k hk),fun k hk=>hp k (h4 k hk)⟩
set_option maxHeartbeats 8000000 in
theorem feed_calls (w0 w:World) (p:Nat) (PX:Nat→Prop) (s t:PSt) (A:Option Addr) (c:Nat) (l:List Int) (hB:Below w0.heap.size w0 w) (h:PaO w w0.heap.size p PX (modeV s.mode) s)
    (hr:∀ W,Kept w W (fun k=>PX k∨k=p)→Kd.C (Kd.int .u8) W A l.length l) (hl:l.length≤100000) (ht:runF s l=some t) :
    Calls Tryz.prog 54 #[.pointer (some ⟨p,0,none⟩),.slice A l.length c] w fun e w'=>∃ oA oc PO,e=.returned (.slice oA t.outs.length oc)∧k44.R 44 w' w0.heap.size PO (.slice oA t.outs.length oc) t.outs∧(∀ k,PO k→PX k∨w.heap.size≤k)∧PaO w' w0.heap.size p (fun k=>PX k∨w.heap.size≤k) (modeV t.mode) { t with outs:=[] }∧Below w0.heap.size w0 w'∧Kept w w' (fun k=>PX k∨k=p):=by
  have HCR:=Aside0.mk hr
  have HL:=Aside0.mk hl
  have HT:=Aside0.mk ht
  have HP0:=Aside0.mk h
  have HB0:=Aside0.mk hB
  clear hr hl ht h hB
  go_enter Tryz.func54,Tryz.ntmps54
  go_wp2
  show Code.wp _ _ _ _ _
  go_loopg [13] (l.length+1) (fun kq v13 W=>∃ (k:Nat) (s1:PSt),v13=.int .i64 (k:Int)∧Aside0 (k≤l.length∧l.length - k < kq)∧Aside0 (runF s1 (l.drop k)=some t)∧Aside0 (PaO W w0.heap.size p (fun k=>PX k∨w.heap.size≤k) (modeV s1.mode) s1)∧Aside0 (Below w0.heap.size w0 W)∧Aside0 (Kept w W (fun k=>PX k∨k=p)))
  case atStart=>exact ⟨0,s,rfl,⟨by omega⟩,HT,⟨HP0.out.mono (fun k hk=>.inl hk)⟩,HB0,⟨Kept.refl _ _⟩⟩
  case round =>
    obtain ⟨k,s1,rfl,HK0,HF,HP,HB,HK⟩:=hrel
    cases gk with
    | zero=>exact absurd HK0.out (by omega)
    | succ k1 =>
      by_cases hk:k < l.length
      · obtain ⟨ad,n,eA,hn,hcell⟩:=at_U (HCR.out wr HK.out) (k:=k) hk
        subst eA
        obtain ⟨s2,hs2,hF2⟩:=runF_step HF.out hn
        have HONE:=Aside0.mk (one_step w0 wr p _ s1 s2 n HB.out HP.out hs2)
        have HF2:=Aside0.mk hF2
        have HKL:=Aside0.mk hk
        have c1:decide ((k:Int) < (l.length:Int))=true:=decide_eq_true (by omega)
        have p1:(0:Int)≤(k:Int):=by omega
        have p2:(k:Int) < (l.length:Int):=by omega
        have e4:wrap64 ((k:Int)+1)=((k+1:Nat):Int):=by have:=HL.out;rw [IntWalk.wrap64_in _ (by omega)];omega
        clear hn hs2 hF2 hk
        go_wp2_with (first|(go_at_call 108;refine HONE.out.mono ?_;rintro e w1 ⟨rfl,⟨nx,P,PO,oA,oc,fin,⟨h0,tx,h1,h2⟩,hO,a1,a2⟩,hb,hk2⟩;obtain ⟨A2,c2,rfl⟩:=Kd.R_slice h2;have HA:=Aside0.mk (And.intro a1 a2);have HK_:=Aside0.mk (Kept.then_ HK.out hk2 (fun k hk=>hk.elim (fun h=>h.elim (fun h=>.inl (.inl h)) .inr) (fun h=>.inl (.inr h))));have HSZ:=Aside0.mk HK.out.1;clear HK HB HP;have HK:=HK_;clear HK_;have HB:=Aside0.mk hb;dsimp only [PS.cells] at h1;have Bp:=Aside0.mk h1;have HR:=Aside0.mk h2;have HO:=Aside0.mk hO;clear hb hk2 h1 h2 hO a1 a2;have qp:=cells13 Bp.out)|((with_reducible refine gate_store (t:=114) rfl ?_);refine store_ev rfl rfl 114 _ _ rfl p 0 117 _ Bp.out rfl _ rfl [modeV s2.mode] (modeV_cells _) (by kernel_rfl) (by show 0+1≤13;decide) (by simp [modeV_one]) #[modeV s2.mode,.int .i64 s2.kind,.int .u8 s2.priv,.slice none 0 0,.string ⟨s2.inter.toArray⟩,.int .u8 fin,.string ⟨#[]⟩,.slice A2 s2.text.length c2,.slice none 0 0,.bool s2.first,.bool false,.bool false,.slice oA s2.outs.length oc] rfl ?_;intro w2 hS hg;replace HB:=Aside0.mk (HB.out.grown hg (below_size HB.out) (fun k hk=>by injection hk with hk;rw [← hk];exact h0));have HR_:=Aside0.mk (R_grownT HR.out Bp.out (by decide) hg);have HO_:=Aside0.mk (R_grownT HO.out Bp.out (by decide) hg);have HK_:=Aside0.mk (Kept.of_grown hg HK.out (fun k hk=>.inl (.inr (by injection hk with hk;exact hk.symm))));clear HR HO HK;have HR:=HR_;have HO:=HO_;have HK:=HK_;clear HR_ HO_ HK_;clear Bp qp hg;have Bp:=Aside0.mk hS;clear hS;have qp:=cells13 Bp.out))
        go_roundg k1
        case measure=>omega
        case rel=>exact ⟨k+1,s2,by rw [e4],⟨by have:=HK0.out;have:=HKL.out;omega⟩,HF2,⟨_,_,oA,oc,fin,⟨h0,_,Bp.out,HR.out⟩,HO.out,fun k hk=>(HA.out.1 k hk).elim id (fun h=>.inr (Nat.le_trans HSZ.out h)),fun k hk=>(HA.out.2 k hk).elim id (fun h=>.inr (Nat.le_trans HSZ.out h))⟩,HB,HK⟩
      · have hkl:k=l.length:=by have:=HK0.out;omega
        subst hkl
        have e0:=HF.out
        rw [List.drop_length,runF] at e0
        obtain rfl:s1=t:=Option.some.inj e0
        obtain ⟨P,PO,oA,oc,fin,⟨h0,tx,h1,h2⟩,hO,a1,a2⟩:=HP.out
        obtain ⟨A2,c2,rfl⟩:=Kd.R_slice h2
        obtain ⟨s2,hs⟩:∃ s2,s2=s1:=⟨_,rfl⟩
        subst hs
        dsimp only [PS.cells] at h1
        have Bp:=Aside0.mk h1
        have HR:=Aside0.mk h2
        have HO:=Aside0.mk hO
        clear h1 h2 hO HP HF HT e0
        have qp:=cells13 Bp.out
        go_wp2_with (first|((with_reducible refine gate_store (t:=115) rfl ?_);refine sx 115 12 Bp (h:=?_);intro w3 hS hg;replace HB:=Aside0.mk (HB.out.grown hg (below_size HB.out) (fun k hk=>by injection hk with hk;rw [← hk];exact h0));have HR_:=Aside0.mk (R_grownT HR.out Bp.out (by decide) hg);have HO_:=Aside0.mk (R_grownT HO.out Bp.out (by decide) hg);have HK_:=Aside0.mk (Kept.of_grown hg HK.out (fun k hk=>.inl (.inr (by injection hk with hk;exact hk.symm))));clear HR HO HK;have HR:=HR_;have HO:=HO_;have HK:=HK_;clear HR_ HO_ HK_;clear Bp qp hg;have Bp:=hS;clear hS;have qp:=cells13 Bp.out))
        go_ret
        exact ⟨oA,oc,rfl,PO,HO.out,a2,⟨P,fun _=>False,none,0,fin,⟨h0,_,Bp.out,HR.out⟩,Kd.R_nil _ _ _ _ _,a1,fun _ h=>h.elim⟩,HB.out,HK.out⟩
end Go.Proofs.YthjacokachgmfaaGreatDoor.H
end
