import Derived.Test.YthjacokachgmfaaGreatDoorProg
import Derived.Deep.MidRow
import Derived.Test.YthjacokachgmfaaGreatDoorT01
import Derived.Test.YthjacokachgmfaaGreatDoorT02
import Derived.Test.YthjacokachgmfaaGreatDoorT03
set_option linter.unusedVariables false
set_option linter.unusedSimpArgs false
section
namespace Go.Proofs.YthjacokachgmfaaGreatDoor.H
open Go Go.RowKit YthjacokachgmfaaGreatDoorW.PrintWords YthjacokachgmfaaGreatDoorW.PrintLast YthjacokachgmfaaGreatDoorW.PrintMore
section
variable {P:Program} {ops:Array Oper} {Q:Exit→Act→World→Prop} {md:Region.Mode} {S:World→Prop} {ds:List Nat} {oi oj:Oper} {v:Value} {fuel:Nat} {l l' l2:Array Bool} {a a':Act} {w:World}
theorem pu {N:Tmp} (i:Nat) (hx:(ops[i]?=some oi)∧(oi.dst=some N)∧(l.setIfInBounds i true=l')∧(anyB md ops l l' i=true)∧(Region.wanted oi (yielded ops a.tmps)=true)∧(∀ w',(execOp a.eval oi).run P w'=.ok (.value v) w')∧(∀ c a w,Q (.panic c) (a.put oi.dst v) w→Q (.panic c) a w)∧(a.put (some N) v=a'):=by (refine ⟨?_,?_,?_,?_,?_,?_,?_,?_⟩;exact rfl;exact rfl;((conv=>lhs;simp only [List.setIfInBounds_toArray,List.set_cons_zero,List.set_cons_succ])<;>rfl);kernel_rfl;exact rfl;(intro w';go_simp<;>with_reducible rfl);exact fun _ _ _ h=>h;((conv=>lhs;simp only [Act.put,List.setIfInBounds_toArray,List.set_cons_zero,List.set_cons_succ,i64_w,i32_w])<;>rfl)))
    (h:wpAnyLast P md ops Q S ds fuel l' a' w):wpAnyLast P md ops Q S ds (fuel+1) l a w :=
  pure_ l' hx.1 hx.2.1 hx.2.2.2.1 hx.2.2.2.2.2.2.1 (.inl ⟨hx.2.2.2.2.1,hx.2.2.2.2.2.1⟩) hx.2.2.2.2.2.2.2 h
theorem po {N:Tmp} (i:Nat) (hx:(ops[i]?=some oi)∧(oi.dst=some N)∧(l.setIfInBounds i true=l')∧(anyB md ops l l' i=true)∧(Region.wanted oi (yielded ops a.tmps)=false)∧(∀ c a w,Q (.panic c) (a.put oi.dst undef) w→Q (.panic c) a w)∧(a.put (some N) undef=a'):=by (refine ⟨?_,?_,?_,?_,?_,?_,?_⟩;exact rfl;exact rfl;((conv=>lhs;simp only [List.setIfInBounds_toArray,List.set_cons_zero,List.set_cons_succ])<;>rfl);kernel_rfl;exact rfl;exact fun _ _ _ h=>h;((conv=>lhs;simp only [Act.put,List.setIfInBounds_toArray,List.set_cons_zero,List.set_cons_succ,i64_w,i32_w])<;>rfl)))
    (h:wpAnyLast P md ops Q S ds fuel l' a' w):wpAnyLast P md ops Q S ds (fuel+1) l a w :=
  pure_ l' hx.1 hx.2.1 hx.2.2.2.1 hx.2.2.2.2.2.1 (.inr ⟨hx.2.2.2.2.1,rfl⟩) hx.2.2.2.2.2.2 h
theorem tk {N:Tmp} (i:Nat) (hS:S w) (hx:(ops[i]?=some oi)∧(oi.dst=some N)∧(l.setIfInBounds i true=l')∧(takeB md ops ds l l' i=true)∧(Region.wanted oi (yielded ops a.tmps)=true)∧(∀ w',S w'→(execOp a.eval oi).run P w'=.ok (.value v) w')∧(∀ c a w,Q (.panic c) (a.put oi.dst v) w→Q (.panic c) a w)∧(a.put (some N) v=a'):=by (refine ⟨?_,?_,?_,?_,?_,?_,?_,?_⟩;exact rfl;exact rfl;((conv=>lhs;simp only [List.setIfInBounds_toArray,List.set_cons_zero,List.set_cons_succ])<;>rfl);kernel_rfl;exact rfl;(intro w' s;(try dsimp only at s);go_simp<;>with_reducible rfl);exact fun _ _ _ h=>h;((conv=>lhs;simp only [Act.put,List.setIfInBounds_toArray,List.set_cons_zero,List.set_cons_succ,i64_w,i32_w])<;>rfl)))
    (h:wpAnyLast P md ops Q S ds fuel l' a' w):wpAnyLast P md ops Q S ds (fuel+1) l a w :=
  take_ l' hx.1 hx.2.1 hx.2.2.2.1 hx.2.2.2.2.2.2.1 (.inl ⟨hx.2.2.2.2.1,hx.2.2.2.2.2.1⟩) hS hx.2.2.2.2.2.2.2 h
theorem tl {N:Tmp} (i:Nat) (v:Value) (hS:S w) (hr:∀ oi,ops[i]?=some oi→∀ w',S w'→(execOp a.eval oi).run P w'=.ok (.value v) w')
    (hx:(ops[i]?=some oi)∧(oi.dst=some N)∧(l.setIfInBounds i true=l')∧(takeB md ops ds l l' i=true)∧(Region.wanted oi (yielded ops a.tmps)=true)∧(∀ c a w,Q (.panic c) (a.put oi.dst v) w→Q (.panic c) a w)∧(a.put (some N) v=a'):=by (refine ⟨?_,?_,?_,?_,?_,?_,?_⟩;exact rfl;exact rfl;((conv=>lhs;simp only [List.setIfInBounds_toArray,List.set_cons_zero,List.set_cons_succ])<;>rfl);kernel_rfl;exact rfl;exact fun _ _ _ h=>h;((conv=>lhs;simp only [Act.put,List.setIfInBounds_toArray,List.set_cons_zero,List.set_cons_succ,i64_w,i32_w])<;>rfl)))
    (h:wpAnyLast P md ops Q S ds fuel l' a' w):wpAnyLast P md ops Q S ds (fuel+1) l a w :=
  take_ l' hx.1 hx.2.1 hx.2.2.2.1 hx.2.2.2.2.2.1 (.inl ⟨hx.2.2.2.2.1,hr _ hx.1⟩) hS hx.2.2.2.2.2.2 h
theorem oS {N:Tmp} (i:Nat) (hx:(ops[i]?=some oi)∧(oi.dst=some N)∧(l.setIfInBounds i true=l')∧(readyB md ops l l' i=true)∧(i∉ds):=by (refine ⟨?_,?_,?_,?_,?_⟩;exact rfl;exact rfl;((conv=>lhs;simp only [List.setIfInBounds_toArray,List.set_cons_zero,List.set_cons_succ])<;>rfl);kernel_rfl;decide))
    (h:∀ K:Act→World→Prop,Shut (∀ a' w',S w'→(S w'→wpAnyLast P md ops Q S ds fuel l' a' w')→K a' w')→if Region.wanted oi (yielded ops a.tmps)=true then Oper.wp P oi a w K Q else K (a.put (some N) undef) w):wpAnyLast P md ops Q S ds (fuel+1) l a w :=
  one_ l' hx.1 hx.2.1 hx.2.2.2.1 hx.2.2.2.2 h
theorem oN (i:Nat) (hx:(ops[i]?=some oi)∧(oi.dst=none)∧(l.setIfInBounds i true=l')∧(readyB md ops l l' i=true)∧(i∉ds):=by (refine ⟨?_,?_,?_,?_,?_⟩;exact rfl;exact rfl;((conv=>lhs;simp only [List.setIfInBounds_toArray,List.set_cons_zero,List.set_cons_succ])<;>rfl);kernel_rfl;decide))
    (h:∀ K:Act→World→Prop,Shut (∀ a' w',S w'→(S w'→wpAnyLast P md ops Q S ds fuel l' a' w')→K a' w')→if Region.wanted oi (yielded ops a.tmps)=true then Oper.wp P oi a w K Q else K (a.put none undef) w):wpAnyLast P md ops Q S ds (fuel+1) l a w :=
  one_ l' hx.1 hx.2.1 hx.2.2.2.1 hx.2.2.2.2 h
theorem lS {N:Tmp} (i:Nat) (hx:(ops[i]?=some oi)∧(oi.dst=some N)∧(l.setIfInBounds i true=l')∧(readyB md ops l l' i=true)∧(i∈ds):=by (refine ⟨?_,?_,?_,?_,?_⟩;exact rfl;exact rfl;((conv=>lhs;simp only [List.setIfInBounds_toArray,List.set_cons_zero,List.set_cons_succ])<;>rfl);kernel_rfl;decide))
    (h:∀ K:Act→World→Prop,Shut (∀ a' w',wpAnyLast P md ops Q S ds fuel l' a' w'→K a' w')→if Region.wanted oi (yielded ops a.tmps)=true then Oper.wp P oi a w K Q else K (a.put (some N) undef) w):wpAnyLast P md ops Q S ds (fuel+1) l a w :=
  last_ l' hx.1 hx.2.1 hx.2.2.2.1 hx.2.2.2.2 h
theorem lN (i:Nat) (hx:(ops[i]?=some oi)∧(oi.dst=none)∧(l.setIfInBounds i true=l')∧(readyB md ops l l' i=true)∧(i∈ds):=by (refine ⟨?_,?_,?_,?_,?_⟩;exact rfl;exact rfl;((conv=>lhs;simp only [List.setIfInBounds_toArray,List.set_cons_zero,List.set_cons_succ])<;>rfl);kernel_rfl;decide))
    (h:∀ K:Act→World→Prop,Shut (∀ a' w',wpAnyLast P md ops Q S ds fuel l' a' w'→K a' w')→if Region.wanted oi (yielded ops a.tmps)=true then Oper.wp P oi a w K Q else K (a.put none undef) w):wpAnyLast P md ops Q S ds (fuel+1) l a w :=
  last_ l' hx.1 hx.2.1 hx.2.2.2.1 hx.2.2.2.2 h
theorem tw {Ni Nj:Tmp} (i j:Nat) (hx:(ops[i]?=some oi)∧(ops[j]?=some oj)∧(oi.dst=some Ni)∧(oj.dst=some Nj)∧(l.setIfInBounds i true=l')∧(l.setIfInBounds j true=l2)∧((Region.ready md ops l == [i,j]&&l.setIfInBounds i true == l'&&l.setIfInBounds j true == l2)=true)∧(i∉ds)∧(j∉ds):=by (refine ⟨?_,?_,?_,?_,?_,?_,?_,?_,?_⟩;exact rfl;exact rfl;exact rfl;exact rfl;((conv=>lhs;simp only [List.setIfInBounds_toArray,List.set_cons_zero,List.set_cons_succ])<;>rfl);((conv=>lhs;simp only [List.setIfInBounds_toArray,List.set_cons_zero,List.set_cons_succ])<;>rfl);kernel_rfl;decide;decide))
    (h1:∀ K:Act→World→Prop,Shut (∀ a' w',S w'→(S w'→wpAnyLast P md ops Q S ds fuel l' a' w')→K a' w')→if Region.wanted oi (yielded ops a.tmps)=true then Oper.wp P oi a w K Q else K (a.put (some Ni) undef) w) (h2:∀ K:Act→World→Prop,Shut (∀ a' w',S w'→(S w'→wpAnyLast P md ops Q S ds fuel l2 a' w')→K a' w')→if Region.wanted oj (yielded ops a.tmps)=true then Oper.wp P oj a w K Q else K (a.put (some Nj) undef) w):wpAnyLast P md ops Q S ds (fuel+1) l a w :=
  two_ l' l2 hx.1 hx.2.1 hx.2.2.1 hx.2.2.2.1 hx.2.2.2.2.2.2.1 hx.2.2.2.2.2.2.2.1 hx.2.2.2.2.2.2.2.2 h1 h2
theorem nm {d:Option Tmp} (N:Tmp) (hx:(d=some N)∧(a.put (some N) v=a'):=by (refine ⟨?_,?_⟩;exact rfl;((conv=>lhs;simp only [Act.put,List.setIfInBounds_toArray,List.set_cons_zero,List.set_cons_succ,i64_w,i32_w])<;>rfl)))
    (h:wpAnyLast P md ops Q S ds fuel l a' w):wpAnyLast P md ops Q S ds fuel l (a.put d v) w:=norm_ (by rw [hx.1];exact hx.2) h
theorem st {id:Nat} (n:Nat) (S:World→Prop) (ds:List Nat) (hm:P.follows .mixedOrders=true:=by kernel_rfl) (hn:ops.size=n:=by rfl)
    (hl:Array.replicate n false=l:=by ((conv=>lhs;simp only [Array.replicate_succ,Array.replicate_zero,List.push_toArray,List.append_toArray,List.nil_append,List.cons_append])<;>rfl)) (hS:S w.drew)
    (h:S w.drew→wpAnyLast P .any ops Q S ds n l a w.drew):(Code.region id ops true).wp P Q a w:=start_ l hm hn hl hS h
theorem gc {N:Tmp} {K:Act→World→Prop} {f:FuncId} {fn:Func} {xs:Array Operand} {ts:Array TypeId} {args:Array Value} {Post:Ending→World→Prop} (hf:P.funcs[f]?=some fn) (hC:Calls P f args w Post)
    (hname : (fn.name == "runtime.NumGoroutine") = false := by kernel_rfl) (hb : fn.body.isSome = true := by rfl)
    (hw:Region.wanted oi (yielded ops a.tmps)=true:=by rfl) (hN:oi.dst=some N:=by rfl) (hop:oi.op=.call { callee:=.value (.func f),args:=xs,argTypes:=ts }:=by rfl)
    (hargs:xs.map a.eval=args:=by first|(simp only [List.map_toArray,List.map_cons,List.map_nil]<;>rfl)|(simp only [List.map_toArray,List.map_nil]<;>rfl) | exact rfl)
    (h:∀ e w',Post e w'→∃ v,e=.returned v∧K (a.put (some N) v) w'):if Region.wanted oi (yielded ops a.tmps)=true then Oper.wp P oi a w K Q else K (a.put (some N) undef) w :=
  goes_ hf hname hb args hw hN hop hargs (hC.mono h)
end
section
variable {w w1 W W1:World} {n g:Nat} {o:Obj}
theorem bh (h:Aside0 (Below n w W)) (hb:Below W1.heap.size W1 w1) (e:Below n w W→Below n w W1:=by first | exact id | exact below_drew1|(intro h;repeat (first|(with_reducible first | exact h | apply below_alloc | apply pw_below_drewN | apply below_drew1 | refine below_set ?_ (Aside0.out (by assumption))) | exact h))) (hn:n=w.heap.size:=by rfl):Aside0 (Below n w w1):=by
  subst hn
  exact Aside0.mk (below_step (e h.out) hb)
theorem kb (h:Aside0 (W.heap[g]?=some o)) (hb:Below W1.heap.size W1 w1) (e:W.heap[g]?=some o→W1.heap[g]?=some o:=by first | exact id | exact blk_drew|(intro h;(with_reducible repeat (first | refine blk_drewN ?_ _ | refine blk_drew ?_ | refine blk_alloc ?_ _));exact h)):Aside0 (w1.heap[g]?=some o):=Aside0.mk (blk_below (e h.out) hb)
theorem fB {p:Prop} (h:Aside0 (Below n w W)) (a:p:=by first | rfl|(simp;done)|(simp [*];done)|(simp [errW_none,errW_some]<;>rfl)|(simp [*,errW_none,errW_some]<;>rfl))
    (e:Below n w W→Below n w W1:=by first | exact id | exact below_drew1|(intro h;repeat (first|(with_reducible first | exact h | apply below_alloc | apply pw_below_drewN | apply below_drew1 | refine below_set ?_ (Aside0.out (by assumption))) | exact h))):p∧Below n w W1:=⟨a,e h.out⟩
theorem fD {p:Prop} (a:p:=by first | rfl|(simp;done)|(simp [*];done)) (e:Drawn0 w W:=by repeat (first | exact Drawn0.refl _ | apply Drawn0.step)):p∧Drawn0 w W:=⟨a,e⟩
end
section
variable {P:Program} {ops:Array Oper} {rest:List Oper} {o:Oper} {a:Act} {Q:Exit→Act→World→Prop} {W:World}
theorem bx (N:Tmp) (cs:Array Value) (t:TypeId) (hd:o.dst=some N:=by with_reducible rfl) (hgd:o.guard=none:=by rfl)
    (hrun:(execOp a.eval o).run P W=.ok (.value (.pointer (some ⟨W.heap.size,0,none⟩))) (W.alloc (.cells cs t (0,0))):=by first|(go_simp;done)|(go_simp;rfl))
    (h:∀ g,g=W.heap.size→∀ w1,w1.heap[g]?=some (.cells cs t (0,0))→Below W.heap.size W w1→wpList P ops Q rest (a.put o.dst (.pointer (some ⟨g,0,none⟩))) w1):wpList P ops Q (o :: rest) a W :=
  box_event hgd hd hrun h
end
end Go.Proofs.YthjacokachgmfaaGreatDoor.H
end
section
namespace Go.Proofs.YthjacokachgmfaaGreatDoor.H
namespace Ev
open Go Go.RowKit YthjacokachgmfaaGreatDoorW.PrintWords
theorem store_ev {P:Program} {ops:Array Oper} {rest:List Oper} {o:Oper} {a:Act} {Q:Exit→Act→World→Prop} {W:World} (hgd:o.guard=none) (hN:o.dst=none) (t:TypeId) (p x:Operand) (ho:o.op=.store t p x) (g off:Nat) (e:TypeId) (cur:Array Value)
    (hh:W.heap[g]?=some (.cells cur e (0,0))) (hp:a.eval p=.pointer (some ⟨g,off,none⟩)) (u:Value) (hx:a.eval x=u) (seg:List Value) (hu:u.cells.toList=seg) (ht:(P.info? t).map (·.size)=some seg.length) (hfit:off+seg.length≤cur.size)
    (h1:∀ q∈seg,q.oneCell'=true) (cs':Array Value) (hcs:cs'.toList=cur.toList.take off++seg++cur.toList.drop (off+seg.length))
    (h:∀ w',w'.heap[g]?=some (.cells cs' e (0,0))→W.grownBy w' (some g)→wpList P ops Q rest a w'):wpList P ops Q (o :: rest) a W:=by
  refine wpList_plain hgd fun K hK=>?_
  have hrun:=run_store_run (P:=P) t u seg hh hu ht hfit h1
  unfold Oper.wp execOp
  simp only [ho,hp,hx,Sem.run_bind,Sem.run_pure,Result.andThen_ok,hrun]
  show K (a.put o.dst undef) _
  rw [hN]
  obtain ⟨cur',k1,k2,k3⟩:=setCells_row seg off W cur hh hfit
  obtain ⟨s1,s2,s3,s4⟩:=setCells_same g seg off W
  have ec:cur'=cs':=by
    have h2:cur'.toList=cs'.toList:=by rw [k3,hcs]
    exact Array.toList_inj.1 h2
  subst ec
  exact hK a _ (h _ k1 ⟨s1,s2,s3,by rw [s4];exact Nat.le_refl _,fun k _ hk=>setCells_far seg off k (fun he=>hk (by rw [he]))⟩)
theorem R_grownT {α:Type} {d:Kd α} {e:Nat} {w w1:World} {base:Nat} {ok:Nat→Prop} {v:Value} {xs:List α} (h:d.R e w base ok v xs) {g t:Nat} {cells:Array Value} (hb:w.heap[g]?=some (.cells cells t (0,0))) (ht:∀ q,q∈e :: d.E→q≠t) (hg:w.grownBy w1 (some g)):d.R e w1 base ok v xs :=
  Kd.R_mono (Kd.R_grown (Kd.R_types h hb ht) hg (fun k hk e=>hk.2 (by injection e))) (fun _ hk=>hk.1)
section
variable {P:Program} {ops:Array Oper} {o:Oper} {a:Act} {Q:Exit→Act→World→Prop} {Kc:Act→World→Prop} {E:Prop}
theorem box_step {W:World} {cs:Array Value} {t:TypeId} (N:Nat) (hgd:o.guard=none) (hd:o.dst=some N) (hrun:(execOp a.eval o).run P W=.ok (.value (.pointer (some ⟨W.heap.size,0,none⟩))) (W.alloc (.cells cs t (0,0))))
    (h:∀ g,g=W.heap.size→∀ w1,w1.heap[g]?=some (.cells cs t (0,0))→Below W.heap.size W w1→Kc (a.put o.dst (.pointer (some ⟨g,0,none⟩))) w1):if Region.wanted o (yielded ops a.tmps)=true then Oper.wp P o a W Kc Q else E:=by
  rw [if_pos (by simp [Region.wanted,hgd])]
  unfold Oper.wp
  rw [hrun]
  exact h _ rfl _ (blk_new W _) (below_alloc (Below.refl _ _) _)
theorem slice_step {W:World} {cs:Array Value} {t:TypeId} {n:Nat} (N:Nat) (hgd:o.guard=none) (hd:o.dst=some N) (hrun:(execOp a.eval o).run P W=.ok (.value (.slice (some ⟨W.heap.size,0,none⟩) n n)) (W.alloc (.cells cs t (0,0))))
    (h:∀ g,g=W.heap.size→∀ w1,w1.heap[g]?=some (.cells cs t (0,0))→Below W.heap.size W w1→Kc (a.put o.dst (.slice (some ⟨g,0,none⟩) n n)) w1):if Region.wanted o (yielded ops a.tmps)=true then Oper.wp P o a W Kc Q else E:=by
  rw [if_pos (by simp [Region.wanted,hgd])]
  unfold Oper.wp
  rw [hrun]
  exact h _ rfl _ (blk_new W _) (below_alloc (Below.refl _ _) _)
theorem store_step {W:World} (hgd:o.guard=none) (hN:o.dst=none) (t:TypeId) (p x:Operand) (ho:o.op=.store t p x) (g off:Nat) (e:TypeId) (cur:Array Value)
    (hh:W.heap[g]?=some (.cells cur e (0,0))) (hp:a.eval p=.pointer (some ⟨g,off,none⟩)) (u:Value) (hx:a.eval x=u) (seg:List Value) (hu:u.cells.toList=seg) (ht:(P.info? t).map (·.size)=some seg.length) (hfit:off+seg.length≤cur.size)
    (h1:∀ q∈seg,q.oneCell'=true) (cs':Array Value) (hcs:cs'.toList=cur.toList.take off++seg++cur.toList.drop (off+seg.length))
    (h:∀ w',w'.heap[g]?=some (.cells cs' e (0,0))→W.grownBy w' (some g)→Kc a w'):if Region.wanted o (yielded ops a.tmps)=true then Oper.wp P o a W Kc Q else E:=by
  rw [if_pos (by simp [Region.wanted,hgd])]
  have hrun:=run_store_run (P:=P) t u seg hh hu ht hfit h1
  unfold Oper.wp execOp
  simp only [ho,hp,hx,Sem.run_bind,Sem.run_pure,Result.andThen_ok,hrun]
  show Kc (a.put o.dst undef) _
  rw [hN]
  obtain ⟨cur',k1,k2,k3⟩:=setCells_row seg off W cur hh hfit
  obtain ⟨s1,s2,s3,s4⟩:=setCells_same g seg off W
  have ec:cur'=cs':=by
    have h2:cur'.toList=cs'.toList:=by rw [k3,hcs]
    exact Array.toList_inj.1 h2
  subst ec
  exact h _ k1 ⟨s1,s2,s3,by rw [s4];exact Nat.le_refl _,fun k _ hk=>setCells_far seg off k (fun he=>hk (by rw [he]))⟩
end
theorem cells1 {w:World} {g:Nat} {t:TypeId} {a0:Value} (h:w.heap[g]?=some (.cells #[a0] t (0,0))):w.cell? ⟨g,0,none⟩=some a0 :=
  (blk_cell h 0).trans rfl
theorem cells2 {w:World} {g:Nat} {t:TypeId} {a0 a1:Value} (h:w.heap[g]?=some (.cells #[a0,a1] t (0,0))):w.cell? ⟨g,0,none⟩=some a0∧w.cell? ⟨g,1,none⟩=some a1 :=
  ⟨(blk_cell h 0).trans rfl,(blk_cell h 1).trans rfl⟩
theorem cells5 {w:World} {g:Nat} {t:TypeId} {a0 a1 a2 a3 a4:Value} (h:w.heap[g]?=some (.cells #[a0,a1,a2,a3,a4] t (0,0))):w.cell? ⟨g,0,none⟩=some a0∧w.cell? ⟨g,1,none⟩=some a1∧w.cell? ⟨g,2,none⟩=some a2∧w.cell? ⟨g,3,none⟩=some a3∧w.cell? ⟨g,4,none⟩=some a4 :=
  ⟨(blk_cell h 0).trans rfl,(blk_cell h 1).trans rfl,(blk_cell h 2).trans rfl,(blk_cell h 3).trans rfl,(blk_cell h 4).trans rfl⟩
theorem cells6 {w:World} {g:Nat} {t:TypeId} {a0 a1 a2 a3 a4 a5:Value} (h:w.heap[g]?=some (.cells #[a0,a1,a2,a3,a4,a5] t (0,0))):w.cell? ⟨g,0,none⟩=some a0∧w.cell? ⟨g,1,none⟩=some a1∧w.cell? ⟨g,2,none⟩=some a2∧w.cell? ⟨g,3,none⟩=some a3∧w.cell? ⟨g,4,none⟩=some a4∧w.cell? ⟨g,5,none⟩=some a5 :=
  ⟨(blk_cell h 0).trans rfl,(blk_cell h 1).trans rfl,(blk_cell h 2).trans rfl,(blk_cell h 3).trans rfl,(blk_cell h 4).trans rfl,(blk_cell h 5).trans rfl⟩
theorem cells8 {w:World} {g:Nat} {t:TypeId} {a0 a1 a2 a3 a4 a5 a6 a7:Value} (h:w.heap[g]?=some (.cells #[a0,a1,a2,a3,a4,a5,a6,a7] t (0,0))):w.cell? ⟨g,0,none⟩=some a0∧w.cell? ⟨g,1,none⟩=some a1∧w.cell? ⟨g,2,none⟩=some a2∧w.cell? ⟨g,3,none⟩=some a3∧w.cell? ⟨g,4,none⟩=some a4∧w.cell? ⟨g,5,none⟩=some a5∧w.cell? ⟨g,6,none⟩=some a6∧w.cell? ⟨g,7,none⟩=some a7 :=
  ⟨(blk_cell h 0).trans rfl,(blk_cell h 1).trans rfl,(blk_cell h 2).trans rfl,(blk_cell h 3).trans rfl,(blk_cell h 4).trans rfl,(blk_cell h 5).trans rfl,(blk_cell h 6).trans rfl,(blk_cell h 7).trans rfl⟩
theorem cells10 {w:World} {g:Nat} {t:TypeId} {a0 a1 a2 a3 a4 a5 a6 a7 a8 a9:Value} (h:w.heap[g]?=some (.cells #[a0,a1,a2,a3,a4,a5,a6,a7,a8,a9] t (0,0))):w.cell? ⟨g,0,none⟩=some a0∧w.cell? ⟨g,1,none⟩=some a1∧w.cell? ⟨g,2,none⟩=some a2∧w.cell? ⟨g,3,none⟩=some a3∧w.cell? ⟨g,4,none⟩=some a4∧w.cell? ⟨g,5,none⟩=some a5∧w.cell? ⟨g,6,none⟩=some a6∧w.cell? ⟨g,7,none⟩=some a7∧w.cell? ⟨g,8,none⟩=some a8∧w.cell? ⟨g,9,none⟩=some a9 :=
  ⟨(blk_cell h 0).trans rfl,(blk_cell h 1).trans rfl,(blk_cell h 2).trans rfl,(blk_cell h 3).trans rfl,(blk_cell h 4).trans rfl,(blk_cell h 5).trans rfl,(blk_cell h 6).trans rfl,(blk_cell h 7).trans rfl,(blk_cell h 8).trans rfl,(blk_cell h 9).trans rfl⟩
theorem cells13 {w:World} {g:Nat} {t:TypeId} {a0 a1 a2 a3 a4 a5 a6 a7 a8 a9 a10 a11 a12:Value} (h:w.heap[g]?=some (.cells #[a0,a1,a2,a3,a4,a5,a6,a7,a8,a9,a10,a11,a12] t (0,0))):w.cell? ⟨g,0,none⟩=some a0∧w.cell? ⟨g,1,none⟩=some a1∧w.cell? ⟨g,2,none⟩=some a2∧w.cell? ⟨g,3,none⟩=some a3∧w.cell? ⟨g,4,none⟩=some a4∧w.cell? ⟨g,5,none⟩=some a5∧w.cell? ⟨g,6,none⟩=some a6∧w.cell? ⟨g,7,none⟩=some a7∧w.cell? ⟨g,8,none⟩=some a8∧w.cell? ⟨g,9,none⟩=some a9∧w.cell? ⟨g,10,none⟩=some a10∧w.cell? ⟨g,11,none⟩=some a11∧w.cell? ⟨g,12,none⟩=some a12 :=
  ⟨(blk_cell h 0).trans rfl,(blk_cell h 1).trans rfl,(blk_cell h 2).trans rfl,(blk_cell h 3).trans rfl,(blk_cell h 4).trans rfl,(blk_cell h 5).trans rfl,(blk_cell h 6).trans rfl,(blk_cell h 7).trans rfl,(blk_cell h 8).trans rfl,(blk_cell h 9).trans rfl,(blk_cell h 10).trans rfl,(blk_cell h 11).trans rfl,(blk_cell h 12).trans rfl⟩
theorem cells19 {w:World} {g:Nat} {t:TypeId} {a0 a1 a2 a3 a4 a5 a6 a7 a8 a9 a10 a11 a12 a13 a14 a15 a16 a17 a18:Value} (h:w.heap[g]?=some (.cells #[a0,a1,a2,a3,a4,a5,a6,a7,a8,a9,a10,a11,a12,a13,a14,a15,a16,a17,a18] t (0,0))):w.cell? ⟨g,0,none⟩=some a0∧w.cell? ⟨g,1,none⟩=some a1∧w.cell? ⟨g,2,none⟩=some a2∧w.cell? ⟨g,3,none⟩=some a3∧w.cell? ⟨g,4,none⟩=some a4∧w.cell? ⟨g,5,none⟩=some a5∧w.cell? ⟨g,6,none⟩=some a6∧w.cell? ⟨g,7,none⟩=some a7∧w.cell? ⟨g,8,none⟩=some a8∧w.cell? ⟨g,9,none⟩=some a9∧w.cell? ⟨g,10,none⟩=some a10∧w.cell? ⟨g,11,none⟩=some a11∧w.cell? ⟨g,12,none⟩=some a12∧w.cell? ⟨g,13,none⟩=some a13∧w.cell? ⟨g,14,none⟩=some a14∧w.cell? ⟨g,15,none⟩=some a15∧w.cell? ⟨g,16,none⟩=some a16∧w.cell? ⟨g,17,none⟩=some a17∧w.cell? ⟨g,18,none⟩=some a18 :=
  ⟨(blk_cell h 0).trans rfl,(blk_cell h 1).trans rfl,(blk_cell h 2).trans rfl,(blk_cell h 3).trans rfl,(blk_cell h 4).trans rfl,(blk_cell h 5).trans rfl,(blk_cell h 6).trans rfl,(blk_cell h 7).trans rfl,(blk_cell h 8).trans rfl,(blk_cell h 9).trans rfl,(blk_cell h 10).trans rfl,(blk_cell h 11).trans rfl,(blk_cell h 12).trans rfl,(blk_cell h 13).trans rfl,(blk_cell h 14).trans rfl,(blk_cell h 15).trans rfl,(blk_cell h 16).trans rfl,(blk_cell h 17).trans rfl,(blk_cell h 18).trans rfl⟩
theorem cells20 {w:World} {g:Nat} {t:TypeId} {a0 a1 a2 a3 a4 a5 a6 a7 a8 a9 a10 a11 a12 a13 a14 a15 a16 a17 a18 a19:Value} (h:w.heap[g]?=some (.cells #[a0,a1,a2,a3,a4,a5,a6,a7,a8,a9,a10,a11,a12,a13,a14,a15,a16,a17,a18,a19] t (0,0))):w.cell? ⟨g,0,none⟩=some a0∧w.cell? ⟨g,1,none⟩=some a1∧w.cell? ⟨g,2,none⟩=some a2∧w.cell? ⟨g,3,none⟩=some a3∧w.cell? ⟨g,4,none⟩=some a4∧w.cell? ⟨g,5,none⟩=some a5∧w.cell? ⟨g,6,none⟩=some a6∧w.cell? ⟨g,7,none⟩=some a7∧w.cell? ⟨g,8,none⟩=some a8∧w.cell? ⟨g,9,none⟩=some a9∧w.cell? ⟨g,10,none⟩=some a10∧w.cell? ⟨g,11,none⟩=some a11∧w.cell? ⟨g,12,none⟩=some a12∧w.cell? ⟨g,13,none⟩=some a13∧w.cell? ⟨g,14,none⟩=some a14∧w.cell? ⟨g,15,none⟩=some a15∧w.cell? ⟨g,16,none⟩=some a16∧w.cell? ⟨g,17,none⟩=some a17∧w.cell? ⟨g,18,none⟩=some a18∧w.cell? ⟨g,19,none⟩=some a19 :=
  ⟨(blk_cell h 0).trans rfl,(blk_cell h 1).trans rfl,(blk_cell h 2).trans rfl,(blk_cell h 3).trans rfl,(blk_cell h 4).trans rfl,(blk_cell h 5).trans rfl,(blk_cell h 6).trans rfl,(blk_cell h 7).trans rfl,(blk_cell h 8).trans rfl,(blk_cell h 9).trans rfl,(blk_cell h 10).trans rfl,(blk_cell h 11).trans rfl,(blk_cell h 12).trans rfl,(blk_cell h 13).trans rfl,(blk_cell h 14).trans rfl,(blk_cell h 15).trans rfl,(blk_cell h 16).trans rfl,(blk_cell h 17).trans rfl,(blk_cell h 18).trans rfl,(blk_cell h 19).trans rfl⟩
theorem cells24 {w:World} {g:Nat} {t:TypeId} {a0 a1 a2 a3 a4 a5 a6 a7 a8 a9 a10 a11 a12 a13 a14 a15 a16 a17 a18 a19 a20 a21 a22 a23:Value} (h:w.heap[g]?=some (.cells #[a0,a1,a2,a3,a4,a5,a6,a7,a8,a9,a10,a11,a12,a13,a14,a15,a16,a17,a18,a19,a20,a21,a22,a23] t (0,0))):w.cell? ⟨g,0,none⟩=some a0∧w.cell? ⟨g,1,none⟩=some a1∧w.cell? ⟨g,2,none⟩=some a2∧w.cell? ⟨g,3,none⟩=some a3∧w.cell? ⟨g,4,none⟩=some a4∧w.cell? ⟨g,5,none⟩=some a5∧w.cell? ⟨g,6,none⟩=some a6∧w.cell? ⟨g,7,none⟩=some a7∧w.cell? ⟨g,8,none⟩=some a8∧w.cell? ⟨g,9,none⟩=some a9∧w.cell? ⟨g,10,none⟩=some a10∧w.cell? ⟨g,11,none⟩=some a11∧w.cell? ⟨g,12,none⟩=some a12∧w.cell? ⟨g,13,none⟩=some a13∧w.cell? ⟨g,14,none⟩=some a14∧w.cell? ⟨g,15,none⟩=some a15∧w.cell? ⟨g,16,none⟩=some a16∧w.cell? ⟨g,17,none⟩=some a17∧w.cell? ⟨g,18,none⟩=some a18∧w.cell? ⟨g,19,none⟩=some a19∧w.cell? ⟨g,20,none⟩=some a20∧w.cell? ⟨g,21,none⟩=some a21∧w.cell? ⟨g,22,none⟩=some a22∧w.cell? ⟨g,23,none⟩=some a23 :=
  ⟨(blk_cell h 0).trans rfl,(blk_cell h 1).trans rfl,(blk_cell h 2).trans rfl,(blk_cell h 3).trans rfl,(blk_cell h 4).trans rfl,(blk_cell h 5).trans rfl,(blk_cell h 6).trans rfl,(blk_cell h 7).trans rfl,(blk_cell h 8).trans rfl,(blk_cell h 9).trans rfl,(blk_cell h 10).trans rfl,(blk_cell h 11).trans rfl,(blk_cell h 12).trans rfl,(blk_cell h 13).trans rfl,(blk_cell h 14).trans rfl,(blk_cell h 15).trans rfl,(blk_cell h 16).trans rfl,(blk_cell h 17).trans rfl,(blk_cell h 18).trans rfl,(blk_cell h 19).trans rfl,(blk_cell h 20).trans rfl,(blk_cell h 21).trans rfl,(blk_cell h 22).trans rfl,(blk_cell h 23).trans rfl⟩
theorem cells34 {w:World} {g:Nat} {t:TypeId} {a0 a1 a2 a3 a4 a5 a6 a7 a8 a9 a10 a11 a12 a13 a14 a15 a16 a17 a18 a19 a20 a21 a22 a23 a24 a25 a26 a27 a28 a29 a30 a31 a32 a33:Value} (h:w.heap[g]?=some (.cells #[a0,a1,a2,a3,a4,a5,a6,a7,a8,a9,a10,a11,a12,a13,a14,a15,a16,a17,a18,a19,a20,a21,a22,a23,a24,a25,a26,a27,a28,a29,a30,a31,a32,a33] t (0,0))):w.cell? ⟨g,0,none⟩=some a0∧w.cell? ⟨g,1,none⟩=some a1∧w.cell? ⟨g,2,none⟩=some a2∧w.cell? ⟨g,3,none⟩=some a3∧w.cell? ⟨g,4,none⟩=some a4∧w.cell? ⟨g,5,none⟩=some a5∧w.cell? ⟨g,6,none⟩=some a6∧w.cell? ⟨g,7,none⟩=some a7∧w.cell? ⟨g,8,none⟩=some a8∧w.cell? ⟨g,9,none⟩=some a9∧w.cell? ⟨g,10,none⟩=some a10∧w.cell? ⟨g,11,none⟩=some a11∧w.cell? ⟨g,12,none⟩=some a12∧w.cell? ⟨g,13,none⟩=some a13∧w.cell? ⟨g,14,none⟩=some a14∧w.cell? ⟨g,15,none⟩=some a15∧w.cell? ⟨g,16,none⟩=some a16∧w.cell? ⟨g,17,none⟩=some a17∧w.cell? ⟨g,18,none⟩=some a18∧w.cell? ⟨g,19,none⟩=some a19∧w.cell? ⟨g,20,none⟩=some a20∧w.cell? ⟨g,21,none⟩=some a21∧w.cell? ⟨g,22,none⟩=some a22∧w.cell? ⟨g,23,none⟩=some a23∧w.cell? ⟨g,24,none⟩=some a24∧w.cell? ⟨g,25,none⟩=some a25∧w.cell? ⟨g,26,none⟩=some a26∧w.cell? ⟨g,27,none⟩=some a27∧w.cell? ⟨g,28,none⟩=some a28∧w.cell? ⟨g,29,none⟩=some a29∧w.cell? ⟨g,30,none⟩=some a30∧w.cell? ⟨g,31,none⟩=some a31∧w.cell? ⟨g,32,none⟩=some a32∧w.cell? ⟨g,33,none⟩=some a33 :=
  ⟨(blk_cell h 0).trans rfl,(blk_cell h 1).trans rfl,(blk_cell h 2).trans rfl,(blk_cell h 3).trans rfl,(blk_cell h 4).trans rfl,(blk_cell h 5).trans rfl,(blk_cell h 6).trans rfl,(blk_cell h 7).trans rfl,(blk_cell h 8).trans rfl,(blk_cell h 9).trans rfl,(blk_cell h 10).trans rfl,(blk_cell h 11).trans rfl,(blk_cell h 12).trans rfl,(blk_cell h 13).trans rfl,(blk_cell h 14).trans rfl,(blk_cell h 15).trans rfl,(blk_cell h 16).trans rfl,(blk_cell h 17).trans rfl,(blk_cell h 18).trans rfl,(blk_cell h 19).trans rfl,(blk_cell h 20).trans rfl,(blk_cell h 21).trans rfl,(blk_cell h 22).trans rfl,(blk_cell h 23).trans rfl,(blk_cell h 24).trans rfl,(blk_cell h 25).trans rfl,(blk_cell h 26).trans rfl,(blk_cell h 27).trans rfl,(blk_cell h 28).trans rfl,(blk_cell h 29).trans rfl,(blk_cell h 30).trans rfl,(blk_cell h 31).trans rfl,(blk_cell h 32).trans rfl,(blk_cell h 33).trans rfl⟩
theorem cells47 {w:World} {g:Nat} {t:TypeId} {a0 a1 a2 a3 a4 a5 a6 a7 a8 a9 a10 a11 a12 a13 a14 a15 a16 a17 a18 a19 a20 a21 a22 a23 a24 a25 a26 a27 a28 a29 a30 a31 a32 a33 a34 a35 a36 a37 a38 a39 a40 a41 a42 a43 a44 a45 a46:Value} (h:w.heap[g]?=some (.cells #[a0,a1,a2,a3,a4,a5,a6,a7,a8,a9,a10,a11,a12,a13,a14,a15,a16,a17,a18,a19,a20,a21,a22,a23,a24,a25,a26,a27,a28,a29,a30,a31,a32,a33,a34,a35,a36,a37,a38,a39,a40,a41,a42,a43,a44,a45,a46] t (0,0))):w.cell? ⟨g,0,none⟩=some a0∧w.cell? ⟨g,1,none⟩=some a1∧w.cell? ⟨g,2,none⟩=some a2∧w.cell? ⟨g,3,none⟩=some a3∧w.cell? ⟨g,4,none⟩=some a4∧w.cell? ⟨g,5,none⟩=some a5∧w.cell? ⟨g,6,none⟩=some a6∧w.cell? ⟨g,7,none⟩=some a7∧w.cell? ⟨g,8,none⟩=some a8∧w.cell? ⟨g,9,none⟩=some a9∧w.cell? ⟨g,10,none⟩=some a10∧w.cell? ⟨g,11,none⟩=some a11∧w.cell? ⟨g,12,none⟩=some a12∧w.cell? ⟨g,13,none⟩=some a13∧w.cell? ⟨g,14,none⟩=some a14∧w.cell? ⟨g,15,none⟩=some a15∧w.cell? ⟨g,16,none⟩=some a16∧w.cell? ⟨g,17,none⟩=some a17∧w.cell? ⟨g,18,none⟩=some a18∧w.cell? ⟨g,19,none⟩=some a19∧w.cell? ⟨g,20,none⟩=some a20∧w.cell? ⟨g,21,none⟩=some a21∧w.cell? ⟨g,22,none⟩=some a22∧w.cell? ⟨g,23,none⟩=some a23∧w.cell? ⟨g,24,none⟩=some a24∧w.cell? ⟨g,25,none⟩=some a25∧w.cell? ⟨g,26,none⟩=some a26∧w.cell? ⟨g,27,none⟩=some a27∧w.cell? ⟨g,28,none⟩=some a28∧w.cell? ⟨g,29,none⟩=some a29∧w.cell? ⟨g,30,none⟩=some a30∧w.cell? ⟨g,31,none⟩=some a31∧w.cell? ⟨g,32,none⟩=some a32∧w.cell? ⟨g,33,none⟩=some a33∧w.cell? ⟨g,34,none⟩=some a34∧w.cell? ⟨g,35,none⟩=some a35∧w.cell? ⟨g,36,none⟩=some a36∧w.cell? ⟨g,37,none⟩=some a37∧w.cell? ⟨g,38,none⟩=some a38∧w.cell? ⟨g,39,none⟩=some a39∧w.cell? ⟨g,40,none⟩=some a40∧w.cell? ⟨g,41,none⟩=some a41∧w.cell? ⟨g,42,none⟩=some a42∧w.cell? ⟨g,43,none⟩=some a43∧w.cell? ⟨g,44,none⟩=some a44∧w.cell? ⟨g,45,none⟩=some a45∧w.cell? ⟨g,46,none⟩=some a46 :=
  ⟨(blk_cell h 0).trans rfl,(blk_cell h 1).trans rfl,(blk_cell h 2).trans rfl,(blk_cell h 3).trans rfl,(blk_cell h 4).trans rfl,(blk_cell h 5).trans rfl,(blk_cell h 6).trans rfl,(blk_cell h 7).trans rfl,(blk_cell h 8).trans rfl,(blk_cell h 9).trans rfl,(blk_cell h 10).trans rfl,(blk_cell h 11).trans rfl,(blk_cell h 12).trans rfl,(blk_cell h 13).trans rfl,(blk_cell h 14).trans rfl,(blk_cell h 15).trans rfl,(blk_cell h 16).trans rfl,(blk_cell h 17).trans rfl,(blk_cell h 18).trans rfl,(blk_cell h 19).trans rfl,(blk_cell h 20).trans rfl,(blk_cell h 21).trans rfl,(blk_cell h 22).trans rfl,(blk_cell h 23).trans rfl,(blk_cell h 24).trans rfl,(blk_cell h 25).trans rfl,(blk_cell h 26).trans rfl,(blk_cell h 27).trans rfl,(blk_cell h 28).trans rfl,(blk_cell h 29).trans rfl,(blk_cell h 30).trans rfl,(blk_cell h 31).trans rfl,(blk_cell h 32).trans rfl,(blk_cell h 33).trans rfl,(blk_cell h 34).trans rfl,(blk_cell h 35).trans rfl,(blk_cell h 36).trans rfl,(blk_cell h 37).trans rfl,(blk_cell h 38).trans rfl,(blk_cell h 39).trans rfl,(blk_cell h 40).trans rfl,(blk_cell h 41).trans rfl,(blk_cell h 42).trans rfl,(blk_cell h 43).trans rfl,(blk_cell h 44).trans rfl,(blk_cell h 45).trans rfl,(blk_cell h 46).trans rfl⟩
end Ev
end Go.Proofs.YthjacokachgmfaaGreatDoor.H
end
section
namespace Go.Proofs.YthjacokachgmfaaGreatDoor.H
namespace Ev
open Go Go.RowKit YthjacokachgmfaaGreatDoorW.PrintWords
section
variable {P:Program} {ops:Array Oper} {rest:List Oper} {o:Oper} {a:Act} {Q:Exit→Act→World→Prop} {W:World}
theorem range_blk {w:World} {g:Nat} {cs:Array Value} {t:TypeId} (h:w.heap[g]?=some (.cells cs t (0,0))) (off:Nat) (seg:List Value) (hs:(cs.toList.drop off).take seg.length=seg):w.rangeAt g off seg:=by
  intro j v hj
  refine (blk_cell h (off+j)).trans ?_
  have h1:((cs.toList.drop off).take seg.length)[j]?=some v:=by rw [hs];exact hj
  rw [List.getElem?_take] at h1
  split at h1
  · rw [List.getElem?_drop,Array.getElem?_toList] at h1
    exact h1
  · cases h1
theorem load_run (T:TypeId) (x:Operand) (ho:o.op=.load T x) (g off:Nat) (hx:a.eval x=.pointer (some ⟨g,off,none⟩)) {cs:Array Value} {t:TypeId} (hb:W.heap[g]?=some (.cells cs t (0,0)))
    (seg:List Value) (hs:(cs.toList.drop off).take seg.length=seg) (d:TypeDesc) (hu:P.underlying T=some d) (hd:d.isRow=true) (hi:(P.info? T).map (·.size)=some seg.length) :
    (execOp a.eval o).run P W=.ok (.value (.agg seg.toArray)) W:=by
  unfold execOp
  simp only [ho,hx,Instr.loadAt,Instr.sureAddr,Sem.run_bind,Sem.run_pure,Result.andThen_ok,run_loadVar_mid W g off T seg d (range_blk hb off seg hs) hu hd hi]
theorem load_ev (hgd:o.guard=none) (T:TypeId) (x:Operand) (ho:o.op=.load T x) (g off:Nat) (hx:a.eval x=.pointer (some ⟨g,off,none⟩)) {cs:Array Value} {t:TypeId} (hb:W.heap[g]?=some (.cells cs t (0,0)))
    (seg:List Value) (hs:(cs.toList.drop off).take seg.length=seg) (d:TypeDesc) (hu:P.underlying T=some d) (hd:d.isRow=true) (hi:(P.info? T).map (·.size)=some seg.length)
    (h:wpList P ops Q rest (a.put o.dst (.agg seg.toArray)) W):wpList P ops Q (o :: rest) a W :=
  Kd.event_run hgd (load_run T x ho g off hx hb seg hs d hu hd hi) h
theorem on_ev {v:Value} {W1:World} (hw:Region.wanted o (yielded ops a.tmps)=true) (hrun:(execOp a.eval o).run P W=.ok (.value v) W1) (h:wpList P ops Q rest (a.put o.dst v) W1):wpList P ops Q (o :: rest) a W :=
  wpList_step fun K hK=>by
    rw [if_pos hw]
    unfold Oper.wp
    rw [hrun]
    exact hK _ _ h
theorem new_ev (N:Nat) (mk:Nat→Value) (hw:Region.wanted o (yielded ops a.tmps)=true) (hd:o.dst=some N) {cs:Array Value} {t:TypeId} (hrun:(execOp a.eval o).run P W=.ok (.value (mk W.heap.size)) (W.alloc (.cells cs t (0,0))))
    (h:∀ g,g=W.heap.size→∀ w1,w1.heap[g]?=some (.cells cs t (0,0))→Below W.heap.size W w1→wpList P ops Q rest (a.put o.dst (mk g)) w1):wpList P ops Q (o :: rest) a W :=
  on_ev hw hrun (h _ rfl _ (blk_new W _) (below_alloc (Below.refl _ _) _))
theorem off_ev (hw:Region.wanted o (yielded ops a.tmps)=false) (h:wpList P ops Q rest (a.put o.dst undef) W):wpList P ops Q (o :: rest) a W :=
  wpList_step fun K hK=>by
    rw [if_neg (by rw [hw];exact Bool.false_ne_true)]
    exact hK _ _ h
end
end Ev
end Go.Proofs.YthjacokachgmfaaGreatDoor.H
end
section
namespace Go.Proofs.YthjacokachgmfaaGreatDoor.H
open Go Go.RowKit YthjacokachgmfaaGreatDoorW.PrintWords YthjacokachgmfaaGreatDoorW.PrintLast YthjacokachgmfaaGreatDoorW.PrintMore
open Ev
section
variable {P:Program} {ops:Array Oper} {rest:List Oper} {o:Oper} {a:Act} {Q:Exit→Act→World→Prop} {W:World}
theorem sx {g:Nat} {e:TypeId} {cur:Array Value} {l' seg:List Value} {p x:Operand} {u:Value} (t:TypeId) (off:Nat) (B:Aside0 (W.heap[g]?=some (.cells cur e (0,0))))
    (hx:(o.guard=none)∧(o.dst=none)∧(o.op=.store t p x)∧(a.eval p=.pointer (some ⟨g,off,none⟩))∧(a.eval x=u)∧(u.cells.toList=seg)∧((P.info? t).map (·.size)=some seg.length)∧(off+seg.length≤cur.size)∧(∀ q∈seg,q.oneCell'=true)∧(cur.toList.take off++seg++cur.toList.drop (off+seg.length)=l'):=by
      (refine ⟨?_,?_,?_,?_,?_,?_,?_,?_,?_,?_⟩;(with_reducible exact rfl);(with_reducible exact rfl);(with_reducible exact rfl);exact rfl;((conv=>lhs;whnf)<;>exact rfl);((conv=>lhs;simp only [Value.cells,List.toList_toArray])<;>exact rfl);kernel_rfl;simp;simp [Value.oneCell'];((conv=>lhs;simp only [List.toList_toArray,List.take_succ_cons,List.take_zero,List.take_nil,List.drop_succ_cons,List.drop_zero,List.drop_nil,List.length_cons,List.length_nil,Nat.reduceAdd,Nat.zero_add,List.nil_append,List.cons_append,List.append_nil])<;>exact rfl)))
    (h:∀ w',Aside0 (w'.heap[g]?=some (.cells l'.toArray e (0,0)))→W.grownBy w' (some g)→wpList P ops Q rest a w'):wpList P ops Q (o :: rest) a W :=
  store_ev hx.1 hx.2.1 t p x hx.2.2.1 g off e cur B.out hx.2.2.2.1 u hx.2.2.2.2.1 seg hx.2.2.2.2.2.1 hx.2.2.2.2.2.2.1 hx.2.2.2.2.2.2.2.1 hx.2.2.2.2.2.2.2.2.1 l'.toArray (by rw [hx.2.2.2.2.2.2.2.2.2]) (fun w' h1 h2=>h w' (Aside0.mk h1) h2)
theorem lx {g:Nat} {e:TypeId} {cur:Array Value} {seg:List Value} {x:Operand} {d:TypeDesc} (t:TypeId) (off k:Nat) (B:Aside0 (W.heap[g]?=some (.cells cur e (0,0)))) (hu:P.underlying t=some d)
    (hx:(o.guard=none)∧(o.op=.load t x)∧(a.eval x=.pointer (some ⟨g,off,none⟩))∧((cur.toList.drop off).take k=seg)∧(seg.length=k)∧(d.isRow=true)∧((P.info? t).map (·.size)=some seg.length):=by
      (refine ⟨?_,?_,?_,?_,?_,?_,?_⟩;(with_reducible exact rfl);(with_reducible exact rfl);exact rfl;((conv=>lhs;simp only [List.toList_toArray,List.take_succ_cons,List.take_zero,List.take_nil,List.drop_succ_cons,List.drop_zero,List.drop_nil,List.length_cons,List.length_nil,Nat.reduceAdd,Nat.zero_add,List.nil_append,List.cons_append,List.append_nil])<;>exact rfl);exact rfl;exact rfl;kernel_rfl))
    (h:wpList P ops Q rest (a.put o.dst (.agg seg.toArray)) W):wpList P ops Q (o :: rest) a W :=
  load_ev hx.1 t x hx.2.1 g off hx.2.2.1 B.out seg (by rw [hx.2.2.2.2.1];exact hx.2.2.2.1) d hu hx.2.2.2.2.2.1 hx.2.2.2.2.2.2 h
end
theorem gk {w1 W:World} {g g2:Nat} {o:Obj} (B:Aside0 (W.heap[g]?=some o)) (hg:W.grownBy w1 (some g2)) (hne:g≠g2):Aside0 (w1.heap[g]?=some o):=Aside0.mk (blk_grown B.out hg (fun e=>hne (by injection e)))
theorem gnx {w1 W:World} {g g2:Nat} {cs cs2:Array Value} {t t2:TypeId} {f f2:Nat × Nat} (B:Aside0 (W.heap[g]?=some (.cells cs t f))) (hg:W.grownBy w1 (some g2)) (B2:Aside0 (W.heap[g2]?=some (.cells cs2 t2 f2))) (hne:t≠t2:=by decide):Aside0 (w1.heap[g]?=some (.cells cs t f)) :=
  gk B hg (fun e=>by subst e;have h:=B.out.symm.trans B2.out;injection h with h;injection h with _ h2;exact hne h2)
theorem gG {w W:World} {g:Nat} (h:Aside0 (Below w.heap.size w W)) (hg:g=W.heap.size):Aside0 (w.heap.size≤g):=Aside0.mk (by rw [hg];exact below_size h.out)
theorem gb {w w1 W:World} {g:Nat} (h:Aside0 (Below w.heap.size w W)) (hg:W.grownBy w1 (some g)) (G:Aside0 (w.heap.size≤g)):Aside0 (Below w.heap.size w w1):=Aside0.mk (h.out.grown hg (below_size h.out) (fun k hk=>by injection hk with hk;rw [← hk];exact G.out))
end Go.Proofs.YthjacokachgmfaaGreatDoor.H
end
