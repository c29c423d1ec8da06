import Derived.Test.YtojgokiobdpclaaGreatP01
import Derived.WalkKit
import Derived.WalkMore
import Derived.WalkSpells
import Derived.Lib.Hide
import Derived.Outline
import Derived.Below
import Derived.Laws.OwnMore
import Derived.Laws.Rows
import Derived.Laws.Pointers
import Derived.Maps.AppendAt
import Derived.Maps.Range
import Derived.OwnWalk
import Derived.Deep.Draws
import Derived.Deep.LoopGhost
import Derived.Deep.AppendLies
import Derived.Deep.RegionHeld3
namespace Go.Proofs.YtojgokiobdpclaaGreat
set_option linter.unusedVariables false
set_option linter.unusedSimpArgs false
set_option maxRecDepth 8000
set_option maxHeartbeats 8000000
section
open Go.RowKit
def At (w:World) (b:Nat) (t:TypeId) (cs:Array Value):Prop:=w.heap[b]? =some (.cells cs t (0,0))
def Put (w w':World) (b:Nat) (t:TypeId) (cs:Array Value):Prop:=At w' b t cs∧w.grownBy w' (some b)
section
variable {w w' w'':World} {b b':Nat} {t t':TypeId} {cs cs':Array Value}
theorem At.lt (h:At w b t cs):b<w.heap.size:=by
 rcases Nat.lt_or_ge b w.heap.size with hlt | hge
 ·exact hlt
 ·unfold At at h;rw[Array.getElem?_eq_none hge]at h;cases h
theorem At.cell (h:At w b t cs) (i:Nat):w.cell? ⟨b,i,none⟩=cs[i]? :=cell_of_row w b i cs t (0,0) h
theorem At.ce {w:World} {b:Nat} {t:TypeId} {cs:Array Value} {v:Value} {r:List Value} (h:At w b t cs) (i:Nat) (hv:cs.toList.drop i=v::r:=by rfl):w.cell? ⟨b,i,none⟩=some v:=(h.cell i).trans (by rw[←Array.getElem?_toList,←List.head?_drop,hv];rfl)
theorem At.free (h:At w b t cs) (i:Nat):w.frozen? ⟨b,i,none⟩=false:=by
 unfold At at h;simp[World.frozen?,h]
theorem At.made (w:World) (t:TypeId) (cs:Array Value):At (w.alloc (.cells cs t)) w.heap.size t cs:=heap_alloc_new w _
theorem At.kept {row:Option Nat} (h:At w b t cs) (hg:w.grownBy w' row) (hne:some b≠row):At w' b t cs:=(hg.block b h.lt hne).trans h
theorem At.drew (h:At w b t cs):At w.drew b t cs:=h
theorem At.far {u:Value} {p:Addr} (h:At w b t cs) (hne:b≠p.block):At (w.setCell p u) b t cs:=(Below.heap_setCell w p u b hne).trans h
theorem At.below {B:Nat} (h:At w b t cs) (hb:Below B w w') (hg:b<B):At w' b t cs:=(hb.block b hg).trans h
theorem At.set {u:Value} (h:At w b t cs) (i:Nat):At (w.setCell ⟨b,i,none⟩ u) b t (cs.setIfInBounds i u):=by
 unfold At at h ⊢;simp[World.setCell,Array.getElem?_modify,h]
theorem grown_set (w:World) (b i:Nat) (u:Value):w.grownBy (w.setCell ⟨b,i,none⟩ u) (some b):=
 ⟨rfl,rfl,rfl,by simp[World.setCell],fun k _ hne=>Below.heap_setCell w _ u k (fun e=>hne (by rw[e]))⟩
theorem by_drewN (w:World) (n:Nat) (row:Option Nat):w.grownBy (w.drewN n) row:=⟨rfl,rfl,rfl,Nat.le_refl _,fun _ _ _=>rfl⟩
theorem by_drew (w:World) (row:Option Nat):w.grownBy w.drew row:=⟨rfl,rfl,rfl,Nat.le_refl _,fun _ _ _=>rfl⟩
theorem Put.same (h:At w b t cs):Put w w b t cs:=⟨h,World.grownBy.refl w _⟩
theorem Put.set {u:Value} (h:At w b t cs) (i:Nat):Put w (w.setCell ⟨b,i,none⟩ u) b t (cs.setIfInBounds i u):=⟨h.set i,grown_set w b i u⟩
theorem Put.then_ (h:Put w w' b t cs) (h2:Put w' w'' b t cs'):Put w w'' b t cs':=⟨h2.1,h.2.trans h2.2⟩
theorem Put.other (h:Put w w' b t cs) (h2:At w b' t' cs') (hne:b'≠b):At w' b' t' cs':=h2.kept h.2 (by simpa using hne)
theorem Put.below {B:Nat} {v:World} (h:Put w w' b t cs) (hb:Below B v w) (hw:B≤w.heap.size) (hB:B≤b):Below B v w':=hb.grown h.2 hw (fun k hk=>by cases hk;exact hB)
theorem Put.size (h:Put w w' b t cs):w.heap.size≤w'.heap.size:=h.2.size
theorem Put.cell (h:Put w w' b t cs) {p:Addr} {v:Value} (hc:w.cell? p=some v) (hne:p.block≠b):w'.cell? p=some v:=h.2.cell hc (by simpa using hne)
end
def Own (w0 w:World) (b:Nat) (t:TypeId) (cs:Array Value):Prop:=At w b t cs∧Below w0.heap.size w0 w∧w0.heap.size≤b
section
variable {w0 w w':World} {b b':Nat} {t t':TypeId} {cs cs' cs'':Array Value}
theorem Own.put (h:Own w0 w b t cs) (p:Put w w' b t cs'):Own w0 w' b t cs':=⟨p.1,p.below h.2.1 h.2.1.size h.2.2,h.2.2⟩
theorem Own.below (h:Own w0 w b t cs) (hb:Below w.heap.size w w'):Own w0 w' b t cs:=⟨h.1.below hb h.1.lt,h.2.1.trans (hb.mono h.2.1.size),h.2.2⟩
theorem Own.other (h:Own w0 w b t cs) (p:Put w w' b' t' cs') (hne:b≠b') (hb:w0.heap.size≤b'):Own w0 w' b t cs:=⟨p.other h.1 hne,p.below h.2.1 h.2.1.size hb,h.2.2⟩
theorem Own.made (hb:Below w0.heap.size w0 w) (t:TypeId) (cs:Array Value):Own w0 (w.alloc (.cells cs t)) w.heap.size t cs:=⟨At.made _ _ _,hb.alloc hb.size _,hb.size⟩
theorem Own.alloc (h:Own w0 w b t cs) (o:Obj):Own w0 (w.alloc o) b t cs:=⟨h.1.kept (World.grownBy_alloc w o none) (by simp),h.2.1.alloc h.2.1.size _,h.2.2⟩
end
section
variable {w0 w w':World} {b:Nat} {t:TypeId} {cs:Array Value}
theorem Own.drew (h:Own w0 w b t cs):Own w0 w.drew b t cs:=⟨h.1,h.2.1.drew,h.2.2⟩
theorem Own.drewN (h:Own w0 w b t cs) (n:Nat):Own w0 (w.drewN n) b t cs:=⟨h.1,⟨h.2.1.os,h.2.1.tape,h.2.1.output,h.2.1.size,h.2.1.block⟩,h.2.2⟩
end
end
section
open Go.RowKit
section
variable {P:Program} {ops:Array Oper} {Q:Exit→Act→World→Prop} {md:Region.Mode} {S:World→Prop} {fuel k:Nat} {listed:Array Bool} {a:Act} {w:World} {oi:Oper} {rest:List Oper} {v:Value}
theorem op_at {i:Nat} (hd:ops.toList.drop i=oi::rest):ops[i]? =some oi:=by
 rw[←Array.getElem?_toList,←List.head?_drop,hd];rfl
theorem tkZ (i:Nat) (hd:ops.toList.drop i=oi::rest) (hy: ∀ w,S w→(execOp a.eval oi).run P w= .ok (.value v) w)
  (h:wpAnyH P md ops Q S fuel (listed.setIfInBounds i true) (a.put oi.dst v) w) (hS:S w) (hw:Region.wanted oi (yielded ops a.tmps)=true:=by rfl)
  (hs:Region.noSelect ops=true:=by kernel_rfl) (hf:Region.free md ops listed i=true:=by kernel_rfl) (hr:(Region.ready md ops listed).contains i=true:=by kernel_rfl)
  (hQ: ∀ c a w,Q (.panic c) (a.put oi.dst v) w→Q (.panic c) a w:=by exact fun _ _ _ h=>h):wpAnyH P md ops Q S (fuel+1) listed a w:=
 wpAnyH_take (op_at hd) hs hf hr hQ (.inl ⟨hw,hy⟩) hS h
theorem tnZ (i:Nat) (hd:ops.toList.drop i=oi::rest) (h:wpAnyH P md ops Q S fuel (listed.setIfInBounds i true) (a.put oi.dst undef) w) (hS:S w) (hw:Region.wanted oi (yielded ops a.tmps)=false:=by rfl)
  (hs:Region.noSelect ops=true:=by kernel_rfl) (hf:Region.free md ops listed i=true:=by kernel_rfl) (hr:(Region.ready md ops listed).contains i=true:=by kernel_rfl)
  (hQ: ∀ c a w,Q (.panic c) (a.put oi.dst undef) w→Q (.panic c) a w:=by exact fun _ _ _ h=>h):wpAnyH P md ops Q S (fuel+1) listed a w:=
 wpAnyH_take (op_at hd) hs hf hr hQ (.inr ⟨hw,rfl⟩) hS h
theorem rdZ (rs:List Nat) (h:AllReadyH P md ops Q S fuel listed a w rs) (hr:Region.ready md ops listed=rs:=by kernel_rfl) (hne:rs≠[]:=by simp):wpAnyH P md ops Q S (fuel+1) listed a w:=wpAnyH_ready hr hne h
theorem cnZ (i:Nat) {rs:List Nat} (hd:ops.toList.drop i=oi::rest)
  (h: ∀ K':Act→World→Prop,Shut (∀ a w,S w→(S w→wpAnyH P md ops Q S fuel (listed.setIfInBounds i true) a w)→K' a w)→if Region.wanted oi (yielded ops a.tmps)=true then Oper.wp P oi a w K' Q else K' (a.put oi.dst undef) w)
  (hs:AllReadyH P md ops Q S fuel listed a w rs):AllReadyH P md ops Q S fuel listed a w (i::rs):=AllReadyH.cons (op_at hd) h hs
theorem dnZ (h:Q .normal a w) (hr:Region.ready md ops listed=[]:=by kernel_rfl):wpAnyH P md ops Q S fuel listed a w:=wpAnyH_done hr h fuel
theorem zl {a':Act} (h:wpAnyH P md ops Q S fuel listed a' w) (ha:a=a':=by(try simp only[Act.put,List.setIfInBounds_toArray,List.set_cons_zero,List.set_cons_succ])<;>rfl):wpAnyH P md ops Q S fuel listed a w:=by subst ha;exact h
theorem zt (i:Nat) {a':Act} (h:wpAnyH P md ops Q S fuel (listed.setIfInBounds i true) a' w) (hS:S w:=by assumption) (hd:ops.toList.drop i=oi::rest:=by rfl)
  (hy: ∀ w,S w→(execOp a.eval oi).run P w= .ok (.value v) w:=by(intro wx hSw;(try dsimp only at hSw);go_simp;try with_reducible rfl))
  (ha:a.put oi.dst v=a':=by(try simp only[Act.put,List.setIfInBounds_toArray,List.set_cons_zero,List.set_cons_succ])<;>rfl) (hw:Region.wanted oi (yielded ops a.tmps)=true:=by rfl)
  (hs:Region.noSelect ops=true:=by kernel_rfl) (hf:Region.free md ops listed i=true:=by kernel_rfl) (hr:(Region.ready md ops listed).contains i=true:=by kernel_rfl)
  (hQ: ∀ c a w,Q (.panic c) (a.put oi.dst v) w→Q (.panic c) a w:=by exact fun _ _ _ h=>h):wpAnyH P md ops Q S (fuel+1) listed a w:=by
 subst ha;exact tkZ i hd hy h hS hw hs hf hr hQ
theorem zn (i:Nat) {a':Act} (h:wpAnyH P md ops Q S fuel (listed.setIfInBounds i true) a' w) (hS:S w:=by assumption) (hd:ops.toList.drop i=oi::rest:=by rfl)
  (ha:a.put oi.dst undef=a':=by(try simp only[Act.put,List.setIfInBounds_toArray,List.set_cons_zero,List.set_cons_succ])<;>rfl) (hw:Region.wanted oi (yielded ops a.tmps)=false:=by rfl)
  (hs:Region.noSelect ops=true:=by kernel_rfl) (hf:Region.free md ops listed i=true:=by kernel_rfl) (hr:(Region.ready md ops listed).contains i=true:=by kernel_rfl)
  (hQ: ∀ c a w,Q (.panic c) (a.put oi.dst undef) w→Q (.panic c) a w:=by exact fun _ _ _ h=>h):wpAnyH P md ops Q S (fuel+1) listed a w:=by
 subst ha;exact tnZ i hd h hS hw hs hf hr hQ
theorem zc (i:Nat) (h: ∀ K':Act→World→Prop,Shut (∀ a w,S w→(S w→wpAnyH P md ops Q S fuel (listed.setIfInBounds i true) a w)→K' a w)→if Region.wanted oi (yielded ops a.tmps)=true then Oper.wp P oi a w K' Q else K' (a.put oi.dst undef) w)
  (hd:ops.toList.drop i=oi::rest:=by rfl) (hr:Region.ready md ops listed=[i]:=by kernel_rfl):wpAnyH P md ops Q S (fuel+1) listed a w:=rdZ [i] (cnZ i hd h AllReadyH.nil) hr
def wpAnyK (P:Program) (md:Region.Mode) (ops:Array Oper) (Q:Exit→Act→World→Prop) (S:World→Prop) (k:Nat):Nat→Array Bool→Act→World→Prop
 | 0,listed,a,w=>Region.ready md ops listed=[]∧Q .normal a w
 | fuel+1,listed,a,w=>
  (Region.ready md ops listed=[]→Q .normal a w)∧
  ∀ i∈Region.ready md ops listed,wpOp P ops Q i (fun a' w'=>((listed.setIfInBounds i true).getD k true=false→S w')∧wpAnyK P md ops Q S k fuel (listed.setIfInBounds i true) a' w') a w
theorem wpAny_of_K: ∀(fuel:Nat) (listed:Array Bool) (a:Act) (w:World),wpAnyK P md ops Q S k fuel listed a w→wpAny P md ops Q fuel listed a w
 | 0,_,_,_,h=>h
 | fuel+1,_,_,_,h=>⟨h.1,fun i hi=>wpOp_mono (fun a' w' h'=>wpAny_of_K fuel _ a' w' h'.2) (h.2 i hi)⟩
theorem wpAnyK_first {i:Nat} (hi:ops[i]? =some oi) (hsel: ∀(j:Nat) (o:Oper) cs b,ops[j]? =some o→o.op≠ .select cs b)
  (hQ: ∀ c a w,Q (.panic c) (a.put oi.dst v) w→Q (.panic c) a w) (hik:i≠k) {T:World→Prop} (hT:(∀ w,T w)∨(T=S∧ ∃ ok e,ops[k]? =some ok∧e∈ok.after∧Region.binds md e=true∧e.on=i)):
  ∀(fuel:Nat) (listed:Array Bool) (a:Act) (w:World),
   (∀ j oj,ops[j]? =some oj→j≠i→listed.getD j true=false→(∀ e∈oj.after,Region.binds md e=true→e.on≠i)→oi.apart ops oj=true)→
   i∈Region.ready md ops listed→YieldsIf P ops T oi v a→((∀ w,T w)∨listed.getD k true=false)→(listed.getD k true=false→S w)→
   wpAnyK P md ops Q S k fuel (listed.setIfInBounds i true) (a.put oi.dst v) w→wpAnyK P md ops Q S k (fuel+1) listed a w:=by
 intro fuel;induction fuel with
 | zero=>
  intro listed a w _ hr hy hk hS H;have hTw:T w:=by
   rcases hT with h | ⟨rfl,_⟩
   ·exact h w
   ·rcases hk with h | h
    ·exact h w
    ·exact hS h
  refine⟨fun h=>(by rw[h]at hr;cases hr),fun j hj=> ?_⟩;by_cases hji:j=i
  ·subst hji;exact hy.wpOp hi hTw ⟨fun h=>hS (by rwa [getD_set_ne true hik]at h),H⟩
  ·have:=ready_mono hj hji
   rw[H.1]at this;cases this
 | succ fuel ih=>
  intro listed a w hfree hr hy hk hS H;have hTw:T w:=by
   rcases hT with h | ⟨rfl,_⟩
   ·exact h w
   ·rcases hk with h | h
    ·exact h w
    ·exact hS h
  refine⟨fun h=>(by rw[h]at hr;cases hr),fun j hj=> ?_⟩;by_cases hji:j=i
  ·subst hji;exact hy.wpOp hi hTw ⟨fun h=>hS (by rwa [getD_set_ne true hik]at h),H⟩
  ·have h1:=H.2 j (ready_mono hj hji)
   obtain⟨hjun,oj,hoj,hall⟩:=mem_ready.1 hj;have hnot: ∀ e∈oj.after,Region.binds md e=true→e.on≠i:=fun e he hb heq=>by
    have h1:=hall e he hb;have h0:=(mem_ready.1 hr).1;rw[heq]at h1;rcases Nat.lt_or_ge i listed.size with h' | h'
    ·simp[h']at h0 h1;rw[h0]at h1;cases h1
    ·simp[Array.getElem?_eq_none h']at h1
   have h2:=wpOp_putIf hoj (hfree j oj hoj hji hjun hnot) (fun cs b=>hsel i oi cs b hi) (fun cs b=>hsel j oj cs b hoj) hQ hy h1;have hfree': ∀ k ok,ops[k]? =some ok→k≠i→(listed.setIfInBounds j true).getD k true=false→
     (∀ e∈ok.after,Region.binds md e=true→e.on≠i)→oi.apart ops ok=true:=fun k ok hk hki hun hno=>by
    refine hfree k ok hk hki ?_ hno;by_cases hjk:j=k
    ·subst hjk;exact hjun
    ·rw[getD_set_ne true hjk]at hun;exact hun
   have hk':(∀ w,T w)∨(listed.setIfInBounds j true).getD k true=false:=by
    rcases hT with h | ⟨_,ok,e,hok,he,hb,hon⟩
    ·exact .inl h
    ·rcases hk with h | h
     ·exact .inl h
     ·refine .inr ?_
      by_cases hjk:j=k
      ·subst hjk
       rw[hoj]at hok;cases hok
       exact absurd hon (hnot e he hb)
      ·rw[getD_set_ne true hjk];exact h
   refine wpOp_mono (fun a' w' h3=> ?_) h2;have hS':(listed.setIfInBounds j true).getD k true=false→S w':=fun h=>h3.2.1 (by rw[Array.setIfInBounds_comm _ _ (Ne.symm hji),getD_set_ne true hik];exact h)
   refine⟨hS',ih (listed.setIfInBounds j true) a' w' hfree' (ready_mono hr (Ne.symm hji)) h3.1 hk' hS' ?_⟩;rw[Array.setIfInBounds_comm _ _ hji];exact h3.2.2
def waitsB (md:Region.Mode) (ops:Array Oper) (k i:Nat):Bool:=match ops[k]? with
 | none=>false
 | some ok=>ok.after.any fun e=>Region.binds md e&&e.on==i
theorem waitsB_spec {i:Nat} (h:waitsB md ops k i=true): ∃ ok e,ops[k]? =some ok∧e∈ok.after∧Region.binds md e=true∧e.on=i:=by
 unfold waitsB at h;split at h
 ·cases h
 ·rename_i ok hok
  rw[Array.any_eq_true']at h;obtain⟨e,he,h2⟩:=h;rw[Bool.and_eq_true]at h2;exact⟨ok,e,hok,he,h2.1,by simpa using h2.2⟩
theorem klZ (i:Nat) (hd:ops.toList.drop i=oi::rest) (hy: ∀ w,S w→(execOp a.eval oi).run P w= .ok (.value v) w)
  (h:wpAnyK P md ops Q S k fuel (listed.setIfInBounds i true) (a.put oi.dst v) w) (hS:S w) (hw:Region.wanted oi (yielded ops a.tmps)=true:=by rfl)
  (hk:listed.getD k true=false:=by kernel_rfl) (hkw:waitsB md ops k i=true:=by kernel_rfl) (hik:i≠k:=by decide)
  (hs:Region.noSelect ops=true:=by kernel_rfl) (hf:Region.free md ops listed i=true:=by kernel_rfl) (hr:(Region.ready md ops listed).contains i=true:=by kernel_rfl)
  (hQ: ∀ c a w,Q (.panic c) (a.put oi.dst v) w→Q (.panic c) a w:=by exact fun _ _ _ h=>h):wpAnyK P md ops Q S k (fuel+1) listed a w:=
 wpAnyK_first (op_at hd) (Region.noSelect_spec hs) hQ hik (.inr ⟨rfl,waitsB_spec hkw⟩) fuel listed a w (Region.free_spec (op_at hd) hf) (by simpa using hr) (.inl ⟨hw,hy⟩) (.inr hk) (fun _=>hS) h
theorem kpZ (i:Nat) (hd:ops.toList.drop i=oi::rest) (hy: ∀ w,(execOp a.eval oi).run P w= .ok (.value v) w)
  (h:wpAnyK P md ops Q S k fuel (listed.setIfInBounds i true) (a.put oi.dst v) w) (hS:S w) (hw:Region.wanted oi (yielded ops a.tmps)=true:=by rfl) (hik:i≠k:=by decide)
  (hs:Region.noSelect ops=true:=by kernel_rfl) (hf:Region.free md ops listed i=true:=by kernel_rfl) (hr:(Region.ready md ops listed).contains i=true:=by kernel_rfl)
  (hQ: ∀ c a w,Q (.panic c) (a.put oi.dst v) w→Q (.panic c) a w:=by exact fun _ _ _ h=>h):wpAnyK P md ops Q S k (fuel+1) listed a w:=
 wpAnyK_first (T:=fun _=>True) (op_at hd) (Region.noSelect_spec hs) hQ hik (.inl fun _=>trivial) fuel listed a w (Region.free_spec (op_at hd) hf) (by simpa using hr) (.inl ⟨hw,fun w _=>hy w⟩) (.inl fun _=>trivial) (fun _=>hS) h
theorem kqZ (i:Nat) (hd:ops.toList.drop i=oi::rest) (hy: ∀ w,(execOp a.eval oi).run P w= .ok (.value v) w)
  (h:wpAnyK P md ops Q S k fuel (listed.setIfInBounds i true) (a.put oi.dst v) w) (hw:Region.wanted oi (yielded ops a.tmps)=true:=by rfl) (hk:listed.getD k true=true:=by kernel_rfl) (hik:i≠k:=by decide)
  (hs:Region.noSelect ops=true:=by kernel_rfl) (hf:Region.free md ops listed i=true:=by kernel_rfl) (hr:(Region.ready md ops listed).contains i=true:=by kernel_rfl)
  (hQ: ∀ c a w,Q (.panic c) (a.put oi.dst v) w→Q (.panic c) a w:=by exact fun _ _ _ h=>h):wpAnyK P md ops Q S k (fuel+1) listed a w:=
 wpAnyK_first (T:=fun _=>True) (op_at hd) (Region.noSelect_spec hs) hQ hik (.inl fun _=>trivial) fuel listed a w (Region.free_spec (op_at hd) hf) (by simpa using hr) (.inl ⟨hw,fun w _=>hy w⟩) (.inl fun _=>trivial) (fun e=>by rw[hk]at e;cases e) h
def AllReadyK (P:Program) (md:Region.Mode) (ops:Array Oper) (Q:Exit→Act→World→Prop) (S:World→Prop) (k fuel:Nat) (listed:Array Bool) (a:Act) (w:World) (rs:List Nat):Prop:=
 ∀ i∈rs,wpOp P ops Q i (fun a' w'=>((listed.setIfInBounds i true).getD k true=false→S w')∧wpAnyK P md ops Q S k fuel (listed.setIfInBounds i true) a' w') a w
theorem kzZ:AllReadyK P md ops Q S k fuel listed a w []:=fun _ h=>by cases h
theorem krZ (rs:List Nat) (h:AllReadyK P md ops Q S k fuel listed a w rs) (hr:Region.ready md ops listed=rs:=by kernel_rfl) (hne:rs≠[]:=by simp):wpAnyK P md ops Q S k (fuel+1) listed a w:=
 ⟨fun h0=>absurd (hr▸h0) hne,hr▸h⟩
theorem kcZ (i:Nat) {rs:List Nat} (hd:ops.toList.drop i=oi::rest)
  (h: ∀ K':Act→World→Prop,Shut (∀ a w,S w→(S w→wpAnyK P md ops Q S k fuel (listed.setIfInBounds i true) a w)→K' a w)→if Region.wanted oi (yielded ops a.tmps)=true then Oper.wp P oi a w K' Q else K' (a.put oi.dst undef) w)
  (hs:AllReadyK P md ops Q S k fuel listed a w rs):AllReadyK P md ops Q S k fuel listed a w (i::rs):=fun j hj=>by
 rcases List.mem_cons.1 hj with rfl | hj
 ·exact wpOp_step (op_at hd) (fun K' hK=>h K' (fun a w hS hW=>hK a w ⟨fun _=>hS,hW hS⟩))
 ·exact hs j hj
theorem kbZ (i:Nat) {rs:List Nat} (hd:ops.toList.drop i=oi::rest)
  (h: ∀ K':Act→World→Prop,Shut (∀ a w,wpAnyK P md ops Q S k fuel (listed.setIfInBounds i true) a w→K' a w)→if Region.wanted oi (yielded ops a.tmps)=true then Oper.wp P oi a w K' Q else K' (a.put oi.dst undef) w)
  (hs:AllReadyK P md ops Q S k fuel listed a w rs) (hk:(listed.setIfInBounds i true).getD k true=true:=by kernel_rfl):AllReadyK P md ops Q S k fuel listed a w (i::rs):=fun j hj=>by
 rcases List.mem_cons.1 hj with rfl | hj
 ·exact wpOp_step (op_at hd) (fun K' hK=>h K' (fun a w hW=>hK a w ⟨fun e=>(by rw[hk]at e;cases e),hW⟩))
 ·exact hs j hj
theorem kdZ (h:Q .normal a w) (hr:Region.ready md ops listed=[]:=by kernel_rfl):wpAnyK P md ops Q S k fuel listed a w:=by
 cases fuel with
 | zero=>exact⟨hr,h⟩
 | succ n=>exact⟨fun _=>h,by rw[hr];simp⟩
theorem wp_region_K (k:Nat) (S:World→Prop) {id:Nat} (hS:S w.drew) (h:S w.drew→wpAnyK P .any ops Q S k ops.size (Array.replicate ops.size false) a w.drew)
  (hm:P.follows .mixedOrders=true:=by kernel_rfl):(Code.region id ops true).wp P Q a w:=
 wp_region_any hm (wpAny_of_K _ _ _ _ (h hS))
end
end
section
open Go.RowKit
def Tidy (w:World) (g:Nat→Nat):Prop:= ∀ b,w.heap.size≤b→g b=0
structure Chg (w w':World) (g g':Nat→Nat) (lo hi:Nat):Prop where
 os:w'.os=w.os
 tape:w'.tape=w.tape
 output:w'.output=w.output
 size:w.heap.size≤w'.heap.size
 tidy:Tidy w' g'
 old: ∀ b,b<w.heap.size→g' b=g b
 kept: ∀ b,b<w.heap.size→(g b<lo∨hi≤g b)→w'.heap[b]? =w.heap[b]?
def tagAt (g:Nat→Nat) (b i:Nat):Nat→Nat:=fun x=>if x=b then i else g x
theorem tagAt_same (g:Nat→Nat) (b i:Nat):tagAt g b i b=i:=by simp[tagAt]
theorem tagAt_ne (g:Nat→Nat) {b x:Nat} (i:Nat) (h:x≠b):tagAt g b i x=g x:=by simp[tagAt,h]
section
variable {w w' w'':World} {g g' g'':Nat→Nat} {lo hi lo' hi':Nat}
theorem Tidy.alloc (h:Tidy w g) (o:Obj):Tidy (w.alloc o) g:=fun b hb=>h b (by simp at hb;omega)
theorem Tidy.drew (h:Tidy w g):Tidy w.drew g:=h
theorem Tidy.drewN (h:Tidy w g) (n:Nat):Tidy (w.drewN n) g:=h
theorem Tidy.set (h:Tidy w g) (p:Addr) (u:Value):Tidy (w.setCell p u) g:=fun b hb=>h b (by simpa [World.setCell]using hb)
theorem Tidy.tag (h:Tidy w g) (o:Obj) (i:Nat):Tidy (w.alloc o) (tagAt g w.heap.size i):=fun b hb=>by
 simp at hb
 rw[tagAt_ne g i (by omega)];exact h b (by omega)
theorem Chg.refl (h:Tidy w g) (lo hi:Nat):Chg w w g g lo hi:=⟨rfl,rfl,rfl,Nat.le_refl _,h,fun _ _=>rfl,fun _ _ _=>rfl⟩
theorem Chg.trans (h:Chg w w' g g' lo hi) (h2:Chg w' w'' g' g'' lo hi):Chg w w'' g g'' lo hi:=
 ⟨h2.os.trans h.os,h2.tape.trans h.tape,h2.output.trans h.output,Nat.le_trans h.size h2.size,h2.tidy,
 fun b hb=>(h2.old b (Nat.lt_of_lt_of_le hb h.size)).trans (h.old b hb),
 fun b hb ht=>(h2.kept b (Nat.lt_of_lt_of_le hb h.size) (by rw[h.old b hb];exact ht)).trans (h.kept b hb ht)⟩
theorem Chg.mono (h:Chg w w' g g' lo hi) (h1:lo'≤lo) (h2:hi≤hi'):Chg w w' g g' lo' hi':=
 ⟨h.os,h.tape,h.output,h.size,h.tidy,h.old,fun b hb ht=>h.kept b hb (by rcases ht with ht | ht;exact .inl (by omega);exact .inr (by omega))⟩
theorem Chg.alloc (h:Chg w w' g g' lo hi) (o:Obj):Chg w (w'.alloc o) g g' lo hi:=
 ⟨h.os,h.tape,h.output,by have:=h.size;simp;omega,h.tidy.alloc o,h.old,fun b hb ht=>(heap_alloc_old w' o (Nat.lt_of_lt_of_le hb h.size)).trans (h.kept b hb ht)⟩
theorem Chg.tag (h:Chg w w' g g' lo hi) (o:Obj) (i:Nat):Chg w (w'.alloc o) g (tagAt g' w'.heap.size i) lo hi:=
 ⟨h.os,h.tape,h.output,by have:=h.size;simp;omega,h.tidy.tag o i,fun b hb=>by rw[tagAt_ne g' i (by have:=h.size;omega)];exact h.old b hb,
 fun b hb ht=>(heap_alloc_old w' o (Nat.lt_of_lt_of_le hb h.size)).trans (h.kept b hb ht)⟩
theorem Chg.drew (h:Chg w w' g g' lo hi):Chg w w'.drew g g' lo hi:=⟨h.os,h.tape,h.output,h.size,h.tidy,h.old,h.kept⟩
theorem Chg.drewN (h:Chg w w' g g' lo hi) (n:Nat):Chg w (w'.drewN n) g g' lo hi:=⟨h.os,h.tape,h.output,h.size,h.tidy,h.old,h.kept⟩
theorem Chg.by (h:Chg w w' g g' lo hi) {row:Option Nat} (hg:w'.grownBy w'' row) (hr: ∀ b,row=some b→b<w.heap.size→lo≤g b∧g b<hi):Chg w w'' g g' lo hi:=
 ⟨hg.os.trans h.os,hg.tape.trans h.tape,hg.output.trans h.output,Nat.le_trans h.size hg.size,fun b hb=>h.tidy b (Nat.le_trans hg.size hb),h.old,fun b hb ht=>by
  refine(hg.block b (Nat.lt_of_lt_of_le hb h.size) fun e=> ?_).trans (h.kept b hb ht);have:=hr b e.symm hb;omega⟩
theorem Chg.put {b:Nat} {t:TypeId} {cs:Array Value} (h:Chg w w' g g' lo hi) (p:Put w' w'' b t cs) (hb:b<w.heap.size→lo≤g b∧g b<hi):Chg w w'' g g' lo hi:=
 h.by p.2 fun k hk hlt=>by cases hk;exact hb hlt
theorem Chg.below (h:Chg w w' g g' lo hi) (hb:Below w'.heap.size w' w''):Chg w w'' g g' lo hi:=
 ⟨hb.os.trans h.os,hb.tape.trans h.tape,hb.output.trans h.output,Nat.le_trans h.size hb.size,fun b hb'=>h.tidy b (Nat.le_trans hb.size hb'),h.old,
 fun b hb' ht=>(hb.block b (Nat.lt_of_lt_of_le hb' h.size)).trans (h.kept b hb' ht)⟩
theorem Chg.set (h:Chg w w' g g' lo hi) {b i:Nat} (hb:b<w.heap.size→lo≤g b∧g b<hi) (u:Value):Chg w (w'.setCell ⟨b,i,none⟩ u) g g' lo hi:=
 h.by (grown_set w' b i u) fun k hk hlt=>by cases hk;exact hb hlt
theorem Chg.plain (h:Chg w w' g g' lo hi) (h0: ∀ b,g b<lo):Below w.heap.size w w':=
 ⟨h.os,h.tape,h.output,h.size,fun b hb=>h.kept b hb (.inl (h0 b))⟩
theorem At.chg {b:Nat} {t:TypeId} {cs:Array Value} (h:At w b t cs) (c:Chg w w' g g' lo hi) (hg:g b<lo∨hi≤g b):At w' b t cs:=(c.kept b h.lt hg).trans h
def Of (w:World) (g:Nat→Nat) (i b:Nat) (t:TypeId) (cs:Array Value):Prop:=At w b t cs∧g b=i
variable {i b:Nat} {t:TypeId} {cs cs':Array Value}
theorem Of.chg (h:Of w g i b t cs) (c:Chg w w' g g' lo hi) (hi':i<lo∨hi≤i):Of w' g' i b t cs:=⟨h.1.chg c (by rw[h.2];exact hi'),(c.old b h.1.lt).trans h.2⟩
theorem Of.put (h:Of w g i b t cs) (p:Put w w' b t cs'):Of w' g i b t cs':=⟨p.1,h.2⟩
theorem Of.alloc (h:Of w g i b t cs) (o:Obj):Of (w.alloc o) g i b t cs:=⟨h.1.kept (World.grownBy_alloc w o none) (by simp),h.2⟩
theorem Of.below (h:Of w g i b t cs) (hb:Below w.heap.size w w'):Of w' g i b t cs:=⟨h.1.below hb h.1.lt,h.2⟩
theorem Of.other (h:Of w g i b t cs) {row:Option Nat} (hg:w.grownBy w' row) (hne:some b≠row):Of w' g i b t cs:=⟨h.1.kept hg hne,h.2⟩
theorem Of.made (w:World) (g:Nat→Nat) (i:Nat) (t:TypeId) (cs:Array Value):Of (w.alloc (.cells cs t)) (tagAt g w.heap.size i) i w.heap.size t cs:=⟨At.made w t cs,tagAt_same _ _ _⟩
theorem Of.tag (h:Of w g i b t cs) (o:Obj) (k:Nat):Of (w.alloc o) (tagAt g w.heap.size k) i b t cs:=
 ⟨h.1.kept (World.grownBy_alloc w o none) (by simp),by rw[tagAt_ne g k (by have:=h.1.lt;omega)];exact h.2⟩
end
end
end Go.Proofs.YtojgokiobdpclaaGreat
