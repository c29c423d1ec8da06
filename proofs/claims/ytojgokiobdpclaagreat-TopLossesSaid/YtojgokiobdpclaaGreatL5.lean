import Derived.Test.YtojgokiobdpclaaGreatL4
namespace Go.Proofs.YtojgokiobdpclaaGreat
set_option linter.unusedVariables false
set_option linter.unusedSimpArgs false
set_option maxRecDepth 8000
set_option maxHeartbeats 8000000
section
open Go.RowKit Go.Lib Go.ChangeShapes Go.WideShapes Go.Deep
theorem some_of {α:Type} {P:Nat→α→Prop}: ∀ n,(∀ k,k<n→ ∃ d,P k d)→ ∃ ds:List α,ds.length=n∧ ∀ k d,ds[k]? =some d→P k d
 | 0,_=>⟨[],rfl,fun k d h=>by simp at h⟩
 | n+1,h=>by
  obtain⟨ds,h1,h2⟩:=some_of n (fun k hk=>h k (by omega));obtain⟨d,hd⟩:=h n (by omega);refine⟨ds++[d],by simp[h1],fun k e he=> ?_⟩;rcases Nat.lt_trichotomy k n with hk | hk | hk
  ·rw[List.getElem?_append_left (by omega)]at he
   exact h2 k e he
  ·subst hk
   rw[List.getElem?_append_right (by omega),h1,Nat.sub_self]at he;simp at he
   rw[←he];exact hd
  ·rw[List.getElem?_eq_none (by simp;omega)]at he
   cases he
section
variable {H:Type} {enc:TypeId×Value→H} {w:World} {base:Nat} {spare:Nat→Bool} {held:Bool}
theorem ints_of {n:Nat} {v:Value} {x:DataW H×List MemPlace} (h:DataW.trod enc Tryz.prog w base spare held n 39 [v]=some x) (g:Nat→Nat) (hg: ∀ b,g b=0): ∃ xs:List Int,RdZ w g v 1 xs.length (xs.map fun x=>Value.int .i64 x):=by
 have nil: ∀ v,(∃ a c,v=Value.slice a 0 c)→ ∃ xs:List Int,RdZ w g v 1 xs.length (xs.map fun x=>Value.int .i64 x):=fun v ⟨a,c,hv⟩=>
  ⟨[],⟨rfl, .inl ⟨⟨a,c,hv⟩,rfl⟩⟩,fun a m c hv h=>absurd h (Nat.lt_irrefl 0)⟩
 rcases open_slice Tryz.underlying39 h with⟨h0,_⟩ | ⟨q,len,cap,m,k,D,Pl,hcs,hb,hl,hm,_⟩
 ·simp only[List.cons.injEq,and_true]at h0
  exact nil v ⟨_,_,h0⟩
 ·simp only[List.cons.injEq,and_true]at hcs
  subst hcs;obtain⟨_,hs⟩:=slice_elems 1 Tryz.underlying39 (by kernel_rfl) (by decide) (fun n cs x h=>by obtain⟨x,e,_⟩:=DataW.trod_int Tryz.underlying3 h;rw[e];rfl) h;rcases Nat.eq_zero_or_pos len with rfl | hp
  ·exact nil _ ⟨_,_,rfl⟩
  ·obtain⟨b,off,e,hbl,hc⟩:=hs hp
   cases e
   obtain⟨xs,e1,e2⟩:=some_of (P:=fun k (x:Int)=>w.cell? ⟨b,off+k,none⟩=some (.int .i64 x)) len (fun k hk=>by
    obtain⟨cs,_,_,hln,hcl,ht⟩:=hc k hk;obtain⟨x,e,_⟩:=DataW.trod_int Tryz.underlying3 ht;have h0:=hcl 0 (by decide);rw[e,Nat.mul_one]at h0;exact⟨x,h0⟩)
   subst e1;refine⟨xs,⟨by simp, .inr ⟨b,off,cap,rfl,hbl,hl,hm,fun j hj=> ?_⟩⟩,fun a m c hv h=> ?_⟩
   ·have hx:xs[j]? =some xs[j]:=List.getElem?_eq_getElem (by omega)
    rw[List.getElem?_map,hx,e2 j _ hx];rfl
   ·cases hv
    exact⟨hbl,hg _⟩
theorem bools_of {n:Nat} {v:Value} {x:DataW H×List MemPlace} (h:DataW.trod enc Tryz.prog w base spare held n 61 [v]=some x) (g:Nat→Nat) (hg: ∀ b,g b=0): ∃ xs:List Bool,RdZ w g v 1 xs.length (xs.map Value.bool):=by
 have nil: ∀ v,(∃ a c,v=Value.slice a 0 c)→ ∃ xs:List Bool,RdZ w g v 1 xs.length (xs.map Value.bool):=fun v ⟨a,c,hv⟩=>
  ⟨[],⟨rfl, .inl ⟨⟨a,c,hv⟩,rfl⟩⟩,fun a m c hv h=>absurd h (Nat.lt_irrefl 0)⟩
 rcases open_slice Tryz.underlying61 h with⟨h0,_⟩ | ⟨q,len,cap,m,k,D,Pl,hcs,hb,hl,hm,_⟩
 ·simp only[List.cons.injEq,and_true]at h0
  exact nil v ⟨_,_,h0⟩
 ·simp only[List.cons.injEq,and_true]at hcs
  subst hcs;obtain⟨_,hs⟩:=slice_elems 1 Tryz.underlying61 (by kernel_rfl) (by decide) (fun n cs x h=>by obtain⟨x,e,_⟩:=DataW.trod_bool Tryz.underlying4 h;rw[e];rfl) h;rcases Nat.eq_zero_or_pos len with rfl | hp
  ·exact nil _ ⟨_,_,rfl⟩
  ·obtain⟨b,off,e,hbl,hc⟩:=hs hp
   cases e
   obtain⟨xs,e1,e2⟩:=some_of (P:=fun k (x:Bool)=>w.cell? ⟨b,off+k,none⟩=some (.bool x)) len (fun k hk=>by
    obtain⟨cs,_,_,hln,hcl,ht⟩:=hc k hk;obtain⟨x,e,_⟩:=DataW.trod_bool Tryz.underlying4 ht;have h0:=hcl 0 (by decide);rw[e,Nat.mul_one]at h0;exact⟨x,h0⟩)
   subst e1;refine⟨xs,⟨by simp, .inr ⟨b,off,cap,rfl,hbl,hl,hm,fun j hj=> ?_⟩⟩,fun a m c hv h=> ?_⟩
   ·have hx:xs[j]? =some xs[j]:=List.getElem?_eq_getElem (by omega)
    rw[List.getElem?_map,hx,e2 j _ hx];rfl
   ·cases hv
    exact⟨hbl,hg _⟩
end
end
end Go.Proofs.YtojgokiobdpclaaGreat
