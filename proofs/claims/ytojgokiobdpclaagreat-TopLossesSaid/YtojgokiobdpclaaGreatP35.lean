import Derived.Test.YtojgokiobdpclaaGreatP33
namespace Go.Proofs.YtojgokiobdpclaaGreat
set_option linter.unusedVariables false
set_option linter.unusedSimpArgs false
set_option maxRecDepth 8000
set_option maxHeartbeats 8000000
section
open Go.RowKit Go.Lib Go.Shelf
theorem sgl_all (l:List SG): ∀ u∈l.flatMap sgl,u.oneCell'=true:=by
 intro u hu;rw[List.mem_flatMap]at hu;obtain⟨x,_,hx⟩:=hu;exact sgl_one x u hx
theorem Rd.grown {w w':World} {v:Value} {size n:Nat} {xs:List Value} (h:Rd w v size n xs) {row:Option Nat} (hg:w.grownBy w' row) (hne: ∀ k,v.ownBlock=some k→row≠some k):Rd w' v size n xs:=by
 refine⟨h.1, ?_⟩;rcases h.2 with hn | ⟨b,off,cap,h1,h2,h3,h4,h5⟩
 ·exact .inl hn
 ·subst h1
  exact .inr ⟨b,off,cap,rfl,Nat.lt_of_lt_of_le h2 hg.size,h3,h4,fun j hj=>(World.cell?_of_block (hg.block b h2 (fun e=>hne b rfl e.symm))).trans (h5 j hj)⟩
theorem Sli.rdn {w:World} {g:Nat→Nat} {i:Nat} {e:TypeId} {v:Value} {l:List SG} (h:Sli w g i e 5 v l.length (l.flatMap sgl)):Rd w v 5 l.length (l.flatMap sgl)∧(l=[]→v= .slice none 0 0∨ ∃ b off cap,v= .slice (some ⟨b,off,none⟩) 0 cap∧b<w.heap.size∧cap≤maxLen):=
 ⟨h.rd,fun e=>by
  subst e;rcases h.form with⟨h1,_⟩ | ⟨b,off,cap,h1,_,h3,_,h5⟩
  ·exact .inl h1
  ·exact .inr ⟨b,off,cap,h1,h3,h5⟩⟩
theorem clone_any (v:Value) (l:List SG) (hl:l.length≤100000) (w:World) (g:Nat→Nat) (hT:Tidy w g) (h:Rd w v 5 l.length (l.flatMap sgl)∧(l=[]→v= .slice none 0 0∨ ∃ b off cap,v= .slice (some ⟨b,off,none⟩) 0 cap∧b<w.heap.size∧cap≤maxLen)):
  Calls Tryz.prog 68 #[v] w fun e w'=> ∃ v',e= .returned v'∧Sli w' g 0 48 5 v' l.length (l.flatMap sgl)∧Below w.heap.size w w'∧ ∀ k,v'.ownBlock=some k→w.heap.size≤k:=by
 obtain⟨i0,HI⟩:=infoSG;have h6:(v= .slice none 0 0∧l.length=0)∨ ∃ b off cap,v= .slice (some ⟨b,off,none⟩) l.length cap∧b<w.heap.size∧l.length≤cap∧cap≤maxLen∧ ∀ j,j<l.length*5→w.cell? ⟨b,off+j,none⟩=(l.flatMap sgl)[j]? :=by
  rcases h.1.2 with⟨_,h0⟩ | h0
  ·rcases h.2 (List.eq_nil_of_length_eq_zero h0)with e | ⟨b,off,cap,e,h1,h2⟩
   ·exact .inl ⟨e,h0⟩
   ·exact .inr ⟨b,off,cap,by rw[h0];exact e,h1,by omega,h2,fun j hj=>by omega⟩
  ·exact .inr h0
 replace h:=h.1;rcases h6 with⟨rfl,hn⟩ | ⟨b,off,cap,rfl,h2,h3,h4,h5⟩
 ·have:=AnyE.slices_Clone_nil Tryz.l68 0 0 w
  change Calls Tryz.prog 68 _ _ _ at this
  have hl0:l=[]:=List.eq_nil_of_length_eq_zero hn;subst hl0;refine this.mono ?_;rintro e w' ⟨rfl,rfl⟩;exact⟨_,rfl,Sli.nil _ _ _ _ _,Below.refl _ _,fun k hk=>by simp[Value.ownBlock]at hk⟩
 ·have:=AnyE.slices_Clone Tryz.l68 i0 (.agg #[.int .i64 0, .int .u64 0, .int .i64 0, .int .u64 0, .bool false]) 5 40 HI.out.1 HI.out.2.1 HI.out.2.2.1 HI.out.2.2.2 rfl (by decide) (fun w=>show(Go.sizeOf 48).run Tryz.prog w= .ok 5 w from by simp[sizeOf,typeInfo,HI.out.1,HI.out.2.2.1]) b off l.length cap (l.flatMap sgl) w h.1 (by unfold maxLen;omega) (by omega)
   (fun j u hu=>by
    have hj:=(List.getElem?_eq_some_iff.1 hu).1;rw[h.1]at hj;rw[h5 j hj,hu])
   (sgl_all l)
  change Calls Tryz.prog 68 _ _ _ at this
  refine this.mono ?_;rintro e w' ⟨v',rfl,hO,_,hB⟩;exact⟨v',rfl,Sli.of_own hO (fun k hk=>hT k (hO.lt k hk).1),hB,fun k hk=>(hO.lt k hk).1⟩
def closeQ (q:FQ) (s:Nat) (f:FL):FQ:={ q with fl:=putF q.fl s none,fresh:=delL q.fresh s,old:=delL q.old s,waits:=if placeQ q s=3 then q.waits.erase (timeF f,s)else q.waits,n:=q.n-f.segs.length }
theorem delL_none {l:List Nat} {s:Nat} (h:s ∉ l):delL l s=l:=by
 unfold delL;rw[List.filter_eq_self];intro x hx;have:x≠s:=by rintro rfl;exact h hx
 simp[this]
theorem place_three {q:FQ} {s:Nat} {f:FL} (hf:q.fl s=some f) (h:placeQ q s=3):placeL q.fresh q.old s=0∧f.segs≠[]:=by
 unfold placeQ at h;split at h
 ·rename_i hne
  exfalso
  unfold placeL at h;split at h
  ·split at h<;>omega
  ·omega
 ·rename_i hne
  rw[hf]at h;simp only at h
  split at h
  ·omega
  ·rename_i hs
   exact⟨Decidable.not_not.1 hne,hs⟩
theorem wait_mem {q:FQ} (h:q.inv) {s:Nat} (hs:s<8) {f:FL} (hf:q.fl s=some f) (hp:placeL q.fresh q.old s=0) (hne:f.segs≠[]):(timeF f,s)∈q.waits:=by
 have:=h.seg s f hs hf hne;unfold FQ.all at this;rw[place_zero]at hp;simp only[List.mem_append,List.mem_map]at this;rcases this with(h1 | h1) | ⟨k,hk,rfl⟩
 ·exact absurd h1 hp.1
 ·exact absurd h1 hp.2
 ·obtain⟨f',hf',_,ht⟩:=h.wt k hk
  rw[hf]at hf';cases hf'
  rw[←ht];exact hk
end
section
open Go.RowKit Go.Lib
theorem place_none {q:FQ} {s:Nat} (h:placeQ q s=0):s ∉ q.fresh∧s ∉ q.old:=by
 refine place_zero.1 ?_;unfold placeQ at h;split at h
 ·omega
 ·rename_i hne;exact Decidable.not_not.1 hne
theorem place_segs {q:FQ} {s:Nat} {f:FL} (hf:q.fl s=some f) (h:placeQ q s=0):f.segs=[]:=by
 unfold placeQ at h;rw[hf]at h;split at h
 ·omega
 ·simp only at h
  split at h
  ·assumption
  ·omega
theorem place_wait {q:FQ} (hi:q.inv) {s:Nat} (h:placeQ q s=0):s ∉ q.all:=by
 unfold FQ.all;obtain⟨h1,h2⟩:=place_none h;simp only[List.mem_append,List.mem_map];rintro((h3 | h3) | ⟨k,hk,rfl⟩)
 ·exact h1 h3
 ·exact h2 h3
 ·obtain⟨f,hf,hne,_⟩:=hi.wt k hk
  exact hne (place_segs hf h)
theorem idle_place {q:FQ} {s long now:Nat} (h:idleQ q s long now=true): ∃ f,q.fl s=some f∧placeQ q s=0∧satAdd f.since long≤now:=by
 unfold idleQ at h;split at h
 ·cases h
 ·rename_i f hf
  rw[Bool.and_eq_true]at h;exact⟨f,hf,of_decide_eq_true h.1,of_decide_eq_true h.2⟩
theorem colQ_fl (q:FQ) (now i s:Nat):(colQ q now i).fl s=if s<i∧idleQ q s 3000000000 now=true then none else q.fl s:=rfl
theorem colQ_keep {q:FQ} (hi:q.inv) {now i s:Nat} {f:FL} (hf:q.fl s=some f) (h:s∈q.all∨f.segs≠[]):(colQ q now i).fl s=some f:=by
 rw[colQ_fl,if_neg,hf];rintro⟨_,h2⟩;obtain⟨f',hf',hp,_⟩:=idle_place h2;rcases h with h | h
 ·exact place_wait hi hp h
 ·exact h (place_segs hf hp)
theorem colQ_lens {q:FQ} (now i s:Nat):lens (colQ q now i).fl s=lens q.fl s:=by
 unfold lens;rw[colQ_fl];by_cases h:s<i∧idleQ q s 3000000000 now=true
 ·rw[if_pos h]
  obtain⟨f,hf,hp,_⟩:=idle_place h.2;rw[hf];simp only
  rw[place_segs hf hp];rfl
 ·rw[if_neg h]
theorem colQ_inv {q:FQ} (h:q.inv) (now i:Nat):(colQ q now i).inv:=by
 refine⟨⟨h.ok.nd,h.ok.lt⟩,h.cf,fun s f hf=>h.fl s f (colQ_some hf),fun s hs=> ?_, ?_,h.lim,fun k hk=> ?_,fun s f h8 hf hne=>h.seg s f h8 (colQ_some hf) hne⟩
 ·obtain⟨f,hf⟩:=h.there s hs
  exact⟨f,colQ_keep h hf (.inl hs)⟩
 ·show q.n=_
  rw[h.tot];unfold tot;simp only[colQ_lens]
 ·obtain⟨f,hf,hne,ht⟩:=h.wt k hk
  exact⟨f,colQ_keep h hf (.inr hne),hne,ht⟩
theorem all_fresh {q:FQ} (h:q.ok) {s:Nat} (hs:s ∉ q.all) (hs8:s<8):((q.fresh++[s])++q.old++q.waits.map (·.2)).Nodup∧(∀ x∈(q.fresh++[s])++q.old++q.waits.map (·.2),x<8)∧ ∀ x,x∈(q.fresh++[s])++q.old++q.waits.map (·.2)↔x=s∨x∈q.all:=by
 have hp:((q.fresh++[s])++q.old++q.waits.map (·.2)).Perm (s::q.all):=by
  unfold FQ.all;rw[show(q.fresh++[s])++q.old++q.waits.map (·.2)=q.fresh++s::(q.old++q.waits.map (·.2))from by simp];rw[List.append_assoc q.fresh];exact List.perm_middle
 refine⟨hp.nodup_iff.2 (List.nodup_cons.2 ⟨hs,h.nd⟩),fun x hx=> ?_,fun x=>by rw[hp.mem_iff,List.mem_cons]⟩;rw[hp.mem_iff,List.mem_cons]at hx;rcases hx with rfl | hx
 ·exact hs8
 ·exact h.lt x hx
theorem inv_fresh {q:FQ} (h:q.inv) {s:Nat} (hs8:s<8) (hs:s ∉ q.all) (hl:lens q.fl s=0) {f:FL} (hf:f.ok) (he:f.segs=[]):({ q with fl:=putF q.fl s (some f),fresh:=q.fresh++[s] }:FQ).inv:=by
 obtain⟨a1,a2,a3⟩:=all_fresh h.ok hs hs8;have htp:=tot_put q.fl hs8 (some f);simp only[he,List.length_nil]at htp;refine⟨⟨a1,a2⟩,h.cf,fun k f' hf'=> ?_,fun k hk=> ?_, ?_,h.lim,fun k hk=> ?_,fun k f' h8 hf' hne=> ?_⟩
 ·by_cases e:k=s
  ·subst e
   rw[show({ q with fl:=putF q.fl k (some f),fresh:=q.fresh++[k] }:FQ).fl k=_ from putF_at _ _ _]at hf';cases hf'
   exact hf
  ·exact h.fl k f' (by rw[←hf'];exact(putF_ne _ _ e).symm)
 ·rcases(a3 k).1 hk with rfl | hk
  ·exact⟨f,putF_at _ _ _⟩
  ·by_cases e:k=s
   ·exact⟨f,by rw[e];exact putF_at _ _ _⟩
   ·obtain⟨f',hf'⟩:=h.there k hk
    exact⟨f',(putF_ne _ _ e).trans hf'⟩
 ·show q.n=tot (putF q.fl s (some f))
  have:=h.tot;omega
 ·obtain⟨f',hf',h2,h3⟩:=h.wt k hk
  have e:k.2≠s:=fun e=>hs (by rw[←e];unfold FQ.all;exact List.mem_append_right _ (List.mem_map_of_mem hk))
  exact⟨f',(putF_ne _ _ e).trans hf',h2,h3⟩
 ·by_cases e:k=s
  ·subst e
   rw[show({ q with fl:=putF q.fl k (some f),fresh:=q.fresh++[k] }:FQ).fl k=_ from putF_at _ _ _]at hf';cases hf'
   exact absurd he hne
  ·exact(a3 k).2 (.inr (h.seg k f' h8 (by rw[←hf'];exact(putF_ne _ _ e).symm) hne))
theorem wakeQ_inv {q:FQ} (h:q.inv) {s:Nat} (hs8:s<8) (now:Nat):(wakeQ q s now).inv:=by
 unfold wakeQ;cases hf:q.fl s with
 | none=>
  refine inv_fresh h hs8 (fun hm=> ?_) (by unfold lens;rw[hf]) ?_ rfl
  ·obtain⟨f,hf'⟩:=h.there s hm
   rw[hf]at hf';cases hf'
  ·have:=h.cf.f2
   exact⟨by show-65536≤(q.c.first:Int);omega,by show(q.c.first:Int)≤65536;omega,by show 0<_;omega,by show 0<_;omega,by simp⟩
 | some f=>
  simp only
  split
  ·exact h
  ·rename_i hp
   have hp0:placeQ q s=0:=Decidable.not_not.1 hp;have he:=place_segs hf hp0;have hfo:=h.fl s f hf;refine inv_fresh h hs8 (place_wait h hp0) (by unfold lens;rw[hf];simp[he]) ?_ he;have hq:=h.cf.q2;have hc:=hfo.c1;have hc2:=hfo.c2;refine⟨?_, ?_,hfo.nx,by show 0<_;omega,hfo.sg⟩
   ·show-65536≤(if _ then _ else _:Int)
    split
    ·exact Int.le_trans hc (Int.le_max_left _ _)
    ·exact hc
   ·show(if _ then _ else _:Int)≤65536
    split
    ·exact Int.max_le.2 ⟨hc2,by omega⟩
    ·exact hc2
theorem wakeQ_all {q:FQ} (h:q.inv) {s:Nat} (hs8:s<8) (now:Nat):s∈(wakeQ q s now).all:=by
 unfold wakeQ;cases hf:q.fl s with
 | none=>unfold FQ.all;simp
 | some f=>
  simp only
  split
  ·rename_i hp
   by_cases hl:placeL q.fresh q.old s=0
   ·unfold placeQ at hp
    rw[hl,hf]at hp;simp only[ne_eq,not_true_eq_false,if_false]at hp;split at hp
    ·exact absurd rfl hp
    ·rename_i hne
     exact h.seg s f hs8 hf hne
   ·have: ¬(s ∉ q.fresh∧s ∉ q.old):=fun h=>hl (place_zero.2 h)
    unfold FQ.all;simp only[List.mem_append];by_cases h1:s∈q.fresh
    ·exact .inl (.inl h1)
    ·exact .inl (.inr (Decidable.not_not.1 fun h2=>this ⟨h1,h2⟩))
  ·unfold FQ.all;simp
theorem timeF_app (f:FL) (x:SG) (h:f.segs≠[]):timeF { f with segs:=f.segs++[x] }=timeF f:=by
 unfold timeF;cases hs:f.segs with
 | nil=>exact absurd hs h
 | cons y r=>rfl
theorem appQ_inv {q:FQ} (h:q.inv) {x:SG} (hx:x.ok) {f:FL} (hf:q.fl x.sock=some f) (hm:x.sock∈q.all) (hn:q.n<512):(appQ q x).inv:=by
 have hs8:=hx.s;have hfo:=h.fl _ f hf;have e0:appQ q x={ q with fl:=putF q.fl x.sock (some { f with segs:=f.segs++[x] }),n:=q.n+1 }:=by unfold appQ;rw[hf]
 rw[e0];have htp:=tot_put q.fl hs8 (some { f with segs:=f.segs++[x] });have hl:lens q.fl x.sock=f.segs.length:=by unfold lens;rw[hf]
 simp only[List.length_append,List.length_cons,List.length_nil]at htp;refine⟨⟨h.ok.nd,h.ok.lt⟩,h.cf,fun k f' hf'=> ?_,fun k hk=> ?_, ?_,by show q.n+1≤512;omega,fun k hk=> ?_,fun k f' h8 hf' hne=> ?_⟩
 ·by_cases e:k=x.sock
  ·subst e
   have hf2:putF q.fl x.sock (some { f with segs:=f.segs++[x] }) x.sock=some f':=hf';rw[putF_at]at hf2;cases hf2
   exact⟨hfo.c1,hfo.c2,hfo.nx,hfo.si,fun y hy=>by
    rcases List.mem_append.1 hy with hy | hy
    ·exact hfo.sg y hy
    ·rw[List.mem_singleton]at hy;rw[hy];exact hx⟩
  ·exact h.fl k f' (by rw[←hf'];exact(putF_ne _ _ e).symm)
 ·by_cases e:k=x.sock
  ·exact⟨_,by rw[e];exact putF_at _ _ _⟩
  ·obtain⟨f',hf'⟩:=h.there k hk
   exact⟨f',(putF_ne _ _ e).trans hf'⟩
 ·show q.n+1=tot (putF q.fl x.sock (some { f with segs:=f.segs++[x] }))
  have:=h.tot;omega
 ·obtain⟨f',hf',h2,h3⟩:=h.wt k hk
  by_cases e:k.2=x.sock
  ·rw[e,hf]at hf'
   cases hf'
   exact⟨{ f with segs:=f.segs++[x] },by rw[e];exact putF_at _ _ _,by simp,by rw[timeF_app f x h2];exact h3⟩
  ·exact⟨f',(putF_ne _ _ e).trans hf',h2,h3⟩
 ·by_cases e:k=x.sock
  ·rw[e];exact hm
  ·exact h.seg k f' h8 (by rw[←hf'];exact(putF_ne _ _ e).symm) hne
theorem fate_zero {q:FQ} {x:SG} {now:Nat} (h:(fateF q x now).1=0):q.n<q.c.limit∧(fateF q x now).2={ x with stamp:=min x.stamp (satAdd now q.c.horizon) }:=by
 have key: ∀(z:Bool) (h:(if q.c.limit≤q.n then((2:Nat),x)else if z=true then(3,x)else if satAdd now q.c.horizon<x.stamp∧q.c.drop=true then(4,x)else(0,{ x with stamp:=min x.stamp (satAdd now q.c.horizon) })).1=0),q.n<q.c.limit∧(if q.c.limit≤q.n then((2:Nat),x)else if z=true then(3,x)else if satAdd now q.c.horizon<x.stamp∧q.c.drop=true then(4,x)else(0,{ x with stamp:=min x.stamp (satAdd now q.c.horizon) })).2={ x with stamp:=min x.stamp (satAdd now q.c.horizon) }:=by
  intro z h;by_cases h1:q.c.limit≤q.n
  ·rw[if_pos h1]at h;cases h
  ·rw[if_neg h1]at h ⊢
   by_cases h2:z=true
   ·rw[if_pos h2]at h;cases h
   ·rw[if_neg h2]at h ⊢
    by_cases h3:satAdd now q.c.horizon<x.stamp∧q.c.drop=true
    ·rw[if_pos h3]at h;cases h
    ·rw[if_neg h3];exact⟨by omega,rfl⟩
 exact key _ h
theorem wakeQ_c (q:FQ) (s now:Nat):(wakeQ q s now).c=q.c:=by
 unfold wakeQ;cases hf:q.fl s with
 | none=>rfl
 | some f=>simp only;split<;>rfl
theorem enqF_inv {q:FQ} (h:q.inv) {x:SG} (hx:x.ok) (now:Nat):(enqF q x now).2.inv:=by
 have h1:=colQ_inv h now 8;unfold enqF;split
 ·rename_i h0
  obtain⟨f1,f2⟩:=fate_zero h0;have h2:=wakeQ_inv h1 hx.s now;obtain⟨f,hf,_⟩:=wakeQ_fl (colQ q now 8) x.sock now;simp only
  rw[f2];have hst:=hx.st;refine appQ_inv h2 (x:={ x with stamp:=min x.stamp (satAdd now (colQ q now 8).c.horizon) }) ⟨hx.s,hx.l1,hx.l2,by show min _ _<_;omega,hx.fr⟩ hf (wakeQ_all h1 hx.s now) ?_;rw[wakeQ_n];have:=h1.cf.l2;omega
 ·exact h1
theorem enqF_c (q:FQ) (x:SG) (now:Nat):(enqF q x now).2.c=q.c:=by
 unfold enqF;split
 ·simp only
  unfold appQ;split
  ·rw[wakeQ_c];rfl
  ·show(wakeQ _ _ _).c=_
   rw[wakeQ_c];rfl
 ·rfl
theorem enqF_n {q:FQ} {x:SG} {now:Nat} (h0:(enqF q x now).1=0):(enqF q x now).2.n=q.n+1∧q.n<q.c.limit:=by
 unfold enqF at h0 ⊢;split
 ·rename_i h1
  obtain⟨f1,f2⟩:=fate_zero h1;obtain⟨f,hf,_⟩:=wakeQ_fl (colQ q now 8) x.sock now;simp only
  rw[f2];refine⟨?_,f1⟩;unfold appQ;simp only
  rw[hf];show(wakeQ _ _ _).n+1=_
  rw[wakeQ_n];rfl
 ·rename_i h1
  rw[if_neg h1]at h0;exact absurd h0 h1
theorem all_close {q:FQ} (h:q.inv) {s:Nat} (hs8:s<8) {f:FL} (hf:q.fl s=some f):(closeQ q s f).ok∧ ∀ x,x∈(closeQ q s f).all↔x∈q.all∧x≠s:=by
 have hnd:=h.ok.nd;by_cases hp:placeQ q s=3
 ·obtain⟨p1,p2⟩:=place_three hf hp
  have hm:=wait_mem h hs8 hf p1 p2;obtain⟨z1,z2⟩:=place_zero.1 p1;have hperm:=List.perm_cons_erase hm;have hw:(q.waits.map (·.2)).Perm (s::(q.waits.erase (timeF f,s)).map (·.2)):=hperm.map _;have e1:(closeQ q s f).fresh=q.fresh:=delL_none z1;have e2:(closeQ q s f).old=q.old:=delL_none z2;have e3:(closeQ q s f).waits=q.waits.erase (timeF f,s):=if_pos hp;have hall:q.all.Perm (s::(closeQ q s f).all):=by
   unfold FQ.all;rw[e1,e2,e3];exact(List.Perm.append_left _ hw).trans List.perm_middle
  have hn2:=List.nodup_cons.1 (hall.nodup_iff.1 h.ok.nd);have hmem: ∀ x,x∈(closeQ q s f).all↔x∈q.all∧x≠s:=fun x=>by
   rw[hall.mem_iff,List.mem_cons];constructor
   ·intro hx
    exact⟨.inr hx,by rintro rfl;exact hn2.1 hx⟩
   ·rintro⟨rfl | hx,hne⟩
    ·exact absurd rfl hne
    ·exact hx
  exact⟨⟨hn2.2,fun x hx=>h.ok.lt x ((hmem x).1 hx).1⟩,hmem⟩
 ·have e3:(closeQ q s f).waits=q.waits:=if_neg hp
  have hsw:s ∉ q.waits.map (·.2):=by
   intro hm;rw[List.mem_map]at hm;obtain⟨k,hk,rfl⟩:=hm;obtain⟨f',hf',hne,_⟩:=h.wt k hk;have hnd2:=hnd;rw[List.nodup_append]at hnd2;have hap: ∀ a∈q.fresh++q.old,a≠k.2:=fun a ha e=>hnd2.2.2 a ha k.2 (List.mem_map_of_mem hk) e
   have hz:placeL q.fresh q.old k.2=0:=place_zero.2 ⟨fun hm=>hap _ (List.mem_append_left _ hm) rfl,fun hm=>hap _ (List.mem_append_right _ hm) rfl⟩;apply hp
   unfold placeQ;rw[hz,hf'];simp only[ne_eq,not_true_eq_false,if_false];rw[if_neg hne]
  have e4:(closeQ q s f).all=q.all.filter (fun x=> !decide (x=s)):=by
   unfold FQ.all;rw[e3,List.filter_append,List.filter_append];have:(q.waits.map (·.2)).filter (fun x=> !decide (x=s))=q.waits.map (·.2):=by
    rw[List.filter_eq_self];intro x hx;have:x≠s:=by rintro rfl;exact hsw hx
    simp[this]
   rw[this];rfl
  have hmem: ∀ x,x∈(closeQ q s f).all↔x∈q.all∧x≠s:=fun x=>by rw[e4,List.mem_filter];simp
  have hnd:(closeQ q s f).all.Nodup:=by rw[e4];exact List.Pairwise.filter _ h.ok.nd
  exact⟨⟨hnd,fun x hx=>h.ok.lt x ((hmem x).1 hx).1⟩,hmem⟩
theorem closeQ_inv {q:FQ} (h:q.inv) {s:Nat} (hs8:s<8) {f:FL} (hf:q.fl s=some f):(closeQ q s f).inv:=by
 obtain⟨a1,a2⟩:=all_close h hs8 hf;have htp:=tot_put q.fl hs8 none;have hl:lens q.fl s=f.segs.length:=by unfold lens;rw[hf]
 have hle:=lens_le q.fl hs8;have ht:=h.tot;simp only at htp
 refine⟨a1,h.cf,fun k f' hf'=> ?_,fun k hk=> ?_, ?_, ?_,fun k hk=> ?_,fun k f' h8 hf' hne=> ?_⟩
 ·by_cases e:k=s
  ·subst e
   rw[show(closeQ q k f).fl k=_ from putF_at _ _ _]at hf';cases hf'
  ·exact h.fl k f' (by rw[←hf'];exact(putF_ne _ _ e).symm)
 ·obtain⟨h1,h2⟩:=(a2 k).1 hk
  obtain⟨f',hf'⟩:=h.there k h1;exact⟨f',(putF_ne _ _ h2).trans hf'⟩
 ·show q.n-f.segs.length=tot (putF q.fl s none)
  omega
 ·have:=h.lim
  show q.n-f.segs.length≤512
  omega
 ·have hk2:k.2≠s:=((a2 k.2).1 (by unfold FQ.all;exact List.mem_append_right _ (List.mem_map_of_mem hk))).2
  have hkw:k∈q.waits:=by
   have:k∈(if placeQ q s=3 then q.waits.erase (timeF f,s)else q.waits):=hk;split at this
   ·exact List.mem_of_mem_erase this
   ·exact this
  obtain⟨f',hf',h2,h3⟩:=h.wt k hkw;exact⟨f',(putF_ne _ _ hk2).trans hf',h2,h3⟩
 ·by_cases e:k=s
  ·subst e
   rw[show(closeQ q k f).fl k=_ from putF_at _ _ _]at hf';cases hf'
  ·exact(a2 k).2 ⟨h.seg k f' h8 (by rw[←hf'];exact(putF_ne _ _ e).symm) hne,e⟩
theorem setQ_inv {q:FQ} (h:q.inv) {c:CF} (hc:c.ok):({ q with c:=c }:FQ).inv:=⟨⟨h.ok.nd,h.ok.lt⟩,hc,h.fl,h.there,h.tot,h.lim,h.wt,h.seg⟩
end
section
open Go.RowKit Go.Lib Go.Shelf
theorem fqclose_none (b s:Nat) (hs:s<8) (fp:Nat→Option Nat) (bl bt:Nat) (q:FQ) (hf:q.fl s=none) (g:Nat→Nat) (T:Nat) (w:World) (h:FqIn w g T b fp bl bt q):
  Calls Tryz.prog 96 #[.pointer (some ⟨b,0,none⟩), .int .i64 s] w fun e w'=>e= .returned (.slice none 0 0)∧w=w':=by
 have CH:=zH (fqhas_any b s hs fp bl bt q g T w h);rw[hf]at CH;clear h hf;go_enter Tryz.func96,Tryz.ntmps96
 go_wp2_with fail
 refine CH.out.mono ?_;rintro e w1 ⟨rfl,rfl⟩;go_wp2_with fail
 go_ret
 exact⟨rfl,rfl⟩
theorem fqclose_some (b s:Nat) (hs:s<8) (fp:Nat→Option Nat) (bl bt:Nat) (q:FQ) (hi:q.inv) (f:FL) (hf:q.fl s=some f) (g:Nat→Nat) (T:Nat) (hT0:0<T) (w:World) (hT:Tidy w g) (h:FqIn w g T b fp bl bt q):
  Calls Tryz.prog 96 #[.pointer (some ⟨b,0,none⟩), .int .i64 s] w fun e w'=> ∃ v',e= .returned v'∧ ∃ g' fp',Chg w w' g g' T (T+25)∧FqIn w' g' T b fp' bl bt (closeQ q s f)∧Sli w' g' 0 48 5 v' f.segs.length (f.segs.flatMap sgl):=by
 have hlen:=hi.ok.len;have CH:=zH (fqhas_any b s hs fp bl bt q g T w h);rw[hf]at CH;have CP:=zH (fqplace_any b s hs fp bl bt q (by omega) (by omega) g T w h);rcases h.one hs with⟨_,e2⟩ | ⟨p,f2,hp,hf2,hfl⟩
 ·rw[hf]at e2;cases e2
 rw[hf]at hf2;cases hf2
 have cs:=h.flow hs;rw[hp]at cs;simp only[pval,Option.map_some]at cs;have hs8':(s:Int)<8:=by omega
 have hle:f.segs.length≤q.n:=by
  have:=lens_le q.fl hs;rw[←hi.tot]at this;unfold lens at this;rw[hf]at this;exact this
 have hlim:=hi.lim;have hap: ∀ k,k∈q.waits→k.2 ∉ q.fresh∧k.2 ∉ q.old:=by
  intro k hk;have hnd:=hi.ok.nd;rw[List.nodup_append]at hnd;have hm:=List.mem_map_of_mem (f:=(·.2)) hk;exact⟨fun h=>hnd.2.2 _ (List.mem_append_left _ h) _ hm rfl,fun h=>hnd.2.2 _ (List.mem_append_right _ h) _ hm rfl⟩
 unfold closeQ;obtain⟨pl,epl⟩: ∃ z,placeQ q s=z:=⟨_,rfl⟩;rw[epl]at CP ⊢;have HI:=zH hi;have HF:=zH hf;have HP:=zH hp;have HH:=zH h;have HT:=zH hT;have HFL:=zH hfl;have HPL:=zH epl;have HAP:=zH hap;clear hi hf hp h hT hfl epl hap;have REST:Hid (∀(w4:World) (g4:Nat→Nat) (fr od:List Nat) (ws:List KY),Chg w w4 g g4 T (T+25)→FqIn w4 g4 T b fp bl bt { q with fresh:=fr,old:=od,waits:=ws }→
   w4.cell? ⟨b,9+s,none⟩=some (.pointer (some ⟨p,0,none⟩))∧w4.frozen? ⟨b,9+s,none⟩=false∧FlAt w4 g4 (T+1+2*s) (some p) (some f)):=by
  refine zH fun w4 g4 fr od ws hC hN=> ?_
  have c:=hN.flow hs;rw[HP.out]at c;have hl:=hN.fls s hs;dsimp only at hl
  rw[HP.out,HF.out]at hl;exact⟨c,hN.own.1.free _,hl⟩
 by_cases h3:pl=3
 ·subst h3
  obtain⟨p0,hne⟩:=place_three HF.out HPL.out;have hwm:=wait_mem HI.out hs HF.out p0 hne;have hfr:=HAP.out _ hwm;rw[if_pos rfl,delL_none hfr.1,delL_none hfr.2];have CK:=zH (fun w' hl=>fqkey_any p f hne s hs g (T+1+2*s) w' hl);have CD:=zH (fun w'=>rbdelete_any bt (timeF f,s) q.waits hwm g (T+20) (by omega) w');have CR:=zH (fun g' w'=>lsremove_no bl s q.fresh q.old (by omega) (by omega) g' (T+17) w');have HP0:=zH p0;clear p0 hne hwm hfr;go_enter Tryz.func96,Tryz.ntmps96
  go_wp2_with fail
  refine CH.out.mono ?_;rintro e w1 ⟨rfl,rfl⟩;go_wp2_with fail
  refine CP.out.mono ?_;rintro e w1 ⟨rfl,hB⟩;have N1:=HH.out.below hB;have d18:=N1.own.1.ce 18;have F1:=zH (HFL.out.below hB);have C1:=zH ((Chg.refl HT.out T (T+25)).below hB);have HN1:=zH N1;clear hB N1;go_wp2_with fail
  refine wp_region_held_drew (S:=fun wq=>wq.cell? ⟨b,18,none⟩=some (.pointer (some ⟨bt,0,none⟩))) (by kernel_rfl) d18 (fun hHeld=> ?_);refine zt 0 ?_;refine zt 1 ?_;refine zt 2 ?_;refine zt 3 ?_;refine zt 4 ?_;refine zt 5 ?_;refine zc 6 (fun K hK=> ?_);go_simp;refine(CK.out _ (F1.out.below (Below.drew (Below.refl _ _)))).mono ?_;rintro e w5 ⟨rfl,hB5⟩;have N5:=(HN1.out.drewN 1).below hB5;have C5:=(C1.out.drew).below hB5;have q18:w5.cell? ⟨b,18,none⟩=some (.pointer (some ⟨bt,0,none⟩)):=N5.own.1.cell 18;refine hK.out _ _ ?_ (fun hHeld=> ?_);focus exact q18
  clear hK K;refine zl ?_;refine zc 7 (fun K hK=> ?_);go_simp;refine(CD.out w5 C5.tidy N5.tr).mono ?_;rintro e w6 ⟨g6,rfl,C6,T6⟩;have N6:=N5.tree_ C6 T6;have q18':w6.cell? ⟨b,18,none⟩=some (.pointer (some ⟨bt,0,none⟩)):=N6.own.1.cell 18;refine hK.out _ _ ?_ (fun hHeld=> ?_);focus exact q18'
  clear hK K;refine zl ?_;refine dnZ ?_;have d17:=N6.own.1.ce 17;have HN6:=zH N6;have HC6:=zH (C5.trans (C6.mono (by omega) (by omega)));clear C5 N5 C6 T6 N6 hB5 q18 q18' hHeld;go_wp2_with fail
  refine(CR.out g6 _ HN6.out.ls HP0.out).mono ?_;rintro e w7 ⟨rfl,hB⟩;have HXN:=zH (HN6.out.below hB);have HXC:=zH (HC6.out.below hB);clear hB;obtain⟨r1,r2,r3⟩:=REST.out _ _ _ _ _ HXC.out HXN.out;have gb:=HXN.out.own.2;have N8:=HXN.out.put_ hT0 hs none none (.pointer none) rfl trivial;have HN8:=zH N8;have HC8:=zH (HXC.out.set (b:=b) (i:=9+s) (fun hb=>by have:=HXC.out.old b hb;omega) (.pointer none));have HF8:=zH (r3.other (grown_set _ b (9+s) (.pointer none)) (fun k hk=>by cases hk;omega));clear N8 r3;go_upto_region 8 with fail
  refine wp_named (fun W=>FqIn W g6 T b (putF fp s none) bl bt _∧Chg w W g g6 T (T+25)∧FlAt W g6 (T+1+2*s) (some p) (some f)) ⟨HN8.out,HC8.out,HF8.out⟩ (fun W hW=> ?_);obtain⟨NW,CW,FW⟩:=hW;clear HN8 HC8 HF8 r1 r2;obtain⟨v,k1,k2⟩:=FW;obtain⟨sa,scap,rfl,_⟩:=k2.cap_;have e3:=k1.1.ce 3;have e19:=NW.own.1.ce 19;have f19:=NW.own.1.free 19;have gb2:=NW.own.2;have N9:=NW.n_ hT0 (q.n-f.segs.length) ((q.n:Int)-f.segs.length) (by omega);have HN9:=zH N9;have HC9:=zH (CW.set (b:=b) (i:=19) (fun hb=>by have:=CW.old b hb;omega) (.int .i64 ((q.n:Int)-f.segs.length)));have HF9:=zH ((show FlAt W g6 (T+1+2*s) (some p) (some f)from⟨_,k1,k2⟩).other (grown_set _ b 19 (.int .i64 ((q.n:Int)-f.segs.length))) (fun k hk=>by cases hk;omega));clear NW CW k1 k2 N9;go_region
  refine q_named (fun W=>FqIn W g6 T b (putF fp s none) bl bt _∧Chg w W g g6 T (T+25)∧FlAt W g6 (T+1+2*s) (some p) (some f)) ⟨HN9.out.drewN _,HC9.out.drewN _,HF9.out.below (Drn.below ⟨_,rfl⟩)⟩ (fun W9 hW=> ?_);obtain⟨NW,CW,FW⟩:=hW;clear HN9 HC9 HF9 e3 e19 f19;obtain⟨v,k1,k2⟩:=FW;obtain⟨sa,scap,rfl,_⟩:=k2.cap_;have e3:=k1.1.ce 3;have CL:=zH (clone_any _ f.segs (by omega) W9 g6 CW.tidy k2.rdn);have HNW:=zH NW;have HCW:=zH CW;clear NW CW k1 k2;go_wp2_with fail
  refine CL.out.mono ?_;rintro e w10 ⟨v',rfl,hS,hB,_⟩;have HS:=zH hS;have HN10:=zH (HNW.out.below hB);have HC10:=zH (HCW.out.below hB);clear hS hB;go_wp2_with fail
  go_ret
  refine⟨v',rfl,g6,putF fp s none,HC10.out, ?_,HS.out⟩;exact HN10.out
 ·have hne:((pl:Int)==3)=false:=by rw[beq_eq_false_iff_ne];omega
  rw[if_neg h3];clear h3;by_cases hz:placeL q.fresh q.old s=0
  ·have CR:=zH (fun g' w'=>lsremove_no bl s q.fresh q.old (by omega) (by omega) g' (T+17) w')
   have hz':=place_zero.1 hz;rw[delL_none hz'.1,delL_none hz'.2];have HZ:=zH hz;clear hz hz';go_enter Tryz.func96,Tryz.ntmps96
   go_wp2_with fail
   refine CH.out.mono ?_;rintro e w1 ⟨rfl,rfl⟩;go_wp2_with fail
   refine CP.out.mono ?_;rintro e w1 ⟨rfl,hB⟩;have N1:=HH.out.below hB;have d17:=N1.own.1.ce 17;have C1:=zH ((Chg.refl HT.out T (T+25)).below hB);have HN1:=zH N1;clear hB N1;go_wp2_with fail
   refine(CR.out g _ HN1.out.ls HZ.out).mono ?_;rintro e w7 ⟨rfl,hB⟩;have HXN:=zH (HN1.out.below hB);have HXC:=zH (C1.out.below hB);clear hB;obtain⟨r1,r2,r3⟩:=REST.out _ _ _ _ _ HXC.out HXN.out;have gb:=HXN.out.own.2;have N8:=HXN.out.put_ hT0 hs none none (.pointer none) rfl trivial;have HN8:=zH N8;have HC8:=zH (HXC.out.set (b:=b) (i:=9+s) (fun hb=>by have:=HXC.out.old b hb;omega) (.pointer none));have HF8:=zH (r3.other (grown_set _ b (9+s) (.pointer none)) (fun k hk=>by cases hk;omega));clear N8 r3;go_upto_region 8 with fail
   refine wp_named (fun W=>FqIn W g T b (putF fp s none) bl bt _∧Chg w W g g T (T+25)∧FlAt W g (T+1+2*s) (some p) (some f)) ⟨HN8.out,HC8.out,HF8.out⟩ (fun W hW=> ?_);obtain⟨NW,CW,FW⟩:=hW;clear HN8 HC8 HF8 r1 r2;obtain⟨v,k1,k2⟩:=FW;obtain⟨sa,scap,rfl,_⟩:=k2.cap_;have e3:=k1.1.ce 3;have e19:=NW.own.1.ce 19;have f19:=NW.own.1.free 19;have gb2:=NW.own.2;have N9:=NW.n_ hT0 (q.n-f.segs.length) ((q.n:Int)-f.segs.length) (by omega);have HN9:=zH N9;have HC9:=zH (CW.set (b:=b) (i:=19) (fun hb=>by have:=CW.old b hb;omega) (.int .i64 ((q.n:Int)-f.segs.length)));have HF9:=zH ((show FlAt W g (T+1+2*s) (some p) (some f)from⟨_,k1,k2⟩).other (grown_set _ b 19 (.int .i64 ((q.n:Int)-f.segs.length))) (fun k hk=>by cases hk;omega));clear NW CW k1 k2 N9;go_region
   refine q_named (fun W=>FqIn W g T b (putF fp s none) bl bt _∧Chg w W g g T (T+25)∧FlAt W g (T+1+2*s) (some p) (some f)) ⟨HN9.out.drewN _,HC9.out.drewN _,HF9.out.below (Drn.below ⟨_,rfl⟩)⟩ (fun W9 hW=> ?_);obtain⟨NW,CW,FW⟩:=hW;clear HN9 HC9 HF9 e3 e19 f19;obtain⟨v,k1,k2⟩:=FW;obtain⟨sa,scap,rfl,_⟩:=k2.cap_;have e3:=k1.1.ce 3;have CL:=zH (clone_any _ f.segs (by omega) W9 g CW.tidy k2.rdn);have HNW:=zH NW;have HCW:=zH CW;clear NW CW k1 k2;go_wp2_with fail
   refine CL.out.mono ?_;rintro e w10 ⟨v',rfl,hS,hB,_⟩;have HS:=zH hS;have HN10:=zH (HNW.out.below hB);have HC10:=zH (HCW.out.below hB);clear hS hB;go_wp2_with fail
   go_ret
   refine⟨v',rfl,g,putF fp s none,HC10.out, ?_,HS.out⟩;exact HN10.out
  ·have CR:=zH (fun g' w'=>lsremove_yes bl s q.fresh q.old (by omega) (by omega) g' (T+17) (by omega) w')
   have HZ:=zH hz;clear hz;go_enter Tryz.func96,Tryz.ntmps96
   go_wp2_with fail
   refine CH.out.mono ?_;rintro e w1 ⟨rfl,rfl⟩;go_wp2_with fail
   refine CP.out.mono ?_;rintro e w1 ⟨rfl,hB⟩;have N1:=HH.out.below hB;have d17:=N1.own.1.ce 17;have C1:=zH ((Chg.refl HT.out T (T+25)).below hB);have HN1:=zH N1;clear hB N1;go_wp2_with fail
   refine(CR.out g _ C1.out.tidy HN1.out.ls HZ.out).mono ?_;rintro e w7 ⟨rfl,g7,C7,L7⟩;have HXN:=zH (HN1.out.lists_ C7 L7);have HXC:=zH (C1.out.trans (C7.mono (by omega) (by omega)));clear C7 L7;obtain⟨r1,r2,r3⟩:=REST.out _ _ _ _ _ HXC.out HXN.out;have gb:=HXN.out.own.2;have N8:=HXN.out.put_ hT0 hs none none (.pointer none) rfl trivial;have HN8:=zH N8;have HC8:=zH (HXC.out.set (b:=b) (i:=9+s) (fun hb=>by have:=HXC.out.old b hb;omega) (.pointer none));have HF8:=zH (r3.other (grown_set _ b (9+s) (.pointer none)) (fun k hk=>by cases hk;omega));clear N8 r3;go_upto_region 8 with fail
   refine wp_named (fun W=>FqIn W g7 T b (putF fp s none) bl bt _∧Chg w W g g7 T (T+25)∧FlAt W g7 (T+1+2*s) (some p) (some f)) ⟨HN8.out,HC8.out,HF8.out⟩ (fun W hW=> ?_);obtain⟨NW,CW,FW⟩:=hW;clear HN8 HC8 HF8 r1 r2;obtain⟨v,k1,k2⟩:=FW;obtain⟨sa,scap,rfl,_⟩:=k2.cap_;have e3:=k1.1.ce 3;have e19:=NW.own.1.ce 19;have f19:=NW.own.1.free 19;have gb2:=NW.own.2;have N9:=NW.n_ hT0 (q.n-f.segs.length) ((q.n:Int)-f.segs.length) (by omega);have HN9:=zH N9;have HC9:=zH (CW.set (b:=b) (i:=19) (fun hb=>by have:=CW.old b hb;omega) (.int .i64 ((q.n:Int)-f.segs.length)));have HF9:=zH ((show FlAt W g7 (T+1+2*s) (some p) (some f)from⟨_,k1,k2⟩).other (grown_set _ b 19 (.int .i64 ((q.n:Int)-f.segs.length))) (fun k hk=>by cases hk;omega));clear NW CW k1 k2 N9;go_region
   refine q_named (fun W=>FqIn W g7 T b (putF fp s none) bl bt _∧Chg w W g g7 T (T+25)∧FlAt W g7 (T+1+2*s) (some p) (some f)) ⟨HN9.out.drewN _,HC9.out.drewN _,HF9.out.below (Drn.below ⟨_,rfl⟩)⟩ (fun W9 hW=> ?_);obtain⟨NW,CW,FW⟩:=hW;clear HN9 HC9 HF9 e3 e19 f19;obtain⟨v,k1,k2⟩:=FW;obtain⟨sa,scap,rfl,_⟩:=k2.cap_;have e3:=k1.1.ce 3;have CL:=zH (clone_any _ f.segs (by omega) W9 g7 CW.tidy k2.rdn);have HNW:=zH NW;have HCW:=zH CW;clear NW CW k1 k2;go_wp2_with fail
   refine CL.out.mono ?_;rintro e w10 ⟨v',rfl,hS,hB,_⟩;have HS:=zH hS;have HN10:=zH (HNW.out.below hB);have HC10:=zH (HCW.out.below hB);clear hS hB;go_wp2_with fail
   go_ret
   refine⟨v',rfl,g7,putF fp s none,HC10.out, ?_,HS.out⟩;exact HN10.out
end
end Go.Proofs.YtojgokiobdpclaaGreat
