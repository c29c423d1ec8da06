import Derived.Test.YtojgokiobdpclaaGreatQ2
namespace Go.Proofs.YtojgokiobdpclaaGreat
set_option linter.unusedVariables false
set_option linter.unusedSimpArgs false
set_option maxRecDepth 8000
set_option maxHeartbeats 8000000
section
open Go.RowKit Go.Lib
structure PaI (q:FQ) (now:Nat) (nx:Nat→Nat):Prop where
 no: ∀ s,s<8→q.fl s=none→nx s≤now
 so: ∀ s f,s<8→q.fl s=some f→nx s≤max f.next now
 soon: ∀ s f,s<8→q.fl s=some f→f.next≤now+1000000000
 idle: ∀ s f,s<8→q.fl s=some f→s ∉ q.all→f.next≤f.since+1000000000
 own: ∀ s f,s<8→q.fl s=some f→ ∀ x∈f.segs,x.sock=s
theorem PaI.later {q:FQ} {now n':Nat} {nx:Nat→Nat} (h:PaI q now nx) (hn:now≤n'):PaI q n' nx:=
 ⟨fun s h8 hf=>Nat.le_trans (h.no s h8 hf) hn,fun s f h8 hf=>by have:=h.so s f h8 hf;omega,fun s f h8 hf=>by have:=h.soon s f h8 hf;omega,h.idle,h.own⟩
theorem PaI.as {q q':FQ} {now:Nat} {nx:Nat→Nat} (h:PaI q now nx) (hf:q'.fl=q.fl) (ha: ∀ x,x∈q'.all↔x∈q.all):PaI q' now nx:=
 ⟨fun s h8 h1=>h.no s h8 (by rw[←hf];exact h1),fun s f h8 h1=>h.so s f h8 (by rw[←hf];exact h1),fun s f h8 h1=>h.soon s f h8 (by rw[←hf];exact h1),fun s f h8 h1 h2=>h.idle s f h8 (by rw[←hf];exact h1) (fun h3=>h2 ((ha s).2 h3)),fun s f h8 h1=>h.own s f h8 (by rw[←hf];exact h1)⟩
theorem PaI.put_ {q q':FQ} {now:Nat} {nx nx':Nat→Nat} (h:PaI q now nx) {s:Nat} {f:FL} (hf:q'.fl=putF q.fl s (some f)) (ha: ∀ x,x≠s→x∈q.all→x∈q'.all) (hx: ∀ k,k≠s→nx' k=nx k)
  (h1:nx' s≤max f.next now) (h2:f.next≤now+1000000000) (h3:s ∉ q'.all→f.next≤f.since+1000000000) (h4: ∀ x∈f.segs,x.sock=s):PaI q' now nx':=by
 have key: ∀ k,q'.fl k=if k=s then some f else q.fl k:=fun k=>by rw[hf];rfl
 refine⟨fun k h8 hk=> ?_,fun k f' h8 hk=> ?_,fun k f' h8 hk=> ?_,fun k f' h8 hk hn=> ?_,fun k f' h8 hk=> ?_⟩;all_goals rw[key]at hk
 all_goals by_cases e:k=s
 all_goals first | rw[if_pos e]at hk | rw[if_neg e]at hk
 ·cases hk
 ·rw[hx k e];exact h.no k h8 hk
 ·cases hk;subst e;exact h1
 ·rw[hx k e];exact h.so k f' h8 hk
 ·cases hk;exact h2
 ·exact h.soon k f' h8 hk
 ·cases hk;subst e;exact h3 hn
 ·exact h.idle k f' h8 hk (fun h5=>hn (ha k e h5))
 ·cases hk;subst e;exact h4
 ·exact h.own k f' h8 hk
theorem satAdd_le (a b:Nat):satAdd a b≤a+b:=by unfold satAdd;split<;>omega
theorem colQ_pa {q:FQ} (hi:q.inv) {now:Nat} (hn:now≤4611686018427387904) {nx:Nat→Nat} (h:PaI q now nx) (i:Nat):PaI (colQ q now i) now nx:=by
 have key: ∀ k,(colQ q now i).fl k=if k<i∧idleQ q k 3000000000 now=true then none else q.fl k:=fun k=>rfl
 have ha: ∀ k,k∈(colQ q now i).all↔k∈q.all:=fun k=>Iff.rfl
 refine⟨fun k h8 hk=> ?_,fun k f' h8 hk=> ?_,fun k f' h8 hk=> ?_,fun k f' h8 hk hn=> ?_,fun k f' h8 hk=> ?_⟩
 ·rw[key]at hk
  by_cases e:k<i∧idleQ q k 3000000000 now=true
  ·obtain⟨f,hf,hp,ht⟩:=idle_place e.2
   have h1:=h.so k f h8 hf;have h2:=h.idle k f h8 hf (place_wait hi hp);unfold satAdd at ht;split at ht<;>omega
  ·rw[if_neg e]at hk;exact h.no k h8 hk
 ·exact h.so k f' h8 (colQ_some hk)
 ·exact h.soon k f' h8 (colQ_some hk)
 ·exact h.idle k f' h8 (colQ_some hk) hn
 ·exact h.own k f' h8 (colQ_some hk)
theorem wakeQ_pa {q:FQ} {now:Nat} {nx:Nat→Nat} (h:PaI q now nx) {s:Nat} (hs:s<8):PaI (wakeQ q s now) now nx:=by
 have hm: ∀ f:FL,s∈({ q with fl:=putF q.fl s (some f),fresh:=q.fresh++[s] }:FQ).all:=fun f=>by unfold FQ.all;simp
 have hm2: ∀ f:FL,∀ x,x≠s→x∈q.all→x∈({ q with fl:=putF q.fl s (some f),fresh:=q.fresh++[s] }:FQ).all:=fun f x _ hx=>by
  unfold FQ.all at hx ⊢;simp only[List.mem_append]at hx ⊢;rcases hx with(hx | hx) | hx
  ·exact .inl (.inl (.inl hx))
  ·exact .inl (.inr hx)
  ·exact .inr hx
 unfold wakeQ;cases hf:q.fl s with
 | none=>
  refine h.put_ rfl (hm2 _) (fun _ _=>rfl) ?_ (Nat.zero_le _) (fun h3=>absurd (hm _) h3) (fun x hx=>by cases hx);have:=h.no s hs hf;show _≤max 0 now
  omega
 | some f=>
  simp only
  split
  ·exact h
  ·refine h.put_ rfl (hm2 _) (fun _ _=>rfl) ?_ ?_ (fun h3=>absurd (hm _) h3) ?_
   ·exact h.so s f hs hf
   ·exact h.soon s f hs hf
   ·exact h.own s f hs hf
theorem appQ_pa {q:FQ} {now:Nat} {nx:Nat→Nat} (h:PaI q now nx) {x:SG} (hs:x.sock<8):PaI (appQ q x) now nx:=by
 unfold appQ;cases hf:q.fl x.sock with
 | none=>exact h
 | some f=>
  refine h.put_ (s:=x.sock) rfl (fun _ _ hx=>hx) (fun _ _=>rfl) (h.so _ f hs hf) (h.soon _ f hs hf) (h.idle _ f hs hf) fun y hy=> ?_
  rcases List.mem_append.1 hy with hy | hy
  ·exact h.own _ f hs hf y hy
  ·rw[List.mem_singleton]at hy;rw[hy]
theorem enqF_pa {q:FQ} (hi:q.inv) {now:Nat} (hn:now≤4611686018427387904) {nx:Nat→Nat} (h:PaI q now nx) {x:SG} (hx:x.ok):PaI (enqF q x now).2 now nx:=by
 have h1:=colQ_pa hi hn h 8;unfold enqF;split
 ·exact appQ_pa (wakeQ_pa h1 hx.s) (by rw[fate_sock];exact hx.s)
 ·exact h1
theorem dueQ_pa {q:FQ} {now:Nat} {nx:Nat→Nat} (h:PaI q now nx):PaI (dueQ q now) now nx:=by
 have e:(dueQ q now).all=q.all:=by
  show q.fresh++(q.old++(q.waits.take (dueN q now)).map (·.2))++(q.waits.drop (dueN q now)).map (·.2)=q.fresh++q.old++q.waits.map (·.2)
  simp only[List.append_assoc,←List.map_append,List.take_append_drop]
 exact h.as rfl (fun x=>by rw[e])
theorem stepD_pa {q:FQ} (hi:q.inv) {now:Nat} {nx:Nat→Nat} (h:PaI q now nx) {rt:Nat→Nat} {q':FQ} (hs:stepD q now rt= .inl q'):PaI q' now nx:=by
 unfold stepD at hs;cases hh:(lall q.fresh q.old).head? with
 | none=>rw[hh]at hs;cases hs
 | some sf=>
  obtain⟨s,fr⟩:=sf;have hm:=head_mem hh;have hma:s∈q.all:=List.mem_append_left _ hm;have hs8:=hi.ok.lt s hma;obtain⟨f,hf⟩:=hi.there s hma;rw[hh]at hs;simp only at hs
  rw[hf]at hs;simp only at hs
  by_cases hc:f.credit≤0
  ·rw[if_pos hc]at hs
   cases hs
   obtain⟨_,m2⟩:=all_move hi.ok hm;exact h.put_ (s:=s) rfl (fun x _ hx=>(m2 x).2 hx) (fun _ _=>rfl) (h.so s f hs8 hf) (h.soon s f hs8 hf) (fun h3=>absurd ((m2 s).2 hma) h3) (h.own s f hs8 hf)
  ·rw[if_neg hc]at hs
   cases hsg:f.segs with
   | nil=>
    rw[hsg]at hs;simp only at hs
    split at hs
    ·cases hs
     obtain⟨_,m2⟩:=all_move hi.ok hm;exact h.as rfl m2
    ·cases hs
     obtain⟨_,m2⟩:=all_drop hi.ok hm;have hsn:=h.soon s f hs8 hf;exact h.put_ (s:=s) rfl (fun x hne hx=>(m2 x).2 ⟨hx,hne⟩) (fun _ _=>rfl) (h.so s f hs8 hf) hsn (fun _=>hsn) (fun x hx=>by cases hx)
   | cons x r=>
    rw[hsg]at hs;simp only at hs
    split at hs
    ·cases hs
     obtain⟨_,m2⟩:=all_wait hi.ok hm (timeF f);exact h.as rfl m2
    ·cases hs
theorem deqR_pa {q:FQ} (hi:q.inv) {now:Nat} (hn:now≤4611686018427387904) {nx:Nat→Nat} (h:PaI q now nx) (rt:Nat→Nat):
  ((deqR q now rt).1=none∧PaI (deqR q now rt).2 now nx)∨ ∃ x,(deqR q now rt).1=some x∧x.sock<8∧nx x.sock≤now∧x.stamp≤now∧PaI (deqR q now rt).2 now (putF nx x.sock (satAdd now (delayOf x.len (les (rt x.sock) q.c.maxRate)))):=by
 have hn2:now<18446744073709551616:=by omega
 obtain⟨q0,h0,⟨hp,hc⟩,hs⟩:=deqN_ind (P:=fun q'=>PaI q' now nx∧q'.c=q.c) hn2 (fun q1 q2 i1 hc h2=>⟨stepD_pa i1 hc.1 h2,by
  have hc:=hc.2;unfold stepD at h2;split at h2
  ·cases h2
  ·split at h2
   ·cases h2
   ·split at h2
    ·cases h2;exact hc
    ·split at h2
     ·split at h2
      ·cases h2;exact hc
      ·cases h2;exact hc
     ·split at h2
      ·cases h2;exact hc
      ·cases h2⟩) _ _ _ (dueI_inv hi _) ⟨dueQ_pa h,rfl⟩ (deqR_eq hi hn2 rt)
 rcases stepD_inr h0 hs with⟨_,_,e⟩ | ⟨s,f,x,r,hm,hs8,hf,hsg,hcr,ht,e⟩
 ·rw[e];exact .inl ⟨rfl,hp⟩
 ·have hxs:=hp.own s f hs8 hf x (by rw[hsg];simp)
  have hso:=hp.so s f hs8 hf;unfold timeF at ht;rw[hsg]at ht;simp only at ht
  rw[e];refine .inr ⟨x,rfl,by rw[hxs];exact hs8,by rw[hxs];omega,by omega, ?_⟩;rw[hxs,←hc];refine hp.put_ (s:=s) rfl (fun _ _ hx=>hx) (fun k hk=>putF_ne _ _ hk) ?_ ?_ (fun h3=>absurd (List.mem_append_left _ hm) h3) (fun y hy=>hp.own s f hs8 hf y (by rw[hsg];exact List.mem_cons_of_mem _ hy))
  ·rw[putF_at];exact Nat.le_max_left _ _
  ·have h1:=satAdd_le now (delayOf x.len (les (rt s) q0.c.maxRate))
   have h2:=delayOf_le x.len (les (rt s) q0.c.maxRate);show satAdd now (delayOf x.len (les (rt s) q0.c.maxRate))≤_
   omega
theorem closeO_pa {q:FQ} (hi:q.inv) {now:Nat} {nx:Nat→Nat} (h:PaI q now nx) {s:Nat} (hs:s<8):PaI (closeO q s) now (putF nx s 0):=by
 have hz: ∀ k,k≠s→putF nx s 0 k=nx k:=fun k e=>putF_ne _ _ e
 have hle: ∀ k,putF nx s 0 k≤nx k:=fun k=>by
  by_cases e:k=s
  ·rw[e,putF_at];exact Nat.zero_le _
  ·rw[hz k e];exact Nat.le_refl _
 unfold closeO;cases hf:q.fl s with
 | none=>exact⟨fun k h8 hk=>Nat.le_trans (hle k) (h.no k h8 hk),fun k f h8 hk=>Nat.le_trans (hle k) (h.so k f h8 hk),h.soon,h.idle,h.own⟩
 | some f=>
  obtain⟨_,a2⟩:=all_close hi hs hf;have key: ∀ k,(closeQ q s f).fl k=if k=s then none else q.fl k:=fun k=>rfl
  refine⟨fun k h8 hk=> ?_,fun k f' h8 hk=> ?_,fun k f' h8 hk=> ?_,fun k f' h8 hk hn=> ?_,fun k f' h8 hk=> ?_⟩;all_goals rw[key]at hk
  all_goals by_cases e:k=s
  all_goals first | rw[if_pos e]at hk | rw[if_neg e]at hk
  ·rw[e,putF_at];exact Nat.zero_le _
  ·rw[hz k e];exact h.no k h8 hk
  ·cases hk
  ·rw[hz k e];exact h.so k f' h8 hk
  ·cases hk
  ·exact h.soon k f' h8 hk
  ·cases hk
  ·exact h.idle k f' h8 hk (fun h5=>hn ((a2 k).2 ⟨h5,e⟩))
  ·cases hk
  ·exact h.own k f' h8 hk
def nxF (m:MC) (d:DD) (nx:Nat→Nat):Nat→Nat:=
 let n1:=match(doF m d).2.2.dep with
  | x::_=>putF nx x.sock (satAdd (doF m d).2.1.now (delayOf x.len (les (m.rt x.sock) m.c.maxRate)))
  | []=>nx
 if(doF m d).1=0∧d.kind=9 then putF n1 d.sock.toNat 0 else n1
theorem PaI.new {q:FQ} (hq:q.fl=fun _=>none) (now:Nat):PaI q now (fun _=>0):=
 ⟨fun _ _ _=>Nat.zero_le _,fun _ _ _ _=>Nat.zero_le _,fun s f _ hf=>(by rw[hq]at hf;cases hf),fun s f _ hf=>(by rw[hq]at hf;cases hf),fun s f _ hf=>(by rw[hq]at hf;cases hf)⟩
theorem pumpR_pa {now:Nat} (hn:now≤4611686018427387904) {nx:Nat→Nat} {k:SK} {q:FQ} (o:OU) (hk:k.ok) (hq:q.inv) (h:PaI q now nx):PaI (pumpR now k q o).2.1 now nx:=by
 have hn2:now<18446744073709551616:=by omega
 refine(pumpR_ind (P:=fun _ q' _=>PaI q' now nx) hn2 ?_ ?_ ?_ hk hq h (o:=o)).2.2
 ·intro k' q' o' hk' hq' h' hm _
  exact enqF_pa hq' hn h' (SK.emitX_ok hk' hm hn2)
 ·intro k' q' o' hk' hq' h' hm _
  exact enqF_pa hq' hn h' (SK.emitX_ok hk' hm hn2)
 ·intro k' q' o' _ _ h' _
  exact h'
theorem oneF_now (m:MC) (d:DD):(oneF m d).2.1.now=m.now:=by
 unfold oneF;split
 ·cases hk:m.sk d.sock.toNat with
  | none=>simp only[oneS];split<;>rfl
  | some k=>
   simp only[oneS];split
   ·rfl
   ·split
    ·rfl
    ·split<;>rfl
 ·rfl
theorem doF_pa {m:MC} {n:Nat} (hm:m.okn n) (hn:n<1000000) {d:DD} (hd:d.ok) {nx:Nat→Nat} (h:PaI m.q m.now nx):
  (∀ x r,(doF m d).2.2.dep=x::r→r=[]∧x.sock<8∧nx x.sock≤(doF m d).2.1.now∧x.stamp≤(doF m d).2.1.now)∧PaI (doF m d).2.1.q (doF m d).2.1.now (nxF m d nx):=by
 have hnow:=hm.ok.now;have hnow2:m.now<18446744073709551616:=by omega
 have h1c: ∀ nx':Nat→Nat,(doF m d).2.2.dep=[]→(nxF m d nx=if(doF m d).1=0∧d.kind=9 then putF nx d.sock.toNat 0 else nx):=fun _ e=>by
  unfold nxF;rw[e]
 by_cases h5:d.kind=5
 ·have e:doF m d=(mvE m.now d.at_,{ m with now:=mvN m.now d.at_ },ou0):=by unfold doF;rw[if_pos h5]
  have e1:=h1c nx (by rw[e];rfl);rw[e1,if_neg (by rw[h5];simp)];rw[e];exact⟨fun x r hx=>(by cases hx),h.later (mvN_ge _ _)⟩
 by_cases h6:d.kind=6
 ·have e:doF m d=(0,{ m with q:=(deqR m.q m.now m.rt).2 },pullO (deqR m.q m.now m.rt) ou0):=by unfold doF;rw[if_neg h5,if_pos h6]
  rcases deqR_pa hm.ok.q hnow h m.rt with⟨e2,h2⟩ | ⟨x,e2,x1,x2,x3,h2⟩
  ·have ed:(doF m d).2.2.dep=[]:=by rw[e];show(pullO _ _).dep=_;unfold pullO;rw[e2];rfl
   rw[h1c nx ed,if_neg (by rw[h6];simp)];refine⟨fun x r hx=>(by rw[ed]at hx;cases hx), ?_⟩;rw[e];exact h2
  ·have ed:(doF m d).2.2.dep=[x]:=by rw[e];show(pullO _ _).dep=_;unfold pullO;rw[e2]
   have en:(doF m d).2.1.now=m.now:=by rw[e]
   have e3:nxF m d nx=putF nx x.sock (satAdd m.now (delayOf x.len (les (m.rt x.sock) m.q.c.maxRate))):=by
    unfold nxF;rw[ed,if_neg (by rw[h6];simp),en,hm.ok.qc]
   rw[e3];refine⟨fun y r hx=> ?_, ?_⟩
   ·rw[ed]at hx;cases hx;rw[en];exact⟨rfl,x1,x2,x3⟩
   ·rw[e];exact h2
 by_cases h8:d.kind=8
 ·have e:doF m d=((if d.cr.may=true then 0 else 13),m.set_ d.cr,ou0):=by unfold doF;rw[if_neg h5,if_neg h6,if_pos h8]
  have ed:(doF m d).2.2.dep=[]:=by rw[e];rfl
  rw[h1c nx ed,if_neg (by rw[h8];simp)];refine⟨fun x r hx=>(by rw[ed]at hx;cases hx), ?_⟩;rw[e];show PaI (m.set_ d.cr).q (m.set_ d.cr).now nx
  unfold MC.set_;split
  ·exact h.as rfl (fun _=>Iff.rfl)
  ·exact h
 by_cases h1:d.kind=1∨d.kind=2∨d.kind=3∨d.kind=4∨d.kind=7∨d.kind=9
 ·have e:doF m d=oneF m d:=by unfold doF;rw[if_neg h5,if_neg h6,if_neg h8,if_pos h1]
  have ed:(doF m d).2.2.dep=[]:=by rw[e];exact oneF_dep hm hd hn
  rw[h1c nx ed];refine⟨fun x r hx=>(by rw[ed]at hx;cases hx), ?_⟩;rw[e,oneF_now];unfold oneF;by_cases hs:(decide (0≤d.sock)&&decide (d.sock<8))=true
  ·rw[if_pos hs]
   rw[Bool.and_eq_true,decide_eq_true_eq,decide_eq_true_eq]at hs;have hs8:d.sock.toNat<8:=by omega
   cases hk:m.sk d.sock.toNat with
   | none=>
    simp only[oneS];split
    ·rename_i h1
     rw[if_neg (by rw[h1];simp)];exact h
    ·rw[if_neg (by simp)]
     exact h
   | some k=>
    obtain⟨k1,k2⟩:=hm.ok.sk _ k hs8 hk;have kw:=hm.wr _ k hs8 hk;simp only[oneS];by_cases g1:d.kind=1
    ·simp only[if_pos g1]
     rw[if_neg (by simp)];exact h
    ·simp only[if_neg g1]
     by_cases g9:d.kind=9
     ·simp only[if_pos g9]
      rw[if_pos ⟨trivial,g9⟩];exact closeO_pa hm.ok.q h hs8
     ·simp only[if_neg g9]
      by_cases gt:tldE k d m.now=0
      ·simp only[if_pos gt]
       rw[if_neg (by rintro⟨_,h⟩;exact g9 h)];exact pumpR_pa hnow ou0 (tldF_ok k1 hd (by omega) hnow2) hm.ok.q h
      ·simp only[if_neg gt]
       rw[if_neg (by rintro⟨_,h⟩;exact g9 h)];exact h
  ·rw[if_neg hs]
   rw[if_neg (by simp)];exact h
 ·have e:doF m d=(12,m,ou0):=by unfold doF;rw[if_neg h5,if_neg h6,if_neg h8,if_neg h1]
  have ed:(doF m d).2.2.dep=[]:=by rw[e];rfl
  rw[h1c nx ed,if_neg (by rw[e];simp)];refine⟨fun x r hx=>(by rw[ed]at hx;cases hx), ?_⟩;rw[e];exact h
end
section
open Go.RowKit Go.Lib
theorem doF_r (m:MC) {d:DD} (hmr:d.cr.maxRate<18446744073709551616):
  ((doF m d).1=0∧d.kind=8→d.cr.maxRate=(doF m d).2.1.c.maxRate)∧(¬((doF m d).1=0∧d.kind=8)→(doF m d).2.1.c=m.c):=by
 unfold doF;split
 ·exact⟨fun h=>by omega,fun _=>rfl⟩
 ·split
  ·exact⟨fun h=>by omega,fun _=>rfl⟩
  ·split
   ·cases hm:d.cr.may with
    | true=>
     rw[if_pos rfl];unfold MC.set_;rw[if_pos hm];exact⟨fun _=>rfl,fun h=>absurd ⟨rfl,by assumption⟩ h⟩
    | false=>
     rw[if_neg (by simp)];unfold MC.set_;rw[if_neg (by simp[hm])];exact⟨fun h=>absurd h.1 (show ¬(13:Nat)=0 by decide),fun _=>rfl⟩
   ·split
    ·refine⟨fun h=>by omega,fun _=> ?_⟩
     unfold oneF;split
     ·cases m.sk d.sock.toNat with
      | none=>unfold oneS;simp only;split<;>rfl
      | some k=>
       unfold oneS;simp only
       split
       ·rfl
       ·split
        ·rfl
        ·split<;>rfl
     ·rfl
    ·exact⟨fun h=>by omega,fun _=>rfl⟩
theorem doF_shut (m:MC) {d:DD} (h:(doF m d).1=0) (hk:d.kind=9): ∃ s:Nat,d.sock=s∧s<8:=by
 unfold doF at h;rw[if_neg (by omega),if_neg (by omega),if_neg (by omega),if_pos (.inr (.inr (.inr (.inr (.inr hk)))))]at h;unfold oneF at h;split at h
 ·rename_i hs
  rw[Bool.and_eq_true,decide_eq_true_eq,decide_eq_true_eq]at hs;exact⟨d.sock.toNat,by omega,by omega⟩
 ·cases h
def nextC (f:Nat→Nat):Array Value:= #[.int .u64 (f 0:Nat), .int .u64 (f 1:Nat), .int .u64 (f 2:Nat), .int .u64 (f 3:Nat), .int .u64 (f 4:Nat), .int .u64 (f 5:Nat), .int .u64 (f 6:Nat), .int .u64 (f 7:Nat)]
theorem nextC_get (f:Nat→Nat): ∀ {s:Nat},s<8→(nextC f)[s]? =some (.int .u64 (f s:Nat))
 | 0,_=>rfl
 | 1,_=>rfl
 | 2,_=>rfl
 | 3,_=>rfl
 | 4,_=>rfl
 | 5,_=>rfl
 | 6,_=>rfl
 | 7,_=>rfl
 | n+8,h=>by omega
theorem nextC_set (f:Nat→Nat) (v:Nat): ∀ {s:Nat},s<8→(nextC f).setIfInBounds s (.int .u64 (v:Nat))=nextC (putF f s v)
 | 0,_=>rfl
 | 1,_=>rfl
 | 2,_=>rfl
 | 3,_=>rfl
 | 4,_=>rfl
 | 5,_=>rfl
 | 6,_=>rfl
 | 7,_=>rfl
 | n+8,h=>by omega
end
end Go.Proofs.YtojgokiobdpclaaGreat
