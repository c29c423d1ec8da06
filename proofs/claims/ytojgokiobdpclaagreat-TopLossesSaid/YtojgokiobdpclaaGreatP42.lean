import Derived.Test.YtojgokiobdpclaaGreatP40
namespace Go.Proofs.YtojgokiobdpclaaGreat
set_option linter.unusedVariables false
set_option linter.unusedSimpArgs false
set_option maxRecDepth 8000
set_option maxHeartbeats 8000000
section
open Go.RowKit Go.Lib
def crd (fl:Nat→Option FL) (s:Nat):Nat:=match fl s with
 | none=>0
 | some f=>(1-f.credit).toNat
def mu (q:FQ):Nat:=((q.fresh++q.old).map (crd q.fl)).sum+q.fresh.length+(q.fresh++q.old).length
theorem sum_delL (c:Nat→Nat): ∀ {l:List Nat} {s:Nat},l.Nodup→s∈l→((delL l s).map c).sum+c s=(l.map c).sum∧(delL l s).length+1=l.length
 | [],_,_,h=>by cases h
 | x::r,s,hnd,h=>by
  obtain⟨h1,h2⟩:=List.nodup_cons.1 hnd;by_cases e:x=s
  ·subst e
   have h3:delL (x::r) x=r:=by
    have:delL (x::r) x=delL r x:=by simp[delL]
    rw[this];exact delL_none h1
   rw[h3];simp
   omega
  ·have hs:s∈r:=by
    rcases List.mem_cons.1 h with h | h
    ·exact absurd h.symm e
    ·exact h
   obtain⟨i1,i2⟩:=sum_delL c h2 hs;have h3:delL (x::r) s=x::delL r s:=by simp[delL,e]
   rw[h3];simp
   omega
theorem delL_app (a b:List Nat) (s:Nat):delL (a++b) s=delL a s++delL b s:=by simp[delL]
theorem delL_le (l:List Nat) (s:Nat):(delL l s).length≤l.length:=List.length_filter_le _ _
theorem sum_same {c c':Nat→Nat} {l:List Nat} (h: ∀ x∈l,c x=c' x):(l.map c).sum=(l.map c').sum:=by
 rw[List.map_congr_left h]
theorem FQ.ok.listed {q:FQ} (h:q.ok):(q.fresh++q.old).Nodup:=(List.nodup_append.1 h.nd).1
theorem head_true {q:FQ} {s:Nat} (h:(lall q.fresh q.old).head?=some (s,true)):s∈q.fresh:=by
 have:=lall_mem h;simp only[lall,List.mem_append,List.mem_map,Prod.mk.injEq]at this;rcases this with⟨y,hy,rfl,_⟩ | ⟨y,hy,_,h2⟩
 ·exact hy
 ·cases h2
theorem stepD_inl {q:FQ} (h:q.inv) {now:Nat} (hn:now<18446744073709551616) {rt:Nat→Nat} {q':FQ} (hs:stepD q now rt= .inl q'):q'.inv∧mu q'<mu q:=by
 unfold stepD at hs;cases hh:(lall q.fresh q.old).head? with
 | none=>rw[hh]at hs;cases hs
 | some sf=>
  obtain⟨s,fr⟩:=sf;have hm:=head_mem hh;have hnd:=h.ok.listed;obtain⟨f,hf⟩:=h.there s (List.mem_append_left _ hm);have hfo:=h.fl s f hf;rw[hh]at hs;simp only at hs
  rw[hf]at hs;simp only at hs
  obtain⟨S1,S2⟩:=sum_delL (crd q.fl) hnd hm;rw[delL_app]at S1 S2;have hnin: ∀ x∈delL q.fresh s++delL q.old s,x≠s:=fun x hx=>by
   rcases List.mem_append.1 hx with hx | hx
   ·exact(mem_delL.1 hx).2
   ·exact(mem_delL.1 hx).2
  have hl1:=delL_le q.fresh s;have hput: ∀ v,((delL q.fresh s++delL q.old s).map (crd (putF q.fl s v))).sum=((delL q.fresh s++delL q.old s).map (crd q.fl)).sum:=fun v=>
   sum_same fun x hx=>by unfold crd;rw[putF_ne _ _ (hnin x hx)]
  simp only[List.map_append,List.sum_append,List.length_append]at S1 S2 hput;by_cases hc:f.credit≤0
  ·rw[if_pos hc]at hs
   cases hs
   refine⟨inv_move (inv_flow h hm hf (hfo.more h.cf.q2 hc) rfl) hm, ?_⟩;unfold mu;have hq:=h.cf.q1;have c1:crd q.fl s=(1-f.credit).toNat:=by unfold crd;rw[hf]
   have c2:crd (putF q.fl s (some { f with credit:=f.credit+q.c.quantum })) s=(1-(f.credit+q.c.quantum)).toNat:=by unfold crd;rw[putF_at]
   simp only[List.map_append,List.sum_append,List.length_append,List.map_cons,List.map_nil,List.sum_cons,List.sum_nil,List.length_cons,List.length_nil];have:=hput (some { f with credit:=f.credit+q.c.quantum });omega
  ·rw[if_neg hc]at hs
   cases hsg:f.segs with
   | nil=>
    rw[hsg]at hs;simp only at hs
    by_cases ho:(fr&&(lall q.fresh q.old).any (fun x=> !x.2))=true
    ·rw[if_pos ho]at hs
     cases hs
     refine⟨inv_move h hm, ?_⟩;have hfr:fr=true:=by rw[Bool.and_eq_true]at ho;exact ho.1
     subst hfr;have hmf:=head_true hh;have hndf:=(List.nodup_append.1 hnd).1;have L:=(sum_delL (fun _=>0) hndf hmf).2;unfold mu;simp only[List.map_append,List.sum_append,List.length_append,List.map_cons,List.map_nil,List.sum_cons,List.sum_nil,List.length_cons,List.length_nil];omega
    ·rw[if_neg ho]at hs
     cases hs
     refine⟨inv_flow_drop h hm hf ⟨hfo.c1,hfo.c2,hfo.nx,hn,fun y hy=>by cases hy⟩ hsg hsg.symm, ?_⟩;unfold mu;simp only[List.map_append,List.sum_append,List.length_append];have:=hput (some { f with since:=now,segs:=[] });omega
   | cons x r=>
    rw[hsg]at hs;simp only at hs
    by_cases ht:now<timeF f
    ·rw[if_pos ht]at hs
     cases hs
     refine⟨inv_wait h hm hf (by rw[hsg];simp), ?_⟩;unfold mu;simp only[List.map_append,List.sum_append,List.length_append];omega
    ·rw[if_neg ht]at hs
     cases hs
theorem mu_le {q:FQ} (h:q.inv):mu q<600000:=by
 have hl:=h.ok.len;have hb: ∀ l:List Nat,((l.map (crd q.fl)).sum)≤l.length*65537:=by
  intro l;induction l with
  | nil=>simp
  | cons x r ih=>
   have hx:crd q.fl x≤65537:=by
    unfold crd;cases hf:q.fl x with
    | none=>simp
    | some f=>have:=(h.fl x f hf).c1;simp only;omega
   simp only[List.map_cons,List.sum_cons,List.length_cons];omega
 have:=hb (q.fresh++q.old);unfold mu;simp only[List.length_append]at this ⊢;omega
theorem deqN_some {now:Nat} (hn:now<18446744073709551616) (rt:Nat→Nat): ∀(n:Nat) (q:FQ),q.inv→mu q≤n→ ∃ R,deqN now rt (n+1) q=some R
 | n,q,h,hl=>by
  unfold deqN;cases hs:stepD q now rt with
  | inr r=>exact⟨r,rfl⟩
  | inl q'=>
   obtain⟨h1,h2⟩:=stepD_inl h hn hs;cases n with
   | zero=>omega
   | succ j=>exact deqN_some hn rt j q' h1 (by omega)
def deqR (q:FQ) (now:Nat) (rt:Nat→Nat):Option SG×FQ:=(deqN now rt 600001 (dueQ q now)).getD (none,q)
theorem deqR_eq {q:FQ} (h:q.inv) {now:Nat} (hn:now<18446744073709551616) (rt:Nat→Nat):deqN now rt (600000+1) (dueQ q now)=some (deqR q now rt):=by
 have hi:(dueQ q now).inv:=dueI_inv h _;obtain⟨R,hR⟩:=deqN_some hn rt 600000 (dueQ q now) hi (by have:=mu_le hi;omega);unfold deqR;rw[show 600001=600000+1 from rfl,hR];rfl
theorem deqN_ind {P:FQ→Prop} {now:Nat} (hn:now<18446744073709551616) {rt:Nat→Nat} (h1: ∀ q q',q.inv→P q→stepD q now rt= .inl q'→P q'):
  ∀(n:Nat) (q:FQ) (R:Option SG×FQ),q.inv→P q→deqN now rt n q=some R→ ∃ q0,q0.inv∧P q0∧stepD q0 now rt= .inr R
 | 0,_,_,_,_,h=>by cases h
 | n+1,q,R,hq,hP,h=>by
  unfold deqN at h;cases hs:stepD q now rt with
  | inr r=>rw[hs]at h;cases h;exact⟨q,hq,hP,hs⟩
  | inl q'=>
   rw[hs]at h;exact deqN_ind hn h1 n q' R (stepD_inl hq hn hs).1 (h1 q q' hq hP hs) h
theorem stepD_inr {q:FQ} (h:q.inv) {now:Nat} {rt:Nat→Nat} {R:Option SG×FQ} (hs:stepD q now rt= .inr R):
  (q.fresh=[]∧q.old=[]∧R=(none,q))∨ ∃ s f x r,s∈q.fresh++q.old∧s<8∧q.fl s=some f∧f.segs=x::r∧ ¬ f.credit≤0∧timeF f≤now∧R=(some x,sendQ q s f x r now (rt s)):=by
 unfold stepD at hs;cases hh:(lall q.fresh q.old).head? with
 | none=>
  left
  rw[hh]at hs;cases hs
  have:lall q.fresh q.old=[]:=List.head?_eq_none_iff.1 hh;unfold lall at this;rw[List.append_eq_nil_iff,List.map_eq_nil_iff,List.map_eq_nil_iff]at this;exact⟨this.1,this.2,rfl⟩
 | some sf=>
  right
  obtain⟨s,fr⟩:=sf;have hm:=head_mem hh;obtain⟨f,hf⟩:=h.there s (List.mem_append_left _ hm);rw[hh]at hs;simp only at hs
  rw[hf]at hs;simp only at hs
  by_cases hc:f.credit≤0
  ·rw[if_pos hc]at hs;cases hs
  ·rw[if_neg hc]at hs
   cases hsg:f.segs with
   | nil=>
    rw[hsg]at hs;simp only at hs
    split at hs<;>cases hs
   | cons x r=>
    rw[hsg]at hs;simp only at hs
    by_cases ht:now<timeF f
    ·rw[if_pos ht]at hs;cases hs
    ·rw[if_neg ht]at hs
     cases hs
     exact⟨s,f,x,r,hm,h.ok.lt s (List.mem_append_left _ hm),hf,hsg,hc,by omega,rfl⟩
theorem deqR_inv {q:FQ} (h:q.inv) {now:Nat} (hn:now<18446744073709551616) (rt:Nat→Nat):(deqR q now rt).2.inv∧(deqR q now rt).2.c=q.c∧ ∀ x,(deqR q now rt).1=some x→x.ok:=by
 have hi:(dueQ q now).inv:=dueI_inv h _;obtain⟨q0,h0,hc0,hs⟩:=deqN_ind (P:=fun q'=>q'.c=q.c) hn (fun q1 q2 _ hc h2=>by
  unfold stepD at h2;split at h2
  ·cases h2
  ·split at h2
   ·cases h2
   ·split at h2
    ·cases h2;exact hc
    ·split at h2
     ·split at h2
      ·cases h2;exact hc
      ·cases h2;exact hc
     ·split at h2
      ·cases h2;exact hc
      ·cases h2) _ _ _ hi rfl (deqR_eq h hn rt)
 rcases stepD_inr h0 hs with⟨_,_,e⟩ | ⟨s,f,x,r,hm,hs8,hf,hsg,hcr,ht,e⟩
 ·rw[e];exact⟨h0,hc0,fun x hx=>by cases hx⟩
 ·rw[e]
  refine⟨inv_send h0 hm hf hsg hcr now _,hc0,fun y hy=> ?_⟩;cases hy
  exact(h0.fl s f hf).sg x (by rw[hsg];simp)
end
section
open Go.RowKit Go.Lib
def doF (m:MC) (d:DD):Nat×MC×OU:=
 if d.kind=5 then(mvE m.now d.at_,{ m with now:=mvN m.now d.at_ },ou0)
 else if d.kind=6 then(0,{ m with q:=(deqR m.q m.now m.rt).2 },pullO (deqR m.q m.now m.rt) ou0)
 else if d.kind=8 then((if d.cr.may=true then 0 else 13),m.set_ d.cr,ou0)
 else if d.kind=1∨d.kind=2∨d.kind=3∨d.kind=4∨d.kind=7∨d.kind=9 then oneF m d
 else(12,m,ou0)
theorem pumpR_dep {now:Nat} (hn:now<18446744073709551616) {k:SK} {q:FQ} (o:OU) (hk:k.ok) (hq:q.inv):(pumpR now k q o).2.2.dep=o.dep:=
 (pumpR_ind (P:=fun _ _ o'=>o'.dep=o.dep) hn (fun _ _ _ _ _ h _ _=>h) (fun _ _ _ _ _ h _ _=>h) (fun _ _ _ _ _ h _=>h) hk hq rfl (o:=o)).2.2
theorem oneF_dep {m:MC} {n:Nat} (h:m.okn n) {d:DD} (hd:d.ok) (hn:n<1000000):(oneF m d).2.2.dep=[]:=by
 have hnow:m.now<18446744073709551616:=by have:=h.ok.now;omega
 unfold oneF;split
 ·rename_i hs
  rw[Bool.and_eq_true,decide_eq_true_eq,decide_eq_true_eq]at hs;have hs8:d.sock.toNat<8:=by omega
  cases hk:m.sk d.sock.toNat with
  | none=>simp only[oneS];split<;>rfl
  | some k=>
   obtain⟨k1,k2⟩:=h.ok.sk _ k hs8 hk;have kw:=h.wr _ k hs8 hk;simp only[oneS];split
   ·rfl
   ·split
    ·rfl
    ·split
     ·exact pumpR_dep hnow ou0 (tldF_ok k1 hd (by omega) hnow) h.ok.q
     ·rfl
 ·rfl
theorem oneF_err {m:MC} {d:DD} (h:(oneF m d).1≠0):(oneF m d).2=(m,ou0):=by
 unfold oneF at h ⊢;split
 ·rename_i hs
  rw[if_pos hs]at h;cases hk:m.sk d.sock.toNat with
  | none=>
   rw[hk]at h;simp only[oneS]at h ⊢;split
   ·rename_i h1;rw[if_pos h1]at h;exact absurd rfl h
   ·rfl
  | some k=>
   rw[hk]at h;simp only[oneS]at h ⊢;split
   ·rfl
   ·rename_i h1
    rw[if_neg h1]at h;split
    ·rename_i h2;rw[if_pos h2]at h;exact absurd rfl h
    ·rename_i h2
     rw[if_neg h2]at h;split
     ·rename_i h3;rw[if_pos h3]at h;exact absurd rfl h
     ·rfl
 ·rfl
theorem doF_err {m:MC} {d:DD} (h:(doF m d).1≠0):(doF m d).2=(m,ou0):=by
 unfold doF at h ⊢;split
 ·rename_i h5
  rw[if_pos h5]at h;have:mvN m.now d.at_=m.now:=by
   have h:mvE m.now d.at_≠0:=h;unfold mvE at h;unfold mvN;split
   ·rfl
   ·rename_i h1
    rw[if_neg h1]at h;split
    ·rfl
    ·rename_i h2;rw[if_neg h2]at h;exact absurd rfl h
  rw[this]
 ·rename_i h5
  rw[if_neg h5]at h;split
  ·rename_i h6;rw[if_pos h6]at h;exact absurd rfl h
  ·rename_i h6
   rw[if_neg h6]at h;split
   ·rename_i h8
    rw[if_pos h8]at h;have hm: ¬ d.cr.may=true:=fun hm=>by simp only at h;rw[if_pos hm]at h;exact h rfl
    have e:m.set_ d.cr=m:=by unfold MC.set_;rw[if_neg hm]
    rw[e]
   ·rename_i h8
    rw[if_neg h8]at h;split
    ·rename_i h1;rw[if_pos h1]at h;exact oneF_err h
    ·rfl
theorem mvN_le {n t:Nat} (h:n≤4611686018427387904):mvN n t≤4611686018427387904:=by unfold mvN;split<;>(try split)<;>omega
theorem mvN_ge (n t:Nat):n≤mvN n t:=by unfold mvN;split<;>(try split)<;>omega
theorem doF_ok {m:MC} {n:Nat} (h:m.okn n) (hn:n<1000000) {d:DD} (hd:d.ok):(doF m d).2.1.okn (n+1):=by
 have hnow:m.now<18446744073709551616:=by have:=h.ok.now;omega
 have h1:=h.mono (Nat.le_succ n);unfold doF;split
 ·exact⟨⟨h1.ok.c,h1.ok.qc,mvN_le h1.ok.now,h1.ok.q,h1.ok.sk⟩,h1.wr⟩
 ·split
  ·obtain⟨d1,d2,_⟩:=deqR_inv h.ok.q hnow m.rt
   exact⟨⟨h1.ok.c,d2.trans h1.ok.qc,h1.ok.now,d1,h1.ok.sk⟩,h1.wr⟩
  ·split
   ·show(m.set_ d.cr).okn (n+1)
    unfold MC.set_;split
    ·rename_i hm
     have hc:=(CR.may_ok hm hd.mr).1;exact⟨⟨hc,rfl,h1.ok.now,setQ_inv h1.ok.q hc,h1.ok.sk⟩,h1.wr⟩
    ·exact h1
   ·split
    ·exact oneF_ok h hn hd
    ·exact h1
end
end Go.Proofs.YtojgokiobdpclaaGreat
