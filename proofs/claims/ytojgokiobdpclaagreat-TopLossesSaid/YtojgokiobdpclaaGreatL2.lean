import Derived.Test.YtojgokiobdpclaaGreatL1
namespace Go.Proofs.YtojgokiobdpclaaGreat
set_option linter.unusedVariables false
set_option linter.unusedSimpArgs false
set_option maxRecDepth 8000
set_option maxHeartbeats 8000000
section
open Go.RowKit Go.Lib
theorem pumpN_end {P:SK→FQ→Prop} {now:Nat} (hn:now<18446744073709551616)
  (h1: ∀ k q,k.ok→q.inv→P k q→k.mayE=0→(enqF q (k.emitX now) now).1=0∧P (k.emitF now) (enqF q (k.emitX now) now).2):
  ∀(n:Nat) (k:SK) (q:FQ) (o:OU) (R:SK×FQ×OU),k.ok→q.inv→P k q→pumpN now n k q o=some R→ ∃ k0,R.1=k0.mayS∧k0.ok∧k0.mayE≠0∧P k0 R.2.1∧R.2.1.inv∧R.2.2=o
 | 0,_,_,_,_,_,_,_,h=>by cases h
 | n+1,k,q,o,R,hk,hq,hP,h=>by
  unfold pumpN at h;by_cases hm:k.mayE=0
  ·rw[if_neg (by simp[hm])]at h
   obtain⟨hf,hP2⟩:=h1 k q hk hq hP hm;rw[if_pos hf]at h;exact pumpN_end hn h1 n _ _ _ _ (hk.emitF_ hm hn) (enqF_inv hq (SK.emitX_ok hk hm hn) now) hP2 h
  ·rw[if_pos hm]at h
   cases h
   exact⟨k,rfl,hk,hm,hP,hq,rfl⟩
theorem colQ_segs (q:FQ) (now i s:Nat):flSegs ((colQ q now i).fl s)=flSegs (q.fl s):=by
 rw[colQ_fl];by_cases h:s<i∧idleQ q s 3000000000 now=true
 ·rw[if_pos h]
  obtain⟨f,hf,hp,_⟩:=idle_place h.2;rw[hf];exact(place_segs hf hp).symm
 ·rw[if_neg h]
theorem putF_segs {fl:Nat→Option FL} {s j:Nat} {f:Option FL} {S:List SG} (h:flSegs f=S):flSegs (putF fl s f j)=if j=s then S else flSegs (fl j):=by
 by_cases e:j=s
 ·rw[if_pos e,e,putF_at,h]
 ·rw[if_neg e,putF_ne _ _ e]
theorem wakeQ_segs (q:FQ) (s now j:Nat):flSegs ((wakeQ q s now).fl j)=flSegs (q.fl j):=by
 unfold wakeQ;cases hf:q.fl s with
 | none=>
  rw[putF_segs (S:=[]) rfl];split
  ·rename_i e;rw[e,hf];rfl
  ·rfl
 | some f=>
  simp only
  split
  ·rfl
  ·rw[putF_segs (S:=f.segs) rfl]
   split
   ·rename_i e;rw[e,hf];rfl
   ·rfl
theorem lens_segs (fl:Nat→Option FL) (s:Nat):lens fl s=(flSegs (fl s)).length:=by unfold lens flSegs;cases fl s<;>rfl
theorem enq_room {q:FQ} (hi:q.inv) {now:Nat} {x:SG} (hx:x.sock=5) (c1:q.c.limit=512) (c2:q.c.flowLimit=512) (c3:q.c.drop=false)
  (ho: ∀ s,s≠5→flSegs (q.fl s)=[]) (hl:(flSegs (q.fl 5)).length≤100):
  (enqF q x now).1=0∧ ∃ x',x'.sock=5∧x'.frm=x.frm∧x'.len=x.len∧x'.stamp≤now+q.c.horizon∧flSegs ((enqF q x now).2.fl 5)=flSegs (q.fl 5)++[x']∧ ∀ s,s≠5→flSegs ((enqF q x now).2.fl s)=[]:=by
 have hn:q.n≤100:=by
  rw[hi.tot];unfold tot;have z: ∀ s,s≠5→lens q.fl s=0:=fun s hs=>by rw[lens_segs,ho s hs];rfl
  have h5:=lens_segs q.fl 5;rw[z 0 (by decide),z 1 (by decide),z 2 (by decide),z 3 (by decide),z 4 (by decide),z 6 (by decide),z 7 (by decide)];omega
 have e0:fateF (colQ q now 8) x now=(0,{ x with stamp:=min x.stamp (satAdd now q.c.horizon) }):=by
  unfold fateF;rw[if_neg (show ¬(colQ q now 8).c.limit≤(colQ q now 8).n from by show ¬ q.c.limit≤q.n;omega),if_neg,if_neg]
  ·rfl
  ·rintro⟨_,h⟩
   have h:q.c.drop=true:=h;rw[c3]at h;cases h
  ·have hc:=colQ_segs q now 8 x.sock
   rw[hx]at hc ⊢;cases hf:(colQ q now 8).fl 5 with
   | none=>simp
   | some f=>
    rw[hf]at hc;have hc:f.segs=flSegs (q.fl 5):=hc;have: ¬(colQ q now 8).c.flowLimit≤f.segs.length:=by show ¬ q.c.flowLimit≤_;rw[hc];omega
    simp[this]
 have e1:enqF q x now=(0,appQ (wakeQ (colQ q now 8) x.sock now) { x with stamp:=min x.stamp (satAdd now q.c.horizon) }):=by
  unfold enqF;rw[e0,if_pos rfl]
 obtain⟨f,hf,_⟩:=wakeQ_fl (colQ q now 8) x.sock now;have hs:=wakeQ_segs (colQ q now 8) x.sock now;have hsat:=satAdd_le now q.c.horizon;rw[e1];refine⟨rfl,{ x with stamp:=min x.stamp (satAdd now q.c.horizon) },hx,rfl,rfl,by show min _ _≤_;omega, ?_,fun s hs5=> ?_⟩
 ·show flSegs ((appQ (wakeQ (colQ q now 8) x.sock now) { x with stamp:=min x.stamp (satAdd now q.c.horizon) }).fl 5)=_
  unfold appQ;simp only
  rw[hf];simp only
  rw[putF_segs (S:=f.segs++[{ x with stamp:=min x.stamp (satAdd now q.c.horizon) }]) rfl,if_pos hx.symm];have h5:=hs 5;rw[←hx,hf,hx,colQ_segs]at h5;have h5:f.segs=flSegs (q.fl 5):=h5;rw[h5]
 ·show flSegs ((appQ (wakeQ (colQ q now 8) x.sock now) { x with stamp:=min x.stamp (satAdd now q.c.horizon) }).fl s)=_
  unfold appQ;simp only
  rw[hf];simp only
  rw[putF_segs (S:=f.segs++[{ x with stamp:=min x.stamp (satAdd now q.c.horizon) }]) rfl,if_neg (by rw[hx];exact hs5),hs s,colQ_segs];exact ho s hs5
def rgn (x:SG):Nat×Nat:=(x.frm,x.frm+x.len)
def SK.fut (k:SK):Nat:=(k.uns+999) / 1000
def vF (k:SK) (q:FQ):Nat:=(flSegs (q.fl 5)).length+nLo k.pcs+k.fut
structure KqI (now W en B:Nat) (had:List (Nat×Nat)) (k:SK) (q:FQ):Prop where
 id:k.id=5
 c1:q.c.limit=512
 c2:q.c.flowLimit=512
 c3:q.c.drop=false
 c4:q.c.horizon=10000000000
 ms:500≤k.mss
 wr:k.bf.wr=W
 tile:Tile en k.pcs k.e
 sack: ∀ p∈k.pcs,p.sacked=false
 cw:1≤k.bb.cwnd
 only: ∀ s,s≠5→flSegs (q.fl s)=[]
 had: ∀ r∈had,Okr en k.pcs r
 qs: ∀ x∈flSegs (q.fl 5),Okr en k.pcs (rgn x)
 out:k.out=((flSegs (q.fl 5)).map SG.len).sum
 v:vF k q≤B
 pf:k.pcs.length+k.fut≤B
 st: ∀ x∈flSegs (q.fl 5),x.stamp≤now+10000000000
def Ph1 (u:Nat) (k:SK) (q:FQ):Prop:= ∃ F L,k.pcs=F++L∧(∀ p∈F,p.lost=false)∧(∀ p∈L,p.lost=true)∧
 ((flSegs (q.fl 5)).map rgn).filter (fun r=>decide (u<r.2))=(F.map fun p=>(p.frm,p.til)).filter (fun r=>decide (u<r.2))
theorem tso_ge {k:SK} (h:500≤k.mss):1000≤k.tso:=by
 have:2≤tsoN k.bb.rate k.mss:=by unfold tsoN;omega
 have h2:2*500≤tsoN k.bb.rate k.mss*k.mss:=Nat.mul_le_mul this h;exact h2
theorem set_like {l:List PC} {i:Nat} {x y:PC} (hx:l[i]? =some x) (h1:y.frm=x.frm) (h2:y.til=x.til): ∀ p∈l,∃ q∈l.set i y,q.frm=p.frm∧q.til=p.til:=by
 intro p hp;obtain⟨j,hj,rfl⟩:=List.mem_iff_getElem.1 hp;obtain⟨hi,e⟩:=List.getElem?_eq_some_iff.1 hx;by_cases hij:i=j
 ·subst hij
  exact⟨y,List.mem_iff_getElem.2 ⟨i,by rw[List.length_set];exact hi,by simp⟩,by rw[e];exact h1,by rw[e];exact h2⟩
 ·exact⟨l[j],List.mem_iff_getElem.2 ⟨j,by rw[List.length_set];exact hj,by rw[List.getElem_set_ne hij]⟩,rfl,rfl⟩
theorem KqI.emit {now W en B:Nat} {had:List (Nat×Nat)} {k:SK} {q:FQ} (h:KqI now W en B had k q) (hB:B≤100) (hk:k.ok) (hi:q.inv) (hm:k.mayE=0):
  (enqF q (k.emitX now) now).1=0∧KqI now W en B had (k.emitF now) (enqF q (k.emitX now) now).2∧vF (k.emitF now) (enqF q (k.emitX now) now).2≤vF k q∧ ∀ u,Ph1 u k q→Ph1 u (k.emitF now) (enqF q (k.emitX now) now).2:=by
 have hv:=h.v;obtain⟨z,x',s1,s2,s3,s4,s5,s6⟩:=enq_room hi (now:=now) (x:=k.emitX now) h.id h.c1 h.c2 h.c3 h.only (by unfold vF at hv;omega);obtain⟨r1,r2,r3⟩:=SK.rg_ok hk hm;have hrg:rgn x'=k.rg:=by
  unfold rgn;rw[s2,s3];show(k.rg.1,k.rg.1+(k.rg.2-k.rg.1))=k.rg
  rw[show k.rg.1+(k.rg.2-k.rg.1)=k.rg.2 from by omega]
 have hlen:x'.len=k.rg.2-k.rg.1:=s3;obtain⟨b1,b2,b3,b4,b5,b6⟩:=SK.emitF_same k now;have hqc:(enqF q (k.emitX now) now).2.c=q.c:=enqF_c _ _ _;have hout:(k.emitF now).out=((flSegs ((enqF q (k.emitX now) now).2.fl 5)).map SG.len).sum:=by
  rw[s5];show k.out+(k.rg.2-k.rg.1)=_
  rw[h.out,List.map_append,List.sum_append];simp[hlen]
 have hst: ∀ x∈flSegs ((enqF q (k.emitX now) now).2.fl 5),x.stamp≤now+10000000000:=fun x hx=>by
  rw[s5]at hx;rcases List.mem_append.1 hx with hx | hx
  ·exact h.st x hx
  ·rw[List.mem_singleton]at hx
   rw[hx,←h.c4];exact s4
 have hft:((flSegs (q.fl 5)++[x']).map rgn)=(flSegs (q.fl 5)).map rgn++[k.rg]:=by rw[List.map_append,List.map_singleton,hrg]
 cases hl:k.los with
 | true=>
  have hnl:lostIx k.pcs≠ -1:=of_decide_eq_true hl;rcases lostIx_cases k.pcs with⟨e,_⟩ | ⟨i,x,hix,hx,_,hxl⟩
  ·exact absurd e hnl
  ·have hp:(k.emitF now).pcs=k.pcs.set i { x with sent:=k.snt now,lost:=false }:=by
    show(k.brd now).pcs=_
    rw[SK.brd_los hl];show agL k.pcs (k.snt now)=_
    unfold agL;rw[hix,Int.toNat_natCast,hx]
   have he:(k.emitF now).e=k.e:=by show(k.brd now).e=_;rw[SK.brd_los hl]
   have hbf:(k.emitF now).bf=k.bf:=by show(k.brd now).bf=_;rw[SK.brd_los hl]
   have hfu:(k.emitF now).fut=k.fut:=by unfold SK.fut SK.uns;rw[hbf]
   have hkr:k.rg=(x.frm,x.til):=by
    rw[SK.rg_los hl];unfold agR;rw[hix,Int.toNat_natCast,hx]
   have hlike:=set_like (y:={ x with sent:=k.snt now,lost:=false }) hx rfl rfl;have hno:=nLo_set (y:={ x with sent:=k.snt now,lost:=false }) hx hxl rfl;have hsk: ∀ p∈(k.emitF now).pcs,p.sacked=false:=fun p hpm=>by
    rw[hp]at hpm;rcases List.mem_or_eq_of_mem_set hpm with hpm | rfl
    ·exact h.sack p hpm
    ·exact h.sack x (List.mem_of_getElem? hx)
   refine⟨z,⟨b1.trans h.id,by rw[hqc];exact h.c1,by rw[hqc];exact h.c2,by rw[hqc];exact h.c3,by rw[hqc];exact h.c4,by rw[b3];exact h.ms,by rw[b5];exact h.wr,by rw[hp,he];exact h.tile.set_ hx rfl rfl,hsk,by rw[b2];exact h.cw,s6,fun r hr=>by rw[hp];exact(h.had r hr).like hlike,fun y hy=> ?_,hout, ?_,by rw[hp,hfu,List.length_set];exact h.pf,hst⟩, ?_,fun u hu=> ?_⟩
   ·rw[s5]at hy
    rw[hp];rcases List.mem_append.1 hy with hy | hy
    ·exact(h.qs y hy).like hlike
    ·rw[List.mem_singleton]at hy
     subst hy;exact Okr.like (.inr ⟨x,List.mem_of_getElem? hx,by rw[hrg,hkr],by rw[hrg,hkr]⟩) hlike
   ·unfold vF at hv ⊢
    rw[s5,hp,hfu,List.length_append];simp only[List.length_cons,List.length_nil];omega
   ·unfold vF
    rw[s5,hp,hfu,List.length_append];simp only[List.length_cons,List.length_nil];omega
   ·obtain⟨F,L,f1,f2,f3,f4⟩:=hu
    obtain⟨e1,r,e2⟩:=cut_at f1 f2 f3 hix hx hxl;refine⟨F++[{ x with sent:=k.snt now,lost:=false }],r, ?_,fun p hpm=> ?_,fun p hpm=>f3 p (by rw[e2];exact List.mem_cons_of_mem _ hpm), ?_⟩
    ·rw[hp,f1,e2,e1,List.set_append_right _ _ (Nat.le_refl _),Nat.sub_self,List.set_cons_zero]
     simp
    ·rcases List.mem_append.1 hpm with hpm | hpm
     ·exact f2 p hpm
     ·rw[List.mem_singleton]at hpm;rw[hpm]
    ·rw[s5,hft,List.filter_append,f4,List.map_append,List.filter_append,List.map_singleton,hkr]
 | false=>
  obtain⟨_,m1,m2,m3,m4⟩:=SK.may_zero hm;have hun:=m1 hl;have hno: ∀ p∈k.pcs,p.lost=false:=fun p hpm=>by
   rcases lostIx_cases k.pcs with⟨_,e⟩ | ⟨i,x,hix,_⟩
   ·rw[List.find?_eq_none]at e
    simpa using e p hpm
   ·have:lostIx k.pcs≠ -1:=by omega
    have h2:k.los=true:=decide_eq_true this;rw[hl]at h2;cases h2
  have ht:=tso_ge h.ms;have hke:=hk.e;have hp:(k.emitF now).pcs=k.pcs++[⟨k.e,k.bf.tk+min k.tso k.uns,k.snt now,false,false⟩]:=by
   show(k.brd now).pcs=_
   rw[SK.brd_no hl]
  have he:(k.emitF now).e=k.bf.tk+min k.tso k.uns:=by show(k.brd now).e=_;rw[SK.brd_no hl]
  have hbf:(k.emitF now).bf=btkF k.bf (min k.tso k.uns):=by show(k.brd now).bf=_;rw[SK.brd_no hl]
  have hfu:(k.emitF now).fut+1≤k.fut:=by
   have:(k.emitF now).uns=k.uns-min k.tso k.uns:=by
    unfold SK.uns;rw[hbf];show k.bf.wr-(k.bf.tk+_)=_
    unfold SK.uns;omega
   unfold SK.fut;rw[this];omega
  have hkr:k.rg=(k.e,k.bf.tk+min k.tso k.uns):=by rw[SK.rg_no hl,hke]
  have hlike: ∀ p∈k.pcs,∃ q∈k.pcs++[(⟨k.e,k.bf.tk+min k.tso k.uns,k.snt now,false,false⟩:PC)],q.frm=p.frm∧q.til=p.til:=fun p hpm=>⟨p,List.mem_append_left _ hpm,rfl,rfl⟩
  have hnl:nLo (k.pcs++[(⟨k.e,k.bf.tk+min k.tso k.uns,k.snt now,false,false⟩:PC)])=nLo k.pcs:=by
   unfold nLo;rw[List.countP_append];rfl
  have hsk: ∀ p∈(k.emitF now).pcs,p.sacked=false:=fun p hpm=>by
   rw[hp]at hpm;rcases List.mem_append.1 hpm with hpm | hpm
   ·exact h.sack p hpm
   ·rw[List.mem_singleton]at hpm;rw[hpm]
  have hpf:=h.pf;refine⟨z,⟨b1.trans h.id,by rw[hqc];exact h.c1,by rw[hqc];exact h.c2,by rw[hqc];exact h.c3,by rw[hqc];exact h.c4,by rw[b3];exact h.ms,by rw[b5];exact h.wr,by rw[hp,he];exact h.tile.snoc (p:=⟨k.e,k.bf.tk+min k.tso k.uns,k.snt now,false,false⟩) rfl (by show k.e<k.bf.tk+min k.tso k.uns;omega),hsk,by rw[b2];exact h.cw,s6,fun r hr=>by rw[hp];exact(h.had r hr).like hlike,fun y hy=> ?_,hout, ?_, ?_,hst⟩, ?_,fun u hu=> ?_⟩
  ·rw[s5]at hy
   rw[hp];rcases List.mem_append.1 hy with hy | hy
   ·exact(h.qs y hy).like hlike
   ·rw[List.mem_singleton]at hy
    subst hy;exact .inr ⟨_,List.mem_append_right _ (List.mem_singleton_self _),by rw[hrg,hkr],by rw[hrg,hkr]⟩
  ·unfold vF at hv ⊢
   rw[s5,hp,hnl,List.length_append];simp only[List.length_cons,List.length_nil];omega
  ·rw[hp,List.length_append]
   simp only[List.length_cons,List.length_nil];omega
  ·unfold vF
   rw[s5,hp,hnl,List.length_append];simp only[List.length_cons,List.length_nil];omega
  ·obtain⟨F,L,f1,f2,f3,f4⟩:=hu
   have hL:L=[]:=by
    cases hL0:L with
    | nil=>rfl
    | cons p r=>
     have h2:=f3 p (by rw[hL0];simp);rw[hno p (by rw[f1,hL0];simp)]at h2;cases h2
   rw[hL,List.append_nil]at f1;refine⟨F++[⟨k.e,k.bf.tk+min k.tso k.uns,k.snt now,false,false⟩],[], ?_,fun p hpm=> ?_,fun p hpm=>(by cases hpm), ?_⟩
   ·rw[hp,f1,List.append_nil]
   ·rcases List.mem_append.1 hpm with hpm | hpm
    ·exact f2 p hpm
    ·rw[List.mem_singleton]at hpm;rw[hpm]
   ·rw[s5,hft,List.filter_append,f4,List.map_append,List.filter_append,List.map_singleton,hkr]
theorem KqI.mayS_ {now W en B:Nat} {had:List (Nat×Nat)} {k:SK} {q:FQ} (h:KqI now W en B had k q):KqI now W en B had k.mayS q∧vF k.mayS q=vF k q∧k.mayS.mayE=k.mayE∧(∀ u,Ph1 u k q→Ph1 u k.mayS q)∧k.mayS.e=k.e:=by
 unfold SK.mayS;split
 ·exact⟨⟨h.id,h.c1,h.c2,h.c3,h.c4,h.ms,h.wr,h.tile,h.sack,h.cw,h.only,h.had,h.qs,h.out,h.v,h.pf,h.st⟩,rfl,rfl,fun u hu=>hu,rfl⟩
 ·exact⟨h,rfl,rfl,fun u hu=>hu,rfl⟩
theorem KqI.pump {now W en B:Nat} {had:List (Nat×Nat)} {k:SK} {q:FQ} (h:KqI now W en B had k q) (hB:B≤100) (hn:now<18446744073709551616) (hk:k.ok) (hi:q.inv):
  KqI now W en B had (pumpR now k q ou0).1 (pumpR now k q ou0).2.1∧vF (pumpR now k q ou0).1 (pumpR now k q ou0).2.1≤vF k q∧(pumpR now k q ou0).1.mayE≠0∧ ∀ u,Ph1 u k q→Ph1 u (pumpR now k q ou0).1 (pumpR now k q ou0).2.1:=by
 obtain⟨k0,e1,k1,k2,⟨k3,k4,k5⟩,_,_⟩:=pumpN_end (P:=fun k' q'=>KqI now W en B had k' q'∧vF k' q'≤vF k q∧ ∀ u,Ph1 u k q→Ph1 u k' q') hn (fun k' q' hk' hi' hP hm=>by
  obtain⟨p1,p2,p3⟩:=hP;obtain⟨a1,a2,a3,a4⟩:=p1.emit hB hk' hi' hm;exact⟨a1,a2,Nat.le_trans a3 p2,fun u hu=>a4 u (p3 u hu)⟩) 600 k q ou0 _ hk hi ⟨h,Nat.le_refl _,fun u hu=>hu⟩ (pumpR_eq hn ou0 hk hi)
 obtain⟨m1,m2,m3,m4,_⟩:=k3.mayS_;rw[e1];exact⟨m1,by rw[m2];exact k4,by rw[m3];exact k2,fun u hu=>m4 u (k5 u hu)⟩
end
section
open Go.RowKit Go.Lib
def sdD (kind len:Int) (upto:Nat):DD:=⟨kind,5,len,upto,0,[],cr0⟩
def clkD (t:Nat):DD:=⟨5,0,0,0,t,[],cr0⟩
theorem sdD_ok {kind len:Int} {upto:Nat} (h1: -9223372036854775808≤len) (h2:len≤200000) (h3:upto<18446744073709551616):(sdD kind len upto).ok:=⟨h1,h2,h3,show 0<_ by decide,show 0≤6 by decide,show 0<_ by decide⟩
theorem clkD_ok {t:Nat} (h:t<18446744073709551616):(clkD t).ok:=⟨show _≤(0:Int) by decide,show(0:Int)≤_ by decide,show 0<_ by decide,h,show 0≤6 by decide,show 0<_ by decide⟩
theorem do_clk (m:MC) (t:Nat):doF m (clkD t)=(mvE m.now t,{ m with now:=mvN m.now t },ou0):=by
 unfold doF;rw[if_pos (show(clkD t).kind=5 from rfl)];rfl
theorem do_sock {m:MC} {k:SK} (hk:m.sk 5=some k) {kind len:Int} {upto:Nat} (hd:kind=2∨kind=3∨kind=4∨kind=7) (he:tldE k (sdD kind len upto) m.now=0):
  doF m (sdD kind len upto)=(0,{ m with sk:=putF m.sk 5 (some (pumpR m.now (tldF k (sdD kind len upto) m.now) m.q ou0).1),q:=(pumpR m.now (tldF k (sdD kind len upto) m.now) m.q ou0).2.1 },(pumpR m.now (tldF k (sdD kind len upto) m.now) m.q ou0).2.2):=by
 have e1:oneF m (sdD kind len upto)=oneS m (sdD kind len upto) 5 (m.sk 5):=by
  unfold oneF;exact if_pos (show(decide ((0:Int)≤5)&&decide ((5:Int)<8))=true by rfl)
 have e2:doF m (sdD kind len upto)=oneF m (sdD kind len upto):=by
  unfold doF;have h1: ¬(sdD kind len upto).kind=5:=by show ¬ kind=5;omega
  have h2: ¬(sdD kind len upto).kind=6:=by show ¬ kind=6;omega
  have h3: ¬(sdD kind len upto).kind=8:=by show ¬ kind=8;omega
  rw[if_neg h1,if_neg h2,if_neg h3,if_pos (by show kind=1∨kind=2∨kind=3∨kind=4∨kind=7∨kind=9;omega)]
 rw[e2,e1,hk];have h1: ¬(sdD kind len upto).kind=1:=by show ¬ kind=1;omega
 have h9: ¬(sdD kind len upto).kind=9:=by show ¬ kind=9;omega
 simp only[oneS];rw[if_neg h1,if_neg h9,if_pos he]
theorem SameT.segs {a b:Nat→Option FL} (h:SameT a b) (s:Nat):flSegs (b s)=flSegs (a s):=by
 cases hb:b s with
 | none=>
  cases ha:a s with
  | none=>rfl
  | some f=>
   obtain⟨f',e,_⟩:=(h s).1 f ha;rw[hb]at e;cases e
 | some f'=>
  obtain⟨f,e,e2,_⟩:=(h s).2 f' hb;rw[e];exact e2
theorem seg_none {f:Option FL} (h:flSegs f=[]): ∀ g,f=some g→g.segs=[]:=fun g e=>by rw[e]at h;exact h
theorem only_rise {q:FQ} (hi:q.inv) (ho: ∀ s,s≠5→flSegs (q.fl s)=[]):q.waits.Pairwise klt:=by
 have h5: ∀ k∈q.waits,k.2=5:=fun k hk=>by
  obtain⟨f,hf,hne,_⟩:=hi.wt k hk;exact Decidable.not_not.1 fun e=>hne (seg_none (ho k.2 e) f hf)
 have hnd:(q.waits.map (·.2)).Nodup:=(List.nodup_append.1 hi.ok.nd).2.1;cases hw:q.waits with
 | nil=>exact .nil
 | cons a r=>
  cases r with
  | nil=>exact List.pairwise_singleton _ _
  | cons b r=>
   rw[hw]at hnd h5;have h1:=h5 a (by simp);have h2:=h5 b (by simp);simp[h1,h2]at hnd
theorem ls5 {q:FQ} (ho: ∀ s,s≠5→flSegs (q.fl s)=[]):(flSegs (q.fl 5)=[]→(lsF q.fl 8).2=false)∧ ∀ f,q.fl 5=some f→f.segs≠[]→(lsF q.fl 8).2=true∧(lsF q.fl 8).1=timeF f:=by
 obtain⟨h1,h2⟩:=lsF_is q.fl 8;have hs: ∀ s f,q.fl s=some f→f.segs≠[]→s=5:=fun s f hf hne=>Decidable.not_not.1 fun e=>hne (seg_none (ho s e) f hf)
 refine⟨fun h0=> ?_,fun f hf hne=> ?_⟩
 ·cases hb:(lsF q.fl 8).2 with
  | false=>rfl
  | true=>
   obtain⟨s,f,_,hf,hne,_⟩:=h1 hb;obtain rfl:=hs s f hf hne;exact absurd (seg_none h0 f hf) hne
 ·obtain⟨e1,_⟩:=h2 5 f (by decide) hf hne
  obtain⟨s,f',_,hf',hne',ht⟩:=h1 e1;obtain rfl:=hs s f' hf' hne';rw[hf]at hf';cases hf'
  exact⟨e1,ht.symm⟩
theorem stepD_same {C:CF} {q:FQ} (hi:q.inv) {now:Nat} {a:Nat→Option FL} (h:SameT a q.fl∧q.c=C) {rt:Nat→Nat} {q':FQ} (hs:stepD q now rt= .inl q'):SameT a q'.fl∧q'.c=C:=by
 obtain⟨h1,hc⟩:=h;unfold stepD at hs;cases hh:(lall q.fresh q.old).head? with
 | none=>rw[hh]at hs;cases hs
 | some sf=>
  obtain⟨s,fr⟩:=sf;obtain⟨f,hf⟩:=hi.there s (List.mem_append_left _ (head_mem hh));rw[hh]at hs;simp only at hs
  rw[hf]at hs;simp only at hs
  split at hs
  ·cases hs;exact⟨h1.put_ hf rfl rfl,hc⟩
  ·cases hsg:f.segs with
   | nil=>
    rw[hsg]at hs;simp only at hs
    split at hs
    ·cases hs;exact⟨h1,hc⟩
    ·cases hs;exact⟨h1.put_ hf hsg.symm rfl,hc⟩
   | cons x r=>
    rw[hsg]at hs;simp only at hs
    split at hs
    ·cases hs;exact⟨h1,hc⟩
    ·cases hs
theorem deq_segs {q:FQ} (hi:q.inv) {now:Nat} (hn:now<18446744073709551616) (rt:Nat→Nat):
  ((deqR q now rt).1=none∧SameT q.fl (deqR q now rt).2.fl)∨ ∃ s x,(deqR q now rt).1=some x∧x.ok∧flSegs (q.fl s)=x::flSegs ((deqR q now rt).2.fl s)∧ ∀ j,j≠s→flSegs ((deqR q now rt).2.fl j)=flSegs (q.fl j):=by
 obtain⟨q0,h0,⟨hp,_⟩,hs⟩:=deqN_ind (P:=fun q'=>SameT q.fl q'.fl∧q'.c=q.c) hn (fun q1 q2 i1 hc h2=>stepD_same i1 hc h2) _ _ _ (dueI_inv hi _) ⟨SameT.refl _,rfl⟩ (deqR_eq hi hn rt);rcases stepD_inr h0 hs with⟨_,_,e⟩ | ⟨s,f,x,r,hm,hs8,hf,hsg,hcr,ht,e⟩
 ·rw[e];exact .inl ⟨rfl,hp⟩
 ·rw[e]
  have hq: ∀ j,flSegs ((sendQ q0 s f x r now (rt s)).fl j)=if j=s then r else flSegs (q0.fl j):=fun j=>putF_segs rfl
  refine .inr ⟨s,x,rfl,(h0.fl s f hf).sg x (by rw[hsg];simp), ?_,fun j hj=> ?_⟩
  ·rw[hq,if_pos rfl,←hp.segs,hf]
   exact hsg
  ·rw[hq,if_neg hj,hp.segs]
def Rdy (q:FQ) (now:Nat):Prop:= ∃ f,q.fl 5=some f∧f.segs≠[]∧timeF f≤now
theorem pull5 {q:FQ} (hi:q.inv) {now:Nat} (hn:now<18446744073709551616) (rt:Nat→Nat) (ho: ∀ s,s≠5→flSegs (q.fl s)=[]):
  (flSegs (q.fl 5)=[]∧(pullO (deqR q now rt) ou0).dep=[]∧(pullO (deqR q now rt) ou0).dog=0∧SameT q.fl (deqR q now rt).2.fl∧ ¬ Rdy q now)∨
  (∃ f,q.fl 5=some f∧f.segs≠[]∧now<timeF f∧(pullO (deqR q now rt) ou0).dep=[]∧(pullO (deqR q now rt) ou0).dog=timeF f∧SameT q.fl (deqR q now rt).2.fl∧ ¬ Rdy q now)∨
  ∃ x,x.ok∧flSegs (q.fl 5)=x::flSegs ((deqR q now rt).2.fl 5)∧(pullO (deqR q now rt) ou0).dep=[x]∧(pullO (deqR q now rt) ou0).dog=0∧ ∀ j,j≠5→flSegs ((deqR q now rt).2.fl j)=[]:=by
 obtain⟨l1,l2⟩:=ls5 ho;have hinv:=(deqR_inv hi hn rt).1;rcases deq_segs hi hn rt with⟨e1,e2⟩ | ⟨s,x,e1,ex,e2,e3⟩
 ·have ho2: ∀ s,s≠5→flSegs ((deqR q now rt).2.fl s)=[]:=fun s hs=>by rw[e2.segs];exact ho s hs
  obtain⟨w1,w2,_⟩:=works hi hn rt (only_rise hi ho) (only_rise hinv ho2);have hd:(pullO (deqR q now rt) ou0).dep=[]:=by unfold pullO;rw[e1];rfl
  rw[hd]at w1;have w1:false=((lsF q.fl 8).2&&decide ((lsF q.fl 8).1≤now)):=w1;rw[←w1]at w2;cases hq:q.fl 5 with
  | none=>
   have h0:flSegs (q.fl 5)=[]:=by rw[hq];rfl
   rw[l1 h0]at w2;refine .inl ⟨rfl,hd,w2,e2, ?_⟩;rintro⟨f,hf,_⟩;rw[hq]at hf;cases hf
  | some f=>
   by_cases hne:f.segs=[]
   ·have h0:flSegs (q.fl 5)=[]:=by rw[hq];exact hne
    rw[l1 h0]at w2;refine .inl ⟨hne,hd,w2,e2, ?_⟩;rintro⟨g,hg,hn2,_⟩;rw[hq]at hg;cases hg;exact hn2 hne
   ·obtain⟨b1,b2⟩:=l2 f hq hne
    rw[b1,b2]at w1 w2;have hlt:now<timeF f:=by
     have:decide (timeF f≤now)=false:=w1.symm;have:=of_decide_eq_false this;omega
    refine .inr (.inl ⟨f,rfl,hne,hlt,hd, ?_,e2, ?_⟩)
    ·rw[w2,if_pos (by rfl)];omega
    ·rintro⟨g,hg,_,hgt⟩
     rw[hq]at hg;cases hg;omega
 ·have h5:s=5:=Decidable.not_not.1 fun e=>by rw[ho s e]at e2;cases e2
  subst h5;have hd:(pullO (deqR q now rt) ou0).dep=[x]:=by unfold pullO;rw[e1]
  have hg:(pullO (deqR q now rt) ou0).dog=0:=by unfold pullO;rw[e1];rfl
  exact .inr (.inr ⟨x,ex,e2,hd,hg,fun j hj=>by rw[e3 j hj];exact ho j hj⟩)
theorem vF_segs {k:SK} {q q':FQ} (hs: ∀ s,flSegs (q'.fl s)=flSegs (q.fl s)):vF k q'=vF k q:=by unfold vF;rw[hs]
theorem KqI.segs {now now' W en B:Nat} {had:List (Nat×Nat)} {k:SK} {q q':FQ} (h:KqI now W en B had k q) (hc:q'.c=q.c) (hs: ∀ s,flSegs (q'.fl s)=flSegs (q.fl s)) (hn:now≤now'):KqI now' W en B had k q':=
 ⟨h.id,by rw[hc];exact h.c1,by rw[hc];exact h.c2,by rw[hc];exact h.c3,by rw[hc];exact h.c4,h.ms,h.wr,h.tile,h.sack,h.cw,fun s hs5=>by rw[hs];exact h.only s hs5,h.had,by rw[hs];exact h.qs,by rw[hs];exact h.out,by rw[vF_segs hs];exact h.v,h.pf,by rw[hs];exact fun x hx=>Nat.le_trans (h.st x hx) (by omega)⟩
theorem Ph1.segs {u:Nat} {k:SK} {q q':FQ} (h:Ph1 u k q) (hs: ∀ s,flSegs (q'.fl s)=flSegs (q.fl s)):Ph1 u k q':=by unfold Ph1 at h ⊢;rw[hs];exact h
theorem KqI.done {now W en B:Nat} {had had':List (Nat×Nat)} {k:SK} {q q':FQ} {x:SG} (h:KqI now W en B had k q) (hx:x.ok) (hc:q'.c=q.c) (h5:flSegs (q.fl 5)=x::flSegs (q'.fl 5)) (ho: ∀ j,j≠5→flSegs (q'.fl j)=[]) (hh:had'=had∨had'=had++[rgn x]) (u:Nat):
  tldE k (sdD 7 x.len u) now=0∧KqI now W en B had' (tldF k (sdD 7 x.len u) now) q'∧vF (tldF k (sdD 7 x.len u) now) q'+1=vF k q∧(tldF k (sdD 7 x.len u) now).pcs=k.pcs∧(tldF k (sdD 7 x.len u) now).e=k.e:=by
 have hl:=hx.l1;have hout:=h.out;rw[h5,List.map_cons,List.sum_cons]at hout;have hno: ¬((x.len:Int)<1∨(k.out:Int)<x.len):=by omega
 have e1:tldF k (sdD 7 x.len u) now={ k with out:=k.out-x.len }:=by
  show(if(7:Int)=2 then _ else if(7:Int)=3 then _ else if(7:Int)=4 then _ else k.donF x.len)=_
  rw[if_neg (by decide),if_neg (by decide),if_neg (by decide)];unfold SK.donF;rw[if_neg hno,Int.toNat_natCast]
 have e2:tldE k (sdD 7 x.len u) now=0:=by
  show(if(7:Int)=2 then _ else if(7:Int)=3 then _ else if(7:Int)=4 then _ else k.donE x.len)=_
  rw[if_neg (by decide),if_neg (by decide),if_neg (by decide)];unfold SK.donE;rw[if_neg hno]
 have hv:vF { k with out:=k.out-x.len } q'+1=vF k q:=by
  unfold vF;rw[h5,List.length_cons];show _+nLo k.pcs+k.fut+1=_
  omega
 have hvb:=h.v;rw[e1];refine⟨e2,⟨h.id,by rw[hc];exact h.c1,by rw[hc];exact h.c2,by rw[hc];exact h.c3,by rw[hc];exact h.c4,h.ms,h.wr,h.tile,h.sack,h.cw,ho,fun r hr=> ?_,fun y hy=>h.qs y (by rw[h5];exact List.mem_cons_of_mem _ hy), ?_,by omega,h.pf,fun y hy=>h.st y (by rw[h5];exact List.mem_cons_of_mem _ hy)⟩,hv,rfl,rfl⟩
 ·rcases hh with rfl | rfl
  ·exact h.had r hr
  ·rcases List.mem_append.1 hr with hr | hr
   ·exact h.had r hr
   ·rw[List.mem_singleton]at hr
    rw[hr];exact h.qs x (by rw[h5];exact List.mem_cons_self ..)
 ·show k.out-x.len=_
  omega
theorem update_cw {s:BB} {x:SM} {tso:Nat} (h:(s.update x tso).ok):1≤(s.update x tso).cwnd:=by
 have h1:=h.mss.1;have e:(s.update x tso).mss=(s.up9 x).mss:=rfl;rw[e]at h1;show 1≤(if(s.up9 x).mode=3 then 4*(s.up9 x).mss else max ((s.up9 x).win2 x tso) (4*(s.up9 x).mss))
 split<;>omega
theorem KqI.acked {now W en B u:Nat} {had:List (Nat×Nat)} {k:SK} {q:FQ} (h:KqI now W en B had k q) (hb:Bdy en k.pcs u) (hok:(tldF k (sdD 3 0 u) now).ok):
  tldE k (sdD 3 0 u) now=0∧KqI now W u B had (tldF k (sdD 3 0 u) now) q∧vF (tldF k (sdD 3 0 u) now) q≤vF k q∧(Ph1 u k q→Ph1 u (tldF k (sdD 3 0 u) now) q):=by
 obtain⟨u1,u2⟩:=hb.le h.tile;have hmay:mayF u k.e []=true:=by
  unfold mayF;simp[u2]
 have e1:tldF k (sdD 3 0 u) now=k.ackN now u []:=by
  show(if(3:Int)=2 then _ else if(3:Int)=3 then k.ack now u []else _)=_
  rw[if_neg (by decide),if_pos rfl];unfold SK.ack;rw[if_pos hmay]
 have e2:tldE k (sdD 3 0 u) now=0:=by
  show(if(3:Int)=2 then _ else if(3:Int)=3 then k.ackE u []else _)=_
  rw[if_neg (by decide),if_pos rfl];unfold SK.ackE;rw[if_pos hmay]
 rw[e1]at hok ⊢;have hp:(k.ackN now u []).pcs=k.pcs.filter (fun p=> !decide (p.til≤u)):=by
  show(psF (restF u [] k.pcs)).1=_
  rw[restF_none u k.pcs h.sack];exact(psF_none _ fun p hp=>h.sack p (List.mem_filter.1 hp).1).1
 have he:(k.ackN now u []).e=k.e:=rfl;have hbf:(k.ackN now u []).bf=backF k.bf u:=rfl;have hfu:(k.ackN now u []).fut=k.fut:=by unfold SK.fut SK.uns;rw[hbf,backF_wr,backF_tk]
 have hv:vF (k.ackN now u []) q≤vF k q:=by
  unfold vF;rw[hp,hfu];have:=nLo_filter k.pcs (fun p=> !decide (p.til≤u));omega
 have hcw:1≤(k.ackN now u []).bb.cwnd:=by
  have:=hok.bb;unfold SK.ackN SK.lrn at this ⊢;exact update_cw this
 refine⟨e2,⟨h.id,h.c1,h.c2,h.c3,h.c4,h.ms, ?_,by rw[hp,he];exact h.tile.drop_ hb,fun p hpm=> ?_,hcw,h.only,fun r hr=>by rw[hp];exact(h.had r hr).drop_ u1,fun x hx=>by rw[hp];exact(h.qs x hx).drop_ u1,h.out,Nat.le_trans hv h.v, ?_,h.st⟩,hv,fun hu=> ?_⟩
 ·rw[hbf,backF_wr];exact h.wr
 ·rw[hp]at hpm
  exact h.sack p (List.mem_filter.1 hpm).1
 ·rw[hp,hfu]
  exact Nat.le_trans (Nat.add_le_add_right (List.length_filter_le _ _) _) h.pf
 ·obtain⟨F,L,f1,f2,f3,f4⟩:=hu
  refine⟨F.filter (fun p=> !decide (p.til≤u)),L.filter (fun p=> !decide (p.til≤u)), ?_,fun p hp=>f2 p (List.mem_filter.1 hp).1,fun p hp=>f3 p (List.mem_filter.1 hp).1, ?_⟩
  ·rw[hp,f1,List.filter_append]
  ·rw[f4,List.filter_map,List.filter_map,List.filter_filter]
   congr 1
   refine List.filter_congr fun p _=> ?_
   by_cases hpu:p.til≤u
   ·have: ¬ u<p.til:=by omega
    simp[this]
   ·have:u<p.til:=by omega
    simp[this,hpu]
theorem loseP_same (p:PC):(loseP p).frm=p.frm∧(loseP p).til=p.til∧(loseP p).sacked=p.sacked:=by unfold loseP;split<;>exact⟨rfl,rfl,rfl⟩
theorem loseP_lost {p:PC} (h:p.sacked=false):(loseP p).lost=true:=by
 unfold loseP flyB;cases hl:p.lost with
 | true=>simp[h,hl]
 | false=>simp[h]
theorem KqI.lost {now W en B:Nat} {had:List (Nat×Nat)} {k:SK} {q:FQ} (h:KqI now W en B had k q) (h5:flSegs (q.fl 5)=[]) (hok:(tldF k (sdD 4 0 0) now).ok):
  tldE k (sdD 4 0 0) now=0∧KqI now W en B had (tldF k (sdD 4 0 0) now) q∧Ph1 en (tldF k (sdD 4 0 0) now) q:=by
 have e1:tldF k (sdD 4 0 0) now=k.lose now:=by
  show(if(4:Int)=2 then _ else if(4:Int)=3 then _ else if(4:Int)=4 then k.lose now else _)=_
  rw[if_neg (by decide),if_neg (by decide),if_pos rfl]
 have e2:tldE k (sdD 4 0 0) now=0:=by
  show(if(4:Int)=2 then _ else if(4:Int)=3 then _ else if(4:Int)=4 then 0 else _)=_
  rw[if_neg (by decide),if_neg (by decide),if_pos rfl]
 rw[e1]at hok ⊢;have hp:(k.lose now).pcs=k.pcs.map loseP:=rfl;have hlike: ∀ p∈k.pcs,∃ q∈k.pcs.map loseP,q.frm=p.frm∧q.til=p.til:=fun p hpm=>⟨loseP p,List.mem_map_of_mem hpm,(loseP_same p).1,(loseP_same p).2.1⟩
 have hcw:1≤(k.lose now).bb.cwnd:=by
  have:=hok.bb;unfold SK.lose SK.lrn at this ⊢;exact update_cw this
 have hpf:=h.pf;refine⟨e2,⟨h.id,h.c1,h.c2,h.c3,h.c4,h.ms,h.wr,h.tile.map_ loseP fun p=>⟨(loseP_same p).1,(loseP_same p).2.1⟩,fun p hpm=> ?_,hcw,h.only,fun r hr=>(h.had r hr).like hlike,fun x hx=>(h.qs x hx).like hlike,h.out, ?_,by show(k.pcs.map loseP).length+k.fut≤B;rw[List.length_map];exact hpf,h.st⟩,[],k.pcs.map loseP,rfl,fun p hp=>(by cases hp),fun p hpm=> ?_, ?_⟩
 ·rw[hp]at hpm
  obtain⟨y,hy,rfl⟩:=List.mem_map.1 hpm;rw[(loseP_same y).2.2];exact h.sack y hy
 ·show(flSegs (q.fl 5)).length+nLo (k.pcs.map loseP)+k.fut≤B
  have:=nLo_le (k.pcs.map loseP);rw[List.length_map]at this;rw[h5];simp only[List.length_nil];omega
 ·obtain⟨y,hy,rfl⟩:=List.mem_map.1 hpm
  exact loseP_lost (h.sack y hy)
 ·rw[h5]
  rfl
end
end Go.Proofs.YtojgokiobdpclaaGreat
