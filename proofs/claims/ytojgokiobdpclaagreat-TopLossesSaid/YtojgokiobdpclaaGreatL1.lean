import Derived.Test.YtojgokiobdpclaaGreatP44
import Derived.Laws.StructEq
import Derived.Deep.Slices
import Derived.Deep.Fields
import Derived.ChangeSame
namespace Go.Proofs.YtojgokiobdpclaaGreat
set_option linter.unusedVariables false
set_option linter.unusedSimpArgs false
set_option maxRecDepth 8000
set_option maxHeartbeats 8000000
section
open Go.RowKit Go.Lib
def RdZ (w:World) (g:Nat→Nat) (v:Value) (size n:Nat) (xs:List Value):Prop:=Rd w v size n xs∧ ∀ a m c,v= .slice (some a) m c→0<n→a.block<w.heap.size∧g a.block=0
section
variable {w w':World} {g g':Nat→Nat} {v:Value} {size n lo hi:Nat} {xs:List Value}
theorem RdZ.same (h:RdZ w g v size n xs) (hb: ∀ b,b<w.heap.size→g b=0→w'.heap[b]? =w.heap[b]? ∧b<w'.heap.size∧g' b=0):RdZ w' g' v size n xs:=by
 obtain⟨⟨h1,h2⟩,h3⟩:=h;refine⟨⟨h1, ?_⟩,fun a m c hv h0=> ?_⟩
 ·rcases h2 with hn | ⟨b,off,cap,hv,k1,k2,k3,k4⟩
  ·exact .inl hn
  ·by_cases h0:0<n
   ·obtain⟨_,gb⟩:=h3 _ _ _ hv h0
    obtain⟨q1,q2,q3⟩:=hb b k1 gb;exact .inr ⟨b,off,cap,hv,q2,k2,k3,fun j hj=>(World.cell?_of_block q1).trans (k4 j hj)⟩
   ·obtain rfl:n=0:=by omega
    exact .inl ⟨⟨_,_,hv⟩,rfl⟩
 ·obtain⟨q1,q2⟩:=h3 a m c hv h0
  obtain⟨_,q3,q4⟩:=hb _ q1 q2;exact⟨q3,q4⟩
theorem RdZ.chg (h:RdZ w g v size n xs) (c:Chg w w' g g' lo hi) (h0:0<lo):RdZ w' g' v size n xs:=
 h.same fun b hb hg=>⟨c.kept b hb (.inl (by rw[hg];exact h0)),Nat.lt_of_lt_of_le hb c.size,(c.old b hb).trans hg⟩
end
end
section
open Go.RowKit Go.Lib
theorem DepAt.rd {w:World} {g:Nat→Nat} {v:Value} {l:List SG} (h:DepAt w g v l):Rd w v 5 l.length (l.flatMap sgl):=by
 match l,h with
 | [],h=>exact⟨rfl, .inl ⟨⟨_,_,h⟩,rfl⟩⟩
 | [x],⟨bd,e,h⟩=>
  refine⟨rfl, .inr ⟨bd,0,1,e,h.1.lt,Nat.le_refl _,by decide,fun j hj=> ?_⟩⟩;rw[Nat.zero_add,h.1.cell j];simp[sga,sgl]
structure OutR (w:World) (v:Value) (o:OU):Prop where
 ex: ∃ a c a2 c2 a3 c3,v= .agg #[.slice a o.dep.length c, .slice a2 o.drop.length c2, .slice a3 o.fates.length c3, .int .u64 o.dog]∧Rd w (.slice a o.dep.length c) 5 o.dep.length (o.dep.flatMap sgl)∧Rd w (.slice a2 o.drop.length c2) 5 o.drop.length (o.drop.flatMap sgl)∧Rd w (.slice a3 o.fates.length c3) 1 o.fates.length (ints o.fates)
theorem OutV.rd {w:World} {g:Nat→Nat} {T:Nat} {v:Value} {o:OU} (h:OutV w g T v o):OutR w v o:=by
 obtain⟨vd,vx,vf,rfl,h1,h2,h3⟩:=h;have r1:=h1.rd;have r2:=h2.rd;have r3:=h3.rd;obtain⟨a,c,rfl,_⟩:=r1.form;obtain⟨a2,c2,rfl,_⟩:=r2.form;obtain⟨a3,c3,rfl,_⟩:=r3.form;exact⟨_,_,_,_,_,_,rfl,r1,r2,r3⟩
end
section
open Go.RowKit Go.Lib
def cr0:CR:=⟨0,0,0,0,0,0,false,0,0⟩
def pulD:DD:=⟨6,0,0,0,0,[],cr0⟩
theorem pulD_ok:pulD.ok:=⟨by decide,by decide,by decide,by decide,by decide,by decide⟩
theorem do_pul (m:MC):doF m pulD=(0,{ m with q:=(deqR m.q m.now m.rt).2 },pullO (deqR m.q m.now m.rt) ou0):=by
 unfold doF;rw[if_neg (show ¬ pulD.kind=5 from(by decide: ¬(6:Int)=5)),if_pos (show pulD.kind=6 from rfl)]
end
section
open Go.RowKit Go.Lib
section
variable {w w':World} {g g':Nat→Nat} {T b:Nat} {m:MC} {n:Nat}
theorem state_at (hm:m.okn n) {s:Nat} (hs:s<8) (hT0:0<T) (hT:Tidy w g) (h:McAt w g T b m):
  Calls Tryz.prog 22 #[.pointer (some ⟨b,0,none⟩), .int .i64 s] w fun e w'=>e= .returned (.tuple #[sto (m.sk s), .bool (m.sk s).isSome])∧Below w.heap.size w w':=by
 obtain⟨pc,sp,pq,pl,fp,bl,bt,h⟩:=h;exact mcstate_any b s hs pc sp pq pl fp bl bt m hm.ok g T hT0 w hT h
theorem now_at (h:McAt w g T b m):Calls Tryz.prog 14 #[.pointer (some ⟨b,0,none⟩)] w fun e w'=>e= .returned (.int .u64 (m.now:Nat))∧w=w':=by
 obtain⟨pc,sp,pq,pl,fp,bl,bt,h⟩:=h;exact mcnow_any b pc sp pq pl fp bl bt m g T w h
end
end
section
open Go.RowKit Go.Lib
def SameT (a b:Nat→Option FL):Prop:= ∀ s,(∀ f,a s=some f→ ∃ f',b s=some f'∧f'.segs=f.segs∧f'.next=f.next)∧ ∀ f',b s=some f'→ ∃ f,a s=some f∧f'.segs=f.segs∧f'.next=f.next
theorem SameT.refl (a:Nat→Option FL):SameT a a:=fun s=>⟨fun f h=>⟨f,h,rfl,rfl⟩,fun f h=>⟨f,h,rfl,rfl⟩⟩
theorem SameT.put_ {a b:Nat→Option FL} (h:SameT a b) {s:Nat} {f f':FL} (hf:b s=some f) (h1:f'.segs=f.segs) (h2:f'.next=f.next):SameT a (putF b s (some f')):=by
 intro k;by_cases e:k=s
 ·subst e
  refine⟨fun g hg=> ?_,fun g hg=> ?_⟩
  ·obtain⟨f2,e2,e3,e4⟩:=(h k).1 g hg
   rw[hf]at e2;cases e2
   exact⟨f',putF_at _ _ _,h1.trans e3,h2.trans e4⟩
  ·rw[putF_at]at hg
   cases hg
   obtain⟨f2,e2,e3,e4⟩:=(h k).2 f hf;exact⟨f2,e2,h1.trans e3,h2.trans e4⟩
 ·rw[putF_ne _ _ e]
  exact h k
theorem timeF_eq {f f':FL} (h1:f'.segs=f.segs) (h2:f'.next=f.next):timeF f'=timeF f:=by unfold timeF;rw[h1,h2]
theorem stepD_wk {q:FQ} (hi:q.inv) {now:Nat} {a:Nat→Option FL} (h:SameT a q.fl∧ ∀ k∈q.waits,now<k.1) {rt:Nat→Nat} {q':FQ} (hs:stepD q now rt= .inl q'):SameT a q'.fl∧ ∀ k∈q'.waits,now<k.1:=by
 unfold stepD at hs;cases hh:(lall q.fresh q.old).head? with
 | none=>rw[hh]at hs;cases hs
 | some sf=>
  obtain⟨s,fr⟩:=sf;obtain⟨f,hf⟩:=hi.there s (List.mem_append_left _ (head_mem hh));rw[hh]at hs;simp only at hs
  rw[hf]at hs;simp only at hs
  split at hs
  ·cases hs;exact⟨h.1.put_ hf rfl rfl,h.2⟩
  ·cases hsg:f.segs with
   | nil=>
    rw[hsg]at hs;simp only at hs
    split at hs
    ·cases hs;exact h
    ·cases hs;exact⟨h.1.put_ hf hsg.symm rfl,h.2⟩
   | cons x r=>
    rw[hsg]at hs;simp only at hs
    split at hs
    ·cases hs
     refine⟨h.1,fun k hk=> ?_⟩;rcases insK_mem.1 hk with rfl | hk
     ·assumption
     ·exact h.2 k hk
    ·cases hs
theorem klt_le {x y:KY} (h:klt x y):x.1≤y.1:=by unfold klt at h;omega
theorem due_late (now:Nat): ∀(l:List KY),l.Pairwise klt→ ∀ k∈l.drop (l.takeWhile (fun k=>decide (k.1≤now))).length,now<k.1
 | [],_,k,hk=>by simp at hk
 | x::r,hp,k,hk=>by
  obtain⟨h1,h2⟩:=List.pairwise_cons.1 hp;by_cases e:x.1≤now
  ·rw[List.takeWhile_cons_of_pos (by simpa using e)]at hk
   exact due_late now r h2 k hk
  ·rw[List.takeWhile_cons_of_neg (by simpa using e)]at hk
   rcases List.mem_cons.1 hk with rfl | hk
   ·omega
   ·have:=klt_le (h1 k hk);omega
def lsF (fl:Nat→Option FL):Nat→Nat×Bool
 | 0=>(0,false)
 | k+1=>match fl k with
  | none=>lsF fl k
  | some f=>if f.segs≠[]∧((lsF fl k).2=false∨timeF f<(lsF fl k).1)then(timeF f,true)else lsF fl k
theorem lsF_is (fl:Nat→Option FL): ∀ n,((lsF fl n).2=true→ ∃ s f,s<n∧fl s=some f∧f.segs≠[]∧timeF f=(lsF fl n).1)∧ ∀ s f,s<n→fl s=some f→f.segs≠[]→(lsF fl n).2=true∧(lsF fl n).1≤timeF f
 | 0=>⟨fun h=>(by cases h),fun s f h=>(by omega)⟩
 | n+1=>by
  obtain⟨i1,i2⟩:=lsF_is fl n;have up:(lsF fl n).2=true→ ∃ s f,s<n+1∧fl s=some f∧f.segs≠[]∧timeF f=(lsF fl n).1:=fun h=>by
   obtain⟨s,f,h1,h2⟩:=i1 h;exact⟨s,f,by omega,h2⟩
  cases hf:fl n with
  | none=>
   have e:lsF fl (n+1)=lsF fl n:=by
    show(match fl n with | none=>lsF fl n | some f=>_)=_
    rw[hf]
   rw[e];refine⟨up,fun s f hs h1 h2=> ?_⟩;by_cases es:s=n
   ·subst es;rw[hf]at h1;cases h1
   ·exact i2 s f (by omega) h1 h2
  | some f0=>
   have e:lsF fl (n+1)=if f0.segs≠[]∧((lsF fl n).2=false∨timeF f0<(lsF fl n).1)then(timeF f0,true)else lsF fl n:=by
    show(match fl n with | none=>lsF fl n | some f=>_)=_
    rw[hf]
   rw[e];by_cases hc:f0.segs≠[]∧((lsF fl n).2=false∨timeF f0<(lsF fl n).1)
   ·rw[if_pos hc]
    refine⟨fun _=>⟨n,f0,Nat.lt_succ_self _,hf,hc.1,rfl⟩,fun s f hs h1 h2=>⟨rfl, ?_⟩⟩;show timeF f0≤timeF f
    by_cases es:s=n
    ·subst es;rw[hf]at h1;cases h1;exact Nat.le_refl _
    ·obtain⟨j1,j2⟩:=i2 s f (by omega) h1 h2
     rcases hc.2 with h3 | h3
     ·rw[j1]at h3;cases h3
     ·omega
   ·rw[if_neg hc]
    refine⟨up,fun s f hs h1 h2=> ?_⟩;by_cases es:s=n
    ·subst es
     rw[hf]at h1;cases h1
     cases hb:(lsF fl s).2 with
     | false=>exact absurd ⟨h2, .inl hb⟩ hc
     | true=>exact⟨rfl,Nat.le_of_not_lt fun h3=>hc ⟨h2, .inr h3⟩⟩
    ·exact i2 s f (by omega) h1 h2
theorem all8 {q:FQ} (h:q.inv) {s:Nat} (hs:s∈q.all):s<8:=h.ok.lt s hs
theorem works {q:FQ} (hi:q.inv) {now:Nat} (hn:now<18446744073709551616) (rt:Nat→Nat) (h1:q.waits.Pairwise klt) (h2:(deqR q now rt).2.waits.Pairwise klt):
  (decide ((pullO (deqR q now rt) ou0).dep.length=1))=((lsF q.fl 8).2&&decide ((lsF q.fl 8).1≤now))∧(pullO (deqR q now rt) ou0).dog=(if((lsF q.fl 8).2&& !((lsF q.fl 8).2&&decide ((lsF q.fl 8).1≤now)))=true then max 1 (lsF q.fl 8).1 else 0)∧(pullO (deqR q now rt) ou0).dep.length≤1:=by
 obtain⟨l1,l2⟩:=lsF_is q.fl 8;have hi2:=dueI_inv hi (dueN q now);obtain⟨q0,h0,⟨hp,hw⟩,hs⟩:=deqN_ind (P:=fun q'=>SameT q.fl q'.fl∧ ∀ k∈q'.waits,now<k.1) hn (fun q1 q2 i1 hc h2=>stepD_wk i1 hc h2) _ _ _ hi2 ⟨SameT.refl _,due_late now q.waits h1⟩ (deqR_eq hi hn rt);rcases stepD_inr h0 hs with⟨e1,e2,e⟩ | ⟨s,f,x,r,hm,hs8,hf,hsg,hcr,ht,e⟩
 ·rw[e]at h2 ⊢
  have hall:q0.all=q0.waits.map (·.2):=by unfold FQ.all;rw[e1,e2];rfl
  have ed:(pullO (none,q0) ou0).dep=[]:=rfl;have eg:(pullO (none,q0) ou0).dog=dogF q0 0:=rfl;have late:(lsF q.fl 8).2=true→now<(lsF q.fl 8).1:=fun hb=>by
   obtain⟨s,f,hs8,hf,hne,ht⟩:=l1 hb;obtain⟨f',hf',e3,e4⟩:=(hp s).1 f hf;have hm:=h0.seg s f' hs8 hf' (by rw[e3];exact hne);rw[hall,List.mem_map]at hm;obtain⟨k,hk,rfl⟩:=hm;obtain⟨f2,hf2,_,h3⟩:=h0.wt k hk;rw[hf']at hf2;cases hf2
   have:=hw k hk;rw[h3,timeF_eq e3 e4,ht]at this;exact this
  rw[ed,eg];cases hb:(lsF q.fl 8).2 with
  | false=>
   refine⟨rfl, ?_,by simp⟩;rw[if_neg (by simp)];unfold dogF;split
   ·rfl
   ·rename_i k r hk
    obtain⟨f,hf,hne,_⟩:=h0.wt k (by rw[hk];simp);have hk8:k.2<8:=all8 h0 (by rw[hall,hk];simp);obtain⟨f0,hf0,e3,e4⟩:=(hp k.2).2 f hf;have:=(l2 k.2 f0 hk8 hf0 (by rw[←e3];exact hne)).1;rw[hb]at this;cases this
  | true=>
   have hl:=late hb;obtain⟨s,f,hs8,hf,hne,ht⟩:=l1 hb;obtain⟨f',hf',e3,e4⟩:=(hp s).1 f hf;have hm:=h0.seg s f' hs8 hf' (by rw[e3];exact hne);rw[hall,List.mem_map]at hm;obtain⟨j,hj,ej⟩:=hm;obtain⟨f2,hf2,_,h3⟩:=h0.wt j hj;rw[ej,hf']at hf2;cases hf2
   rw[timeF_eq e3 e4,ht]at h3;have hd:decide ((lsF q.fl 8).1≤now)=false:=by simp;omega
   rw[hd];refine⟨rfl, ?_,by simp⟩;rw[if_pos (by rfl)];unfold dogF;split
   ·rename_i hk;rw[hk]at hj;cases hj
   ·rename_i k r hk
    obtain⟨f3,hf3,hne3,h4⟩:=h0.wt k (by rw[hk];simp);have hk8:k.2<8:=all8 h0 (by rw[hall,hk];simp);obtain⟨f0,hf0,e5,e6⟩:=(hp k.2).2 f3 hf3;have a1:=(l2 k.2 f0 hk8 hf0 (by rw[←e5];exact hne3)).2;rw[←timeF_eq e5 e6,←h4]at a1;have a2:k.1≤j.1:=by
     rw[hk]at hj h2;rcases List.mem_cons.1 hj with rfl | hj
     ·exact Nat.le_refl _
     ·exact klt_le ((List.pairwise_cons.1 h2).1 j hj)
    omega
 ·rw[e]
  have ed:(pullO (some x,sendQ q0 s f x r now (rt s)) ou0).dep=[x]:=rfl;have eg:(pullO (some x,sendQ q0 s f x r now (rt s)) ou0).dog=0:=rfl;obtain⟨f0,hf0,e3,e4⟩:=(hp s).2 f hf;obtain⟨b1,b2⟩:=l2 s f0 hs8 hf0 (by rw[←e3,hsg];simp);rw[←timeF_eq e3 e4]at b2;have hd:decide ((lsF q.fl 8).1≤now)=true:=by simp;omega
  rw[ed,eg,b1,hd];exact⟨rfl,rfl,by simp⟩
end
section
open Go.RowKit Go.Lib
def flN (l:List PC):Nat:=(l.map fun p=>if flyB p then p.til-p.frm else 0).sum
def PC.fine (p:PC):Prop:=p.frm<p.til∧p.til≤p.frm+65536∧p.til≤1000000000000
theorem fold_flN: ∀(l:List PC) (a:Nat),(∀ p∈l,p.fine)→a+l.length*65536<18446744073709551616→l.foldl flW (a:Int)=((a+flN l:Nat):Int)
 | [],a,_,_=>by simp[flN]
 | p::r,a,h,hl=>by
  have h1:=h p (List.mem_cons_self ..);simp only[List.length_cons]at hl;have e:flW (a:Int) p=((a+(if flyB p then p.til-p.frm else 0):Nat):Int):=by
   unfold flW;split
   ·unfold PC.fine at h1
    rw[IntKind.wrap_u64,IntKind.wrap_u64];omega
   ·simp
  have h3:(if flyB p then p.til-p.frm else 0)≤65536:=by split<;>(unfold PC.fine at h1;omega)
  rw[List.foldl_cons,e,fold_flN r _ (fun q hq=>h q (List.mem_cons_of_mem _ hq)) (by omega)];unfold flN;simp only[List.map_cons,List.sum_cons];omega
theorem SK.fine {k:SK} (h:k.ok): ∀ p∈k.pcs,p.fine:=fun p hp=>by
 obtain⟨p1,p2,p3,_⟩:=h.pc p hp;obtain⟨b1,b2,b3,b4,b5⟩:=h.bf;have:=h.e;exact⟨p1,p2,by omega⟩
theorem SK.fl_N {k:SK} (h:k.ok):k.fl=flN k.pcs:=by
 have hl:=h.len;have:=fold_flN k.pcs 0 (SK.fine h) (by omega);have e:flSum k.pcs=((flN k.pcs:Nat):Int):=by
  unfold flSum;rw[show(0:Int)=((0:Nat):Int)from rfl,this];simp
 unfold SK.fl;rw[e];rfl
end
section
open Go.RowKit Go.ChangeShapes Go.WideShapes Go.Deep
section
variable {H:Type} {enc:TypeId×Value→H} {P:Program} {w:World} {base:Nat} {spare:Nat→Bool} {held:Bool}
theorem slice_elems {t e:TypeId} {fuel:Nat} {a:Option Addr} {len cap:Nat} {x:DataW H×List MemPlace} (size:Nat) (ht:P.underlying t=some (.slice e)) (hC:P.cellsOf e=size) (hp:0<size)
  (hne: ∀ n cs y,DataW.trod enc P w base spare held n e cs=some y→cs.length=size) (h:DataW.trod enc P w base spare held fuel t [.slice a len cap]=some x):
  len≤9223372036854775807∧(0<len→ ∃ b off,a=some ⟨b,off,none⟩∧b<w.heap.size∧ ∀ k,k<len→ ∃(cs:List Value) (n:Nat) (y:DataW H×List MemPlace),cs.length=size∧
   (∀ j,j<size→w.cell? ⟨b,off+k*size+j,none⟩=cs[j]?)∧DataW.trod enc P w base spare held n e cs=some y):=by
 rcases open_slice ht h with⟨h0,_⟩ | ⟨q,l,c,m,n,D,Pl,hcs,hb,hl,hm,hmm,hx,hi⟩
 ·simp at h0
  omega
 ·simp at hcs
  obtain⟨rfl,rfl,rfl⟩:=hcs;have hlm:len≤m:=by rw[hmm];split<;>omega
  refine⟨by unfold maxLen at hm;omega,fun h0=> ?_⟩;have hat: ∀ k,k<len→ ∃(cs:List Value) (n:Nat) (y:DataW H×List MemPlace),cs.length=size∧(∀ j,j<size→w.cell? ((q.add (k*size)).add j)=cs[j]?)∧DataW.trod enc P w base spare held n e cs=some y:=by
   intro k hk;obtain⟨cs,hc,ht'⟩:=hi k (by omega);rw[hC]at hc;obtain⟨_,hcl,hcell⟩:=World.cells?_some hc;exact⟨cs,_,_,hcl,fun j hj=>hcell j hj,ht'⟩
  obtain⟨b,off,spot⟩:=q;obtain⟨cs,_,_,hl0,hc0,_⟩:=hat 0 h0;have h00:=hc0 0 hp;rw[List.getElem?_eq_getElem (by omega)]at h00;have hspot:spot=none:=by simpa [Addr.add]using World.cell?_spot h00
  subst hspot;have hbl:b<w.heap.size:=by simpa [Addr.add]using World.block_lt_of_cell? _ _ h00
  refine⟨b,off,rfl,hbl,fun k hk=> ?_⟩;obtain⟨cs,n,y,hl,hc,ht'⟩:=hat k hk;refine⟨cs,n,y,hl,fun j hj=> ?_,ht'⟩;have:=hc j hj;rw[Go.WideShapes.add_plain,Go.WideShapes.add_plain]at this;exact this
end
end
section
open Go.RowKit Go.Lib
structure PaI (q:FQ) (now:Nat) (nx:Nat→Nat):Prop where
 no: ∀ s,s<8→q.fl s=none→nx s≤now
 so: ∀ s f,s<8→q.fl s=some f→nx s≤max f.next now
 soon: ∀ s f,s<8→q.fl s=some f→f.next≤now+1000000000
 idle: ∀ s f,s<8→q.fl s=some f→s ∉ q.all→f.next≤f.since+1000000000
 own: ∀ s f,s<8→q.fl s=some f→ ∀ x∈f.segs,x.sock=s
theorem PaI.later {q:FQ} {now n':Nat} {nx:Nat→Nat} (h:PaI q now nx) (hn:now≤n'):PaI q n' nx:=
 ⟨fun s h8 hf=>Nat.le_trans (h.no s h8 hf) hn,fun s f h8 hf=>by have:=h.so s f h8 hf;omega,fun s f h8 hf=>by have:=h.soon s f h8 hf;omega,h.idle,h.own⟩
theorem PaI.as {q q':FQ} {now:Nat} {nx:Nat→Nat} (h:PaI q now nx) (hf:q'.fl=q.fl) (ha: ∀ x,x∈q'.all↔x∈q.all):PaI q' now nx:=
 ⟨fun s h8 h1=>h.no s h8 (by rw[←hf];exact h1),fun s f h8 h1=>h.so s f h8 (by rw[←hf];exact h1),fun s f h8 h1=>h.soon s f h8 (by rw[←hf];exact h1),fun s f h8 h1 h2=>h.idle s f h8 (by rw[←hf];exact h1) (fun h3=>h2 ((ha s).2 h3)),fun s f h8 h1=>h.own s f h8 (by rw[←hf];exact h1)⟩
theorem PaI.put_ {q q':FQ} {now:Nat} {nx nx':Nat→Nat} (h:PaI q now nx) {s:Nat} {f:FL} (hf:q'.fl=putF q.fl s (some f)) (ha: ∀ x,x≠s→x∈q.all→x∈q'.all) (hx: ∀ k,k≠s→nx' k=nx k)
  (h1:nx' s≤max f.next now) (h2:f.next≤now+1000000000) (h3:s ∉ q'.all→f.next≤f.since+1000000000) (h4: ∀ x∈f.segs,x.sock=s):PaI q' now nx':=by
 have key: ∀ k,q'.fl k=if k=s then some f else q.fl k:=fun k=>by rw[hf];rfl
 refine⟨fun k h8 hk=> ?_,fun k f' h8 hk=> ?_,fun k f' h8 hk=> ?_,fun k f' h8 hk hn=> ?_,fun k f' h8 hk=> ?_⟩;all_goals rw[key]at hk
 all_goals by_cases e:k=s
 all_goals first | rw[if_pos e]at hk | rw[if_neg e]at hk
 ·cases hk
 ·rw[hx k e];exact h.no k h8 hk
 ·cases hk;subst e;exact h1
 ·rw[hx k e];exact h.so k f' h8 hk
 ·cases hk;exact h2
 ·exact h.soon k f' h8 hk
 ·cases hk;subst e;exact h3 hn
 ·exact h.idle k f' h8 hk (fun h5=>hn (ha k e h5))
 ·cases hk;subst e;exact h4
 ·exact h.own k f' h8 hk
theorem satAdd_le (a b:Nat):satAdd a b≤a+b:=by unfold satAdd;split<;>omega
theorem colQ_pa {q:FQ} (hi:q.inv) {now:Nat} (hn:now≤4611686018427387904) {nx:Nat→Nat} (h:PaI q now nx) (i:Nat):PaI (colQ q now i) now nx:=by
 have key: ∀ k,(colQ q now i).fl k=if k<i∧idleQ q k 3000000000 now=true then none else q.fl k:=fun k=>rfl
 have ha: ∀ k,k∈(colQ q now i).all↔k∈q.all:=fun k=>Iff.rfl
 refine⟨fun k h8 hk=> ?_,fun k f' h8 hk=> ?_,fun k f' h8 hk=> ?_,fun k f' h8 hk hn=> ?_,fun k f' h8 hk=> ?_⟩
 ·rw[key]at hk
  by_cases e:k<i∧idleQ q k 3000000000 now=true
  ·obtain⟨f,hf,hp,ht⟩:=idle_place e.2
   have h1:=h.so k f h8 hf;have h2:=h.idle k f h8 hf (place_wait hi hp);unfold satAdd at ht;split at ht<;>omega
  ·rw[if_neg e]at hk;exact h.no k h8 hk
 ·exact h.so k f' h8 (colQ_some hk)
 ·exact h.soon k f' h8 (colQ_some hk)
 ·exact h.idle k f' h8 (colQ_some hk) hn
 ·exact h.own k f' h8 (colQ_some hk)
theorem wakeQ_pa {q:FQ} {now:Nat} {nx:Nat→Nat} (h:PaI q now nx) {s:Nat} (hs:s<8):PaI (wakeQ q s now) now nx:=by
 have hm: ∀ f:FL,s∈({ q with fl:=putF q.fl s (some f),fresh:=q.fresh++[s] }:FQ).all:=fun f=>by unfold FQ.all;simp
 have hm2: ∀ f:FL,∀ x,x≠s→x∈q.all→x∈({ q with fl:=putF q.fl s (some f),fresh:=q.fresh++[s] }:FQ).all:=fun f x _ hx=>by
  unfold FQ.all at hx ⊢;simp only[List.mem_append]at hx ⊢;rcases hx with(hx | hx) | hx
  ·exact .inl (.inl (.inl hx))
  ·exact .inl (.inr hx)
  ·exact .inr hx
 unfold wakeQ;cases hf:q.fl s with
 | none=>
  refine h.put_ rfl (hm2 _) (fun _ _=>rfl) ?_ (Nat.zero_le _) (fun h3=>absurd (hm _) h3) (fun x hx=>by cases hx);have:=h.no s hs hf;show _≤max 0 now
  omega
 | some f=>
  simp only
  split
  ·exact h
  ·refine h.put_ rfl (hm2 _) (fun _ _=>rfl) ?_ ?_ (fun h3=>absurd (hm _) h3) ?_
   ·exact h.so s f hs hf
   ·exact h.soon s f hs hf
   ·exact h.own s f hs hf
theorem appQ_pa {q:FQ} {now:Nat} {nx:Nat→Nat} (h:PaI q now nx) {x:SG} (hs:x.sock<8):PaI (appQ q x) now nx:=by
 unfold appQ;cases hf:q.fl x.sock with
 | none=>exact h
 | some f=>
  refine h.put_ (s:=x.sock) rfl (fun _ _ hx=>hx) (fun _ _=>rfl) (h.so _ f hs hf) (h.soon _ f hs hf) (h.idle _ f hs hf) fun y hy=> ?_
  rcases List.mem_append.1 hy with hy | hy
  ·exact h.own _ f hs hf y hy
  ·rw[List.mem_singleton]at hy;rw[hy]
theorem enqF_pa {q:FQ} (hi:q.inv) {now:Nat} (hn:now≤4611686018427387904) {nx:Nat→Nat} (h:PaI q now nx) {x:SG} (hx:x.ok):PaI (enqF q x now).2 now nx:=by
 have h1:=colQ_pa hi hn h 8;unfold enqF;split
 ·exact appQ_pa (wakeQ_pa h1 hx.s) (by rw[fate_sock];exact hx.s)
 ·exact h1
theorem dueQ_pa {q:FQ} {now:Nat} {nx:Nat→Nat} (h:PaI q now nx):PaI (dueQ q now) now nx:=by
 have e:(dueQ q now).all=q.all:=by
  show q.fresh++(q.old++(q.waits.take (dueN q now)).map (·.2))++(q.waits.drop (dueN q now)).map (·.2)=q.fresh++q.old++q.waits.map (·.2)
  simp only[List.append_assoc,←List.map_append,List.take_append_drop]
 exact h.as rfl (fun x=>by rw[e])
theorem stepD_pa {q:FQ} (hi:q.inv) {now:Nat} {nx:Nat→Nat} (h:PaI q now nx) {rt:Nat→Nat} {q':FQ} (hs:stepD q now rt= .inl q'):PaI q' now nx:=by
 unfold stepD at hs;cases hh:(lall q.fresh q.old).head? with
 | none=>rw[hh]at hs;cases hs
 | some sf=>
  obtain⟨s,fr⟩:=sf;have hm:=head_mem hh;have hma:s∈q.all:=List.mem_append_left _ hm;have hs8:=hi.ok.lt s hma;obtain⟨f,hf⟩:=hi.there s hma;rw[hh]at hs;simp only at hs
  rw[hf]at hs;simp only at hs
  by_cases hc:f.credit≤0
  ·rw[if_pos hc]at hs
   cases hs
   obtain⟨_,m2⟩:=all_move hi.ok hm;exact h.put_ (s:=s) rfl (fun x _ hx=>(m2 x).2 hx) (fun _ _=>rfl) (h.so s f hs8 hf) (h.soon s f hs8 hf) (fun h3=>absurd ((m2 s).2 hma) h3) (h.own s f hs8 hf)
  ·rw[if_neg hc]at hs
   cases hsg:f.segs with
   | nil=>
    rw[hsg]at hs;simp only at hs
    split at hs
    ·cases hs
     obtain⟨_,m2⟩:=all_move hi.ok hm;exact h.as rfl m2
    ·cases hs
     obtain⟨_,m2⟩:=all_drop hi.ok hm;have hsn:=h.soon s f hs8 hf;exact h.put_ (s:=s) rfl (fun x hne hx=>(m2 x).2 ⟨hx,hne⟩) (fun _ _=>rfl) (h.so s f hs8 hf) hsn (fun _=>hsn) (fun x hx=>by cases hx)
   | cons x r=>
    rw[hsg]at hs;simp only at hs
    split at hs
    ·cases hs
     obtain⟨_,m2⟩:=all_wait hi.ok hm (timeF f);exact h.as rfl m2
    ·cases hs
theorem deqR_pa {q:FQ} (hi:q.inv) {now:Nat} (hn:now≤4611686018427387904) {nx:Nat→Nat} (h:PaI q now nx) (rt:Nat→Nat):
  ((deqR q now rt).1=none∧PaI (deqR q now rt).2 now nx)∨ ∃ x,(deqR q now rt).1=some x∧x.sock<8∧nx x.sock≤now∧x.stamp≤now∧PaI (deqR q now rt).2 now (putF nx x.sock (satAdd now (delayOf x.len (les (rt x.sock) q.c.maxRate)))):=by
 have hn2:now<18446744073709551616:=by omega
 obtain⟨q0,h0,⟨hp,hc⟩,hs⟩:=deqN_ind (P:=fun q'=>PaI q' now nx∧q'.c=q.c) hn2 (fun q1 q2 i1 hc h2=>⟨stepD_pa i1 hc.1 h2,by
  have hc:=hc.2;unfold stepD at h2;split at h2
  ·cases h2
  ·split at h2
   ·cases h2
   ·split at h2
    ·cases h2;exact hc
    ·split at h2
     ·split at h2
      ·cases h2;exact hc
      ·cases h2;exact hc
     ·split at h2
      ·cases h2;exact hc
      ·cases h2⟩) _ _ _ (dueI_inv hi _) ⟨dueQ_pa h,rfl⟩ (deqR_eq hi hn2 rt)
 rcases stepD_inr h0 hs with⟨_,_,e⟩ | ⟨s,f,x,r,hm,hs8,hf,hsg,hcr,ht,e⟩
 ·rw[e];exact .inl ⟨rfl,hp⟩
 ·have hxs:=hp.own s f hs8 hf x (by rw[hsg];simp)
  have hso:=hp.so s f hs8 hf;unfold timeF at ht;rw[hsg]at ht;simp only at ht
  rw[e];refine .inr ⟨x,rfl,by rw[hxs];exact hs8,by rw[hxs];omega,by omega, ?_⟩;rw[hxs,←hc];refine hp.put_ (s:=s) rfl (fun _ _ hx=>hx) (fun k hk=>putF_ne _ _ hk) ?_ ?_ (fun h3=>absurd (List.mem_append_left _ hm) h3) (fun y hy=>hp.own s f hs8 hf y (by rw[hsg];exact List.mem_cons_of_mem _ hy))
  ·rw[putF_at];exact Nat.le_max_left _ _
  ·have h1:=satAdd_le now (delayOf x.len (les (rt s) q0.c.maxRate))
   have h2:=delayOf_le x.len (les (rt s) q0.c.maxRate);show satAdd now (delayOf x.len (les (rt s) q0.c.maxRate))≤_
   omega
theorem closeO_pa {q:FQ} (hi:q.inv) {now:Nat} {nx:Nat→Nat} (h:PaI q now nx) {s:Nat} (hs:s<8):PaI (closeO q s) now (putF nx s 0):=by
 have hz: ∀ k,k≠s→putF nx s 0 k=nx k:=fun k e=>putF_ne _ _ e
 have hle: ∀ k,putF nx s 0 k≤nx k:=fun k=>by
  by_cases e:k=s
  ·rw[e,putF_at];exact Nat.zero_le _
  ·rw[hz k e];exact Nat.le_refl _
 unfold closeO;cases hf:q.fl s with
 | none=>exact⟨fun k h8 hk=>Nat.le_trans (hle k) (h.no k h8 hk),fun k f h8 hk=>Nat.le_trans (hle k) (h.so k f h8 hk),h.soon,h.idle,h.own⟩
 | some f=>
  obtain⟨_,a2⟩:=all_close hi hs hf;have key: ∀ k,(closeQ q s f).fl k=if k=s then none else q.fl k:=fun k=>rfl
  refine⟨fun k h8 hk=> ?_,fun k f' h8 hk=> ?_,fun k f' h8 hk=> ?_,fun k f' h8 hk hn=> ?_,fun k f' h8 hk=> ?_⟩;all_goals rw[key]at hk
  all_goals by_cases e:k=s
  all_goals first | rw[if_pos e]at hk | rw[if_neg e]at hk
  ·rw[e,putF_at];exact Nat.zero_le _
  ·rw[hz k e];exact h.no k h8 hk
  ·cases hk
  ·rw[hz k e];exact h.so k f' h8 hk
  ·cases hk
  ·exact h.soon k f' h8 hk
  ·cases hk
  ·exact h.idle k f' h8 hk (fun h5=>hn ((a2 k).2 ⟨h5,e⟩))
  ·cases hk
  ·exact h.own k f' h8 hk
def nxF (m:MC) (d:DD) (nx:Nat→Nat):Nat→Nat:=
 let n1:=match(doF m d).2.2.dep with
  | x::_=>putF nx x.sock (satAdd (doF m d).2.1.now (delayOf x.len (les (m.rt x.sock) m.c.maxRate)))
  | []=>nx
 if(doF m d).1=0∧d.kind=9 then putF n1 d.sock.toNat 0 else n1
theorem PaI.new {q:FQ} (hq:q.fl=fun _=>none) (now:Nat):PaI q now (fun _=>0):=
 ⟨fun _ _ _=>Nat.zero_le _,fun _ _ _ _=>Nat.zero_le _,fun s f _ hf=>(by rw[hq]at hf;cases hf),fun s f _ hf=>(by rw[hq]at hf;cases hf),fun s f _ hf=>(by rw[hq]at hf;cases hf)⟩
theorem pumpR_pa {now:Nat} (hn:now≤4611686018427387904) {nx:Nat→Nat} {k:SK} {q:FQ} (o:OU) (hk:k.ok) (hq:q.inv) (h:PaI q now nx):PaI (pumpR now k q o).2.1 now nx:=by
 have hn2:now<18446744073709551616:=by omega
 refine(pumpR_ind (P:=fun _ q' _=>PaI q' now nx) hn2 ?_ ?_ ?_ hk hq h (o:=o)).2.2
 ·intro k' q' o' hk' hq' h' hm _
  exact enqF_pa hq' hn h' (SK.emitX_ok hk' hm hn2)
 ·intro k' q' o' hk' hq' h' hm _
  exact enqF_pa hq' hn h' (SK.emitX_ok hk' hm hn2)
 ·intro k' q' o' _ _ h' _
  exact h'
theorem oneF_now (m:MC) (d:DD):(oneF m d).2.1.now=m.now:=by
 unfold oneF;split
 ·cases hk:m.sk d.sock.toNat with
  | none=>simp only[oneS];split<;>rfl
  | some k=>
   simp only[oneS];split
   ·rfl
   ·split
    ·rfl
    ·split<;>rfl
 ·rfl
theorem doF_pa {m:MC} {n:Nat} (hm:m.okn n) (hn:n<1000000) {d:DD} (hd:d.ok) {nx:Nat→Nat} (h:PaI m.q m.now nx):
  (∀ x r,(doF m d).2.2.dep=x::r→r=[]∧x.sock<8∧nx x.sock≤(doF m d).2.1.now∧x.stamp≤(doF m d).2.1.now)∧PaI (doF m d).2.1.q (doF m d).2.1.now (nxF m d nx):=by
 have hnow:=hm.ok.now;have hnow2:m.now<18446744073709551616:=by omega
 have h1c: ∀ nx':Nat→Nat,(doF m d).2.2.dep=[]→(nxF m d nx=if(doF m d).1=0∧d.kind=9 then putF nx d.sock.toNat 0 else nx):=fun _ e=>by
  unfold nxF;rw[e]
 by_cases h5:d.kind=5
 ·have e:doF m d=(mvE m.now d.at_,{ m with now:=mvN m.now d.at_ },ou0):=by unfold doF;rw[if_pos h5]
  have e1:=h1c nx (by rw[e];rfl);rw[e1,if_neg (by rw[h5];simp)];rw[e];exact⟨fun x r hx=>(by cases hx),h.later (mvN_ge _ _)⟩
 by_cases h6:d.kind=6
 ·have e:doF m d=(0,{ m with q:=(deqR m.q m.now m.rt).2 },pullO (deqR m.q m.now m.rt) ou0):=by unfold doF;rw[if_neg h5,if_pos h6]
  rcases deqR_pa hm.ok.q hnow h m.rt with⟨e2,h2⟩ | ⟨x,e2,x1,x2,x3,h2⟩
  ·have ed:(doF m d).2.2.dep=[]:=by rw[e];show(pullO _ _).dep=_;unfold pullO;rw[e2];rfl
   rw[h1c nx ed,if_neg (by rw[h6];simp)];refine⟨fun x r hx=>(by rw[ed]at hx;cases hx), ?_⟩;rw[e];exact h2
  ·have ed:(doF m d).2.2.dep=[x]:=by rw[e];show(pullO _ _).dep=_;unfold pullO;rw[e2]
   have en:(doF m d).2.1.now=m.now:=by rw[e]
   have e3:nxF m d nx=putF nx x.sock (satAdd m.now (delayOf x.len (les (m.rt x.sock) m.q.c.maxRate))):=by
    unfold nxF;rw[ed,if_neg (by rw[h6];simp),en,hm.ok.qc]
   rw[e3];refine⟨fun y r hx=> ?_, ?_⟩
   ·rw[ed]at hx;cases hx;rw[en];exact⟨rfl,x1,x2,x3⟩
   ·rw[e];exact h2
 by_cases h8:d.kind=8
 ·have e:doF m d=((if d.cr.may=true then 0 else 13),m.set_ d.cr,ou0):=by unfold doF;rw[if_neg h5,if_neg h6,if_pos h8]
  have ed:(doF m d).2.2.dep=[]:=by rw[e];rfl
  rw[h1c nx ed,if_neg (by rw[h8];simp)];refine⟨fun x r hx=>(by rw[ed]at hx;cases hx), ?_⟩;rw[e];show PaI (m.set_ d.cr).q (m.set_ d.cr).now nx
  unfold MC.set_;split
  ·exact h.as rfl (fun _=>Iff.rfl)
  ·exact h
 by_cases h1:d.kind=1∨d.kind=2∨d.kind=3∨d.kind=4∨d.kind=7∨d.kind=9
 ·have e:doF m d=oneF m d:=by unfold doF;rw[if_neg h5,if_neg h6,if_neg h8,if_pos h1]
  have ed:(doF m d).2.2.dep=[]:=by rw[e];exact oneF_dep hm hd hn
  rw[h1c nx ed];refine⟨fun x r hx=>(by rw[ed]at hx;cases hx), ?_⟩;rw[e,oneF_now];unfold oneF;by_cases hs:(decide (0≤d.sock)&&decide (d.sock<8))=true
  ·rw[if_pos hs]
   rw[Bool.and_eq_true,decide_eq_true_eq,decide_eq_true_eq]at hs;have hs8:d.sock.toNat<8:=by omega
   cases hk:m.sk d.sock.toNat with
   | none=>
    simp only[oneS];split
    ·rename_i h1
     rw[if_neg (by rw[h1];simp)];exact h
    ·rw[if_neg (by simp)]
     exact h
   | some k=>
    obtain⟨k1,k2⟩:=hm.ok.sk _ k hs8 hk;have kw:=hm.wr _ k hs8 hk;simp only[oneS];by_cases g1:d.kind=1
    ·simp only[if_pos g1]
     rw[if_neg (by simp)];exact h
    ·simp only[if_neg g1]
     by_cases g9:d.kind=9
     ·simp only[if_pos g9]
      rw[if_pos ⟨trivial,g9⟩];exact closeO_pa hm.ok.q h hs8
     ·simp only[if_neg g9]
      by_cases gt:tldE k d m.now=0
      ·simp only[if_pos gt]
       rw[if_neg (by rintro⟨_,h⟩;exact g9 h)];exact pumpR_pa hnow ou0 (tldF_ok k1 hd (by omega) hnow2) hm.ok.q h
      ·simp only[if_neg gt]
       rw[if_neg (by rintro⟨_,h⟩;exact g9 h)];exact h
  ·rw[if_neg hs]
   rw[if_neg (by simp)];exact h
 ·have e:doF m d=(12,m,ou0):=by unfold doF;rw[if_neg h5,if_neg h6,if_neg h8,if_neg h1]
  have ed:(doF m d).2.2.dep=[]:=by rw[e];rfl
  rw[h1c nx ed,if_neg (by rw[e];simp)];refine⟨fun x r hx=>(by rw[ed]at hx;cases hx), ?_⟩;rw[e];exact h
end
section
open Go.RowKit Go.Lib
def Tile:Nat→List PC→Nat→Prop
 | a,[],e=>a=e
 | a,p::r,e=>p.frm=a∧p.frm<p.til∧Tile p.til r e
theorem Tile.le: ∀ {l:List PC} {a e:Nat},Tile a l e→a≤e
 | [],_,_,h=>Nat.le_of_eq h
 | p::r,a,e,⟨h1,h2,h3⟩=>by have:=Tile.le h3;omega
theorem Tile.mem: ∀ {l:List PC} {a e:Nat},Tile a l e→ ∀ p∈l,a≤p.frm∧p.frm<p.til∧p.til≤e
 | p::r,a,e,⟨h1,h2,h3⟩,q,hq=>by
  rcases List.mem_cons.1 hq with rfl | hq
  ·exact⟨by omega,h2,h3.le⟩
  ·obtain⟨k1,k2,k3⟩:=Tile.mem h3 q hq
   exact⟨by omega,k2,k3⟩
theorem Tile.snoc: ∀ {l:List PC} {a e:Nat} {p:PC},Tile a l e→p.frm=e→p.frm<p.til→Tile a (l++[p]) p.til
 | [],a,e,p,h,h1,h2=>⟨h1.trans h.symm,h2,rfl⟩
 | q::r,a,e,p,⟨k1,k2,k3⟩,h1,h2=>⟨k1,k2,Tile.snoc k3 h1 h2⟩
theorem Tile.set_: ∀ {l:List PC} {a e i:Nat} {x y:PC},Tile a l e→l[i]? =some x→y.frm=x.frm→y.til=x.til→Tile a (l.set i y) e
 | p::r,a,e,0,x,y,⟨h1,h2,h3⟩,hx,e1,e2=>by
  cases hx
  exact⟨e1.trans h1,by omega,by rw[e2];exact h3⟩
 | p::r,a,e,i+1,x,y,⟨h1,h2,h3⟩,hx,e1,e2=>⟨h1,h2,Tile.set_ (i:=i) h3 hx e1 e2⟩
theorem Tile.map_: ∀ {l:List PC} {a e:Nat} (f:PC→PC),(∀ p,(f p).frm=p.frm∧(f p).til=p.til)→Tile a l e→Tile a (l.map f) e
 | [],a,e,f,hf,h=>h
 | p::r,a,e,f,hf,⟨h1,h2,h3⟩=>⟨(hf p).1.trans h1,by rw[(hf p).1,(hf p).2];exact h2,by rw[(hf p).2];exact Tile.map_ f hf h3⟩
def Bdy (a:Nat) (l:List PC) (u:Nat):Prop:=u=a∨ ∃ p∈l,p.til=u
theorem Tile.drop_: ∀ {l:List PC} {a e u:Nat},Tile a l e→Bdy a l u→Tile u (l.filter (fun p=> !decide (p.til≤u))) e
 | [],a,e,u,h,hb=>by
  rcases hb with rfl | ⟨p,hp,_⟩
  ·exact h
  ·cases hp
 | p::r,a,e,u,⟨h1,h2,h3⟩,hb=>by
  rw[List.filter_cons];by_cases hu:u=a
  ·have hall:r.filter (fun q=> !decide (q.til≤u))=r:=by
    rw[List.filter_eq_self];intro q hq;obtain⟨k1,k2,k3⟩:=h3.mem q hq;have: ¬ q.til≤u:=by omega
    simp[this]
   have hp: ¬ p.til≤u:=by omega
   rw[hall,if_pos (by simp[hp])];exact⟨h1.trans hu.symm,h2,h3⟩
  ·have hb2:Bdy p.til r u:=by
    rcases hb with rfl | ⟨q,hq,e1⟩
    ·exact absurd rfl hu
    ·rcases List.mem_cons.1 hq with rfl | hq
     ·exact .inl e1.symm
     ·exact .inr ⟨q,hq,e1⟩
   have hp:p.til≤u:=by
    rcases hb2 with rfl | ⟨q,hq,e1⟩
    ·exact Nat.le_refl _
    ·obtain⟨k1,k2,k3⟩:=h3.mem q hq
     omega
   rw[if_neg (by simp[hp])];exact Tile.drop_ h3 hb2
def Okr (a:Nat) (l:List PC) (r:Nat×Nat):Prop:=r.2≤a∨ ∃ p∈l,p.frm=r.1∧p.til=r.2
theorem Okr.drop_ {a u:Nat} {l:List PC} {r:Nat×Nat} (h:Okr a l r) (hu:a≤u):Okr u (l.filter (fun p=> !decide (p.til≤u))) r:=by
 rcases h with h | ⟨p,hp,e1,e2⟩
 ·exact .inl (by omega)
 ·by_cases hl:p.til≤u
  ·exact .inl (by omega)
  ·exact .inr ⟨p,List.mem_filter.2 ⟨hp,by simp[hl]⟩,e1,e2⟩
theorem Okr.like {a:Nat} {l l':List PC} {r:Nat×Nat} (h:Okr a l r) (hl: ∀ p∈l,∃ q∈l',q.frm=p.frm∧q.til=p.til):Okr a l' r:=by
 rcases h with h | ⟨p,hp,e1,e2⟩
 ·exact .inl h
 ·obtain⟨q,hq,k1,k2⟩:=hl p hp
  exact .inr ⟨q,hq,k1.trans e1,k2.trans e2⟩
def mrg1 (had:List (Nat×Nat)) (u:Nat):Nat:=had.foldl (fun u r=>if r.1≤u then max u r.2 else u) u
def mrgN (had:List (Nat×Nat)) (u:Nat):Nat→Nat
 | 0=>u
 | n+1=>mrg1 had (mrgN had u n)
def mrg (had:List (Nat×Nat)) (u:Nat):Nat:=mrgN had u had.length
theorem mrg1_ge: ∀(had:List (Nat×Nat)) (u:Nat),u≤mrg1 had u
 | [],u=>Nat.le_refl u
 | r::hs,u=>by
  show u≤mrg1 hs (if r.1≤u then max u r.2 else u)
  refine Nat.le_trans ?_ (mrg1_ge hs _);split<;>omega
theorem mrgN_ge (had:List (Nat×Nat)) (u:Nat): ∀ n,u≤mrgN had u n
 | 0=>Nat.le_refl u
 | n+1=>Nat.le_trans (mrgN_ge had u n) (mrg1_ge had _)
theorem mrg1_hit: ∀(had:List (Nat×Nat)) (u:Nat) (r:Nat×Nat),r∈had→r.1≤u→r.2≤mrg1 had u
 | s::hs,u,r,hr,hu=>by
  show r.2≤mrg1 hs (if s.1≤u then max u s.2 else u)
  rcases List.mem_cons.1 hr with rfl | hr
  ·rw[if_pos hu]
   exact Nat.le_trans (Nat.le_max_right _ _) (mrg1_ge hs _)
  ·exact mrg1_hit hs _ r hr (by split<;>omega)
theorem mrg_hit {had:List (Nat×Nat)} {u:Nat} {r:Nat×Nat} (hr:r∈had) (hu:r.1≤u):r.2≤mrg had u:=by
 unfold mrg;cases hl:had.length with
 | zero=>rw[List.length_eq_zero_iff]at hl;rw[hl]at hr;cases hr
 | succ n=>exact mrg1_hit had _ r hr (Nat.le_trans hu (mrgN_ge had u n))
theorem Bdy.mrg1 {a:Nat} {l:List PC}: ∀ {had:List (Nat×Nat)} {u:Nat},(∀ r∈had,Okr a l r)→a≤u→Bdy a l u→Bdy a l (mrg1 had u)
 | [],u,_,_,h=>h
 | r::hs,u,ho,hu,h=>by
  show Bdy a l (Go.Proofs.YtojgokiobdpclaaGreat.mrg1 hs (if r.1≤u then max u r.2 else u))
  refine Bdy.mrg1 (fun x hx=>ho x (List.mem_cons_of_mem _ hx)) (by split<;>omega) ?_;split
  ·by_cases hc:r.2≤u
   ·rw[Nat.max_eq_left hc];exact h
   ·rw[Nat.max_eq_right (by omega)]
    rcases ho r (List.mem_cons_self ..)with h1 | ⟨p,hp,_,e2⟩
    ·omega
    ·exact .inr ⟨p,hp,e2⟩
  ·exact h
theorem Bdy.mrg {a:Nat} {l:List PC} {had:List (Nat×Nat)} (ho: ∀ r∈had,Okr a l r):Bdy a l (mrg had a):=by
 have: ∀ n,Bdy a l (mrgN had a n):=fun n=>by
  induction n with
  | zero=>exact .inl rfl
  | succ n ih=>exact Bdy.mrg1 ho (mrgN_ge had a n) ih
 exact this _
theorem Bdy.le {a e u:Nat} {l:List PC} (h:Bdy a l u) (ht:Tile a l e):a≤u∧u≤e:=by
 rcases h with rfl | ⟨p,hp,rfl⟩
 ·exact⟨Nat.le_refl _,ht.le⟩
 ·obtain⟨h1,h2,h3⟩:=ht.mem p hp
  exact⟨by omega,h3⟩
def nLo (l:List PC):Nat:=l.countP (·.lost)
theorem nLo_set: ∀ {l:List PC} {i:Nat} {x y:PC},l[i]? =some x→x.lost=true→y.lost=false→nLo (l.set i y)+1=nLo l
 | p::r,0,x,y,hx,h1,h2=>by
  cases hx
  simp[nLo,h1,h2]
 | p::r,i+1,x,y,hx,h1,h2=>by
  have:=nLo_set (l:=r) (i:=i) hx h1 h2;simp only[nLo,List.set_cons_succ,List.countP_cons]at this ⊢;omega
theorem nLo_le (l:List PC):nLo l≤l.length:=List.countP_le_length
theorem nLo_filter (l:List PC) (f:PC→Bool):nLo (l.filter f)≤nLo l:=by
 unfold nLo;exact List.Sublist.countP_le List.filter_sublist
theorem psF_none: ∀(l:List PC),(∀ p∈l,p.sacked=false)→(psF l).1=l∧(psF l).2.2=0
 | [],_=>⟨rfl,rfl⟩
 | p::r,h=>by
  obtain⟨h1,h2⟩:=psF_none r fun q hq=>h q (List.mem_cons_of_mem _ hq)
  have hp:=h p (List.mem_cons_self ..);unfold psF;simp only[hp,h2];simp[h1]
theorem restF_none (u:Nat) (l:List PC) (h: ∀ p∈l,p.sacked=false):restF u [] l=l.filter (fun p=> !decide (p.til≤u)):=by
 unfold restF;have e:(l.filter (fun p=> !decide (p.til≤u))).map (ackP u [])=(l.filter (fun p=> !decide (p.til≤u))).map id:=by
  refine List.map_congr_left fun p hp=> ?_
  have hp2:=(List.mem_filter.1 hp).2;have: ¬ p.til≤u:=by simpa using hp2
  unfold ackP ackT;simp[this]
 rw[e,List.map_id]
theorem lost_first {l:List PC} {i:Nat} {x:PC} (h:lostIx l=(i:Nat)) (hx:l[i]? =some x): ∀ p∈l.take i,p.lost=false:=by
 unfold lostIx at h;split at h
 ·rename_i j hj
  have:j=i:=by omega
  subst this;obtain⟨h1,h2,h3⟩:=List.findIdx?_eq_some_iff_getElem.1 hj;intro p hp;obtain⟨k,hk,rfl⟩:=List.mem_take_iff_getElem.1 hp;simpa using h3 k (by omega)
 ·omega
theorem cut_at {F L:List PC} {l:List PC} (hl:l=F++L) (hF: ∀ p∈F,p.lost=false) (hL: ∀ p∈L,p.lost=true) {i:Nat} {x:PC} (h:lostIx l=(i:Nat)) (hx:l[i]? =some x) (hxl:x.lost=true):i=F.length∧ ∃ r,L=x::r:=by
 have h1:=lost_first h hx;have e:i=F.length:=by
  rcases Nat.lt_trichotomy i F.length with hi | hi | hi
  ·rw[hl,List.getElem?_append_left hi]at hx
   have:=hF x (List.mem_of_getElem? hx);rw[this]at hxl;cases hxl
  ·exact hi
  ·have hlen:=(List.getElem?_eq_some_iff.1 hx).1
   rw[hl,List.length_append]at hlen;cases hL0:L with
   | nil=>rw[hL0]at hlen;simp at hlen;omega
   | cons q r=>
    have hq:=hL q (by rw[hL0];simp);have:q∈l.take i:=by
     obtain⟨n,hn⟩: ∃ n,i-F.length=n+1:=⟨i-F.length-1,by omega⟩;rw[hl,hL0,List.take_append,hn,List.take_succ_cons];exact List.mem_append_right _ (List.mem_cons_self ..)
    have:=h1 q this;rw[hq]at this;cases this
 refine⟨e, ?_⟩;rw[hl,List.getElem?_append_right (by omega),e,Nat.sub_self]at hx;cases hL0:L with
 | nil=>rw[hL0]at hx;cases hx
 | cons q r=>rw[hL0]at hx;cases hx;exact⟨r,rfl⟩
end
end Go.Proofs.YtojgokiobdpclaaGreat
