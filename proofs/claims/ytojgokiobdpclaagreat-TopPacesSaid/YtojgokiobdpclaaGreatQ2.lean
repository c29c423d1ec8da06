import Derived.Test.YtojgokiobdpclaaGreatQ1
import Derived.Laws.StructEq
import Derived.Deep.Slices
import Derived.Deep.Fields
import Derived.ChangeSame
namespace Go.Proofs.YtojgokiobdpclaaGreat
set_option linter.unusedVariables false
set_option linter.unusedSimpArgs false
set_option maxRecDepth 8000
set_option maxHeartbeats 8000000
section
open Go.RowKit Go.Lib
theorem DepAt.rd {w:World} {g:Nat→Nat} {v:Value} {l:List SG} (h:DepAt w g v l):Rd w v 5 l.length (l.flatMap sgl):=by
 match l,h with
 | [],h=>exact⟨rfl, .inl ⟨⟨_,_,h⟩,rfl⟩⟩
 | [x],⟨bd,e,h⟩=>
  refine⟨rfl, .inr ⟨bd,0,1,e,h.1.lt,Nat.le_refl _,by decide,fun j hj=> ?_⟩⟩;rw[Nat.zero_add,h.1.cell j];simp[sga,sgl]
structure OutR (w:World) (v:Value) (o:OU):Prop where
 ex: ∃ a c a2 c2 a3 c3,v= .agg #[.slice a o.dep.length c, .slice a2 o.drop.length c2, .slice a3 o.fates.length c3, .int .u64 o.dog]∧Rd w (.slice a o.dep.length c) 5 o.dep.length (o.dep.flatMap sgl)∧Rd w (.slice a2 o.drop.length c2) 5 o.drop.length (o.drop.flatMap sgl)∧Rd w (.slice a3 o.fates.length c3) 1 o.fates.length (ints o.fates)
theorem OutV.rd {w:World} {g:Nat→Nat} {T:Nat} {v:Value} {o:OU} (h:OutV w g T v o):OutR w v o:=by
 obtain⟨vd,vx,vf,rfl,h1,h2,h3⟩:=h;have r1:=h1.rd;have r2:=h2.rd;have r3:=h3.rd;obtain⟨a,c,rfl,_⟩:=r1.form;obtain⟨a2,c2,rfl,_⟩:=r2.form;obtain⟨a3,c3,rfl,_⟩:=r3.form;exact⟨_,_,_,_,_,_,rfl,r1,r2,r3⟩
theorem OutV.len {w:World} {g:Nat→Nat} {T:Nat} {v:Value} {o:OU} (h:OutV w g T v o):o.dep.length≤9223372036854775807∧o.drop.length≤9223372036854775807∧o.fates.length≤9223372036854775807:=by
 obtain⟨vd,vx,vf,rfl,h1,h2,h3⟩:=h;obtain⟨_,_,_,p2,p3⟩:=h2.cap_;obtain⟨_,_,_,q2,q3⟩:=h3.cap_;unfold maxLen at p3 q3;refine⟨?_,by omega,by omega⟩;match o.dep,h1 with
 | [],_=>exact Nat.zero_le _
 | [_],_=>show 1≤_;decide
theorem OutR.below {w w':World} {v:Value} {o:OU} (h:OutR w v o) (hb:Below w.heap.size w w'):OutR w' v o:=by
 obtain⟨a,c,a2,c2,a3,c3,e,h1,h2,h3⟩:=h.ex;exact⟨_,_,_,_,_,_,e,h1.below hb,h2.below hb,h3.below hb⟩
end
section
open Go.RowKit Go.Lib
theorem pick_nat {v lo hi:Int} {p:Nat} (h0:0≤lo) (h1:lo≤p) (h2:(p:Int)≤hi):(((pick v lo hi p).toNat:Nat):Int)=pick v lo hi p:=Int.toNat_of_nonneg (Int.le_trans h0 (pick_in h1 h2).1)
theorem config_cf (c:CR) (w:World):Calls Tryz.prog 8 #[crv c] w fun e w'=>e= .returned (cfv (cfP c))∧Below w.heap.size w w':=by
 refine(config_any c w).mono ?_;rintro e w' ⟨rfl,hB⟩;refine⟨?_,hB⟩;unfold cfv cfP;simp only
 rw[pick_nat (by decide) (by decide) (by decide),pick_nat (by decide) (by decide) (by decide),pick_nat (by decide) (by decide) (by decide),pick_nat (by decide) (by decide) (by decide),pick_nat (by decide) (by decide) (by decide),pick_nat (by decide) (by decide) (by decide)]
section
variable {w w':World} {g g':Nat→Nat} {T b:Nat} {m:MC} {n:Nat}
theorem model_at (hm:m.okn n) {s:Nat} (hs:s<8) (hT0:0<T) (hT:Tidy w g) (h:McAt w g T b m):
  Calls Tryz.prog 12 #[.pointer (some ⟨b,0,none⟩), .int .i64 s] w fun e w'=>e= .returned (.tuple #[mdo (m.sk s), .bool (m.sk s).isSome])∧Below w.heap.size w w':=by
 obtain⟨pc,sp,pq,pl,fp,bl,bt,h⟩:=h;exact mcmodel_any b s hs pc sp pq pl fp bl bt m hm.ok g T hT0 w hT h
theorem now_at (h:McAt w g T b m):Calls Tryz.prog 14 #[.pointer (some ⟨b,0,none⟩)] w fun e w'=>e= .returned (.int .u64 (m.now:Nat))∧w=w':=by
 obtain⟨pc,sp,pq,pl,fp,bl,bt,h⟩:=h;exact mcnow_any b pc sp pq pl fp bl bt m g T w h
end
structure DD.raw (d:DD):Prop where
 l1: -9223372036854775808≤d.len
 l2:d.len≤9223372036854775807
 up:d.upto<18446744073709551616
 at_:d.at_<18446744073709551616
 mr:d.cr.maxRate<18446744073709551616
theorem DD.raw.ok {d:DD} (h:d.raw):(ddP d).ok:=⟨by show _≤ddL d.len;unfold ddL;have:=h.l1;split<;>omega,by show ddL d.len≤_;unfold ddL;split<;>omega,h.up,h.at_,by show(d.sks.take 6).length≤6;rw[List.length_take];omega,h.mr⟩
theorem deeds_ok {ds:List DD} (h: ∀ d∈ds,d.raw) (most:Nat): ∀ d∈(ds.take most).map ddP,d.ok:=fun d hd=>by
 obtain⟨x,hx,rfl⟩:=List.mem_map.1 hd;exact(h x (List.mem_of_mem_take hx)).ok
theorem DsRd.at_ {w:World} {g:Nat→Nat} {a:Option Addr} {n cap:Nat} {ds:List DD} (h:DsRd w g (.slice a n cap) ds) (hn:ds.length=n) {i:Nat} {d:DD} (hd:ds[i]? =some d):
  ∃ b off av kv,a=some ⟨b,off,none⟩∧b<w.heap.size∧(∀ q,q<15→w.cell? ⟨b,off+i*15+q,none⟩=(ddc d (.slice av d.sks.length kv))[q]?)∧RdZ w g (.slice av d.sks.length kv) 2 d.sks.length (d.sks.flatMap rgl)∧g b=0:=by
 obtain⟨xs,h1,h2,h3⟩:=h;rw[hn]at h1;have hi:=(List.getElem?_eq_some_iff.1 hd).1;obtain⟨a',c',e,_,hf⟩:=h1.1.form;cases e
 obtain⟨b,off,rfl,hb,hc⟩:=hf (by omega);obtain⟨vi,k1,k2⟩:=h3 i d hd;obtain⟨av,kv,rfl,_,_⟩:=k2.1.form;exact⟨b,off,av,kv,rfl,hb,fun q hq=>by rw[Nat.add_assoc,hc _ (by omega)];exact k1 q hq,k2,(h1.2 _ _ _ rfl (by omega)).2⟩
theorem time_any (z:Int) (cr:Int) (p n t:Nat) (x:SG) (r:List SG) (a:Option Addr) (L c:Nat) (hL:r.length+1=L) (w:World) (h:Rd w (.slice a L c) 5 L ((x::r).flatMap sgl)):
  Calls Tryz.prog 20 #[.agg #[.int .i64 z, .int .i64 cr, .int .i64 (p:Nat), .int .u64 (n:Nat), .int .u64 (t:Nat), .slice a L c]] w fun e w'=>e= .returned (.int .u64 (max n x.stamp:Nat))∧Below w.heap.size w w':=by
 obtain⟨a',c',e,hc,hf⟩:=h.form;cases e
 obtain⟨b,off,rfl,hb,hcell⟩:=hf (by omega);have r3:w.cell? ⟨b,off+3,none⟩=some (.int .u64 x.stamp):=(hcell 3 (by omega)).trans (by simp[sgl]);have em:max (n:Int) (x.stamp:Int)=((max n x.stamp:Nat):Int):=max_cast _ _;obtain⟨m,hm⟩: ∃ m,max n x.stamp=m:=⟨_,rfl⟩;rw[hm]at em ⊢;obtain⟨st,es⟩: ∃ s,x.stamp=s:=⟨_,rfl⟩;rw[es]at em r3;have hL0:0<L:=by omega
 clear h hcell hf hm hL es;go_enter Tryz.func20,Tryz.ntmps20
 go_upto_region 1 with fail
 obtain⟨N0,e0⟩: ∃ z,w.heap.size=z:=⟨_,rfl⟩;rw[e0];refine wp_named (fun W=>At W N0 57 #[.int .i64 z, .int .i64 cr, .int .i64 (p:Nat), .int .u64 (n:Nat), .int .u64 (t:Nat), .slice (some ⟨b,off,none⟩) L c]∧Hid (Below w.heap.size w W)) ⟨by rw[←e0];exact At.made w _ _,zH ((Below.refl _ w).alloc (Nat.le_refl _) _)⟩ (fun W hW=> ?_);obtain⟨A,HB⟩:=hW;have y3:=A.ce 3;have y5:=A.ce 5;have r3':W.cell? ⟨b,off+3,none⟩=some (.int .u64 st):=(HB.out.cell (p:=⟨b,off+3,none⟩) hb).trans r3;have hL1:(0:Int)<L:=by omega
 clear r3 A hb;go_quiet (fail)
 go_wp2;go_ret
 obtain⟨k1,k2,k3,k4,k5⟩:=HB.out;exact⟨rfl,k1,k2,k3,k4,k5⟩
end
section
open Go.RowKit Go.ChangeShapes Go.WideShapes Go.Deep
section
variable {H:Type} {enc:TypeId×Value→H} {P:Program} {w:World} {base:Nat} {spare:Nat→Bool} {held:Bool}
theorem fields_of {e:TypeId} {fs:Array Field} {n:Nat} {cs:List Value} {x:DataW H×List MemPlace} (he:P.underlying e=some (.struct fs)) (hone:oneCellFields P fs=true) (hC:P.cellsOf e=fs.size)
  (h:DataW.trod enc P w base spare held n e cs=some x): ∀(j:Nat) (f:Field),fs[j]? =some f→ ∃(v:Value) (m:Nat) (y:DataW H×List MemPlace),cs[j]? =some v∧DataW.trod enc P w base spare held m f.type [v]=some y:=by
 intro j f hj;obtain⟨ys,m,_,_,hlen,hyl,hf⟩:=DataW.trod_struct he h;obtain⟨ho,hk⟩:=hone_of hone j f hj;have hjl:j<fs.size:=by
  rcases Nat.lt_or_ge j fs.size with h | h
  ·exact h
  ·rw[Array.getElem?_eq_none h]at hj;cases hj
 have hjc:j<cs.length:=by omega
 have h1:=hf j f hj;rw[ho,hk,List.drop_eq_getElem_cons hjc,List.take_succ_cons,List.take_zero]at h1;refine⟨cs[j],m,ys[j]'(by omega),List.getElem?_eq_getElem hjc, ?_⟩;rw[h1];exact List.getElem?_eq_getElem (by omega)
theorem slice_structs {t e:TypeId} {fs:Array Field} {fuel:Nat} {a:Option Addr} {len cap:Nat} {x:DataW H×List MemPlace} (ht:P.underlying t=some (.slice e)) (he:P.underlying e=some (.struct fs))
  (hone:oneCellFields P fs=true) (hC:P.cellsOf e=fs.size) (hp:0<fs.size) (h:DataW.trod enc P w base spare held fuel t [.slice a len cap]=some x):
  len≤9223372036854775807∧(0<len→ ∃ b off,a=some ⟨b,off,none⟩∧b<w.heap.size∧ ∀ k,k<len→ ∀(j:Nat) (f:Field),fs[j]? =some f→
   ∃(v:Value) (m:Nat) (y:DataW H×List MemPlace),w.cell? ⟨b,off+k*fs.size+j,none⟩=some v∧DataW.trod enc P w base spare held m f.type [v]=some y):=by
 rcases open_slice ht h with⟨h0,_⟩ | ⟨q,l,c,m,n,D,Pl,hcs,hb,hl,hm,hmm,hx,hi⟩
 ·simp at h0
  omega
 ·simp at hcs
  obtain⟨rfl,rfl,rfl⟩:=hcs;have hlm:len≤m:=by rw[hmm];split<;>omega
  refine⟨by unfold maxLen at hm;omega,fun h0=> ?_⟩;have hat: ∀ k,k<len→ ∀(j:Nat) (f:Field),fs[j]? =some f→ ∃(v:Value) (m:Nat) (y:DataW H×List MemPlace),w.cell? ((q.add (k*fs.size)).add j)=some v∧DataW.trod enc P w base spare held m f.type [v]=some y:=by
   intro k hk j f hj;obtain⟨cs,hc,ht'⟩:=hi k (by omega);rw[hC]at hc;obtain⟨_,hcl,hcell⟩:=World.cells?_some hc;obtain⟨v,m',y,hv,hy⟩:=fields_of he hone hC ht' j f hj;have hjl:j<fs.size:=by
    rcases Nat.lt_or_ge j fs.size with h | h
    ·exact h
    ·rw[Array.getElem?_eq_none h]at hj;cases hj
   exact⟨v,m',y,(hcell j hjl).trans hv,hy⟩
  obtain⟨b,off,spot⟩:=q;have h00:fs[0]? =some (fs[0]'hp):=Array.getElem?_eq_getElem hp;obtain⟨v,_,_,hv,_⟩:=hat 0 h0 0 _ h00;have hspot:spot=none:=by simpa [Addr.add]using World.cell?_spot hv
  subst hspot;have hbl:b<w.heap.size:=by simpa [Addr.add]using World.block_lt_of_cell? _ _ hv
  refine⟨b,off,rfl,hbl,fun k hk j f hj=> ?_⟩;obtain⟨v,m',y,hv,hy⟩:=hat k hk j f hj;rw[Go.WideShapes.add_plain,Go.WideShapes.add_plain]at hv;exact⟨v,m',y,hv,hy⟩
theorem slice_elems {t e:TypeId} {fuel:Nat} {a:Option Addr} {len cap:Nat} {x:DataW H×List MemPlace} (size:Nat) (ht:P.underlying t=some (.slice e)) (hC:P.cellsOf e=size) (hp:0<size)
  (hne: ∀ n cs y,DataW.trod enc P w base spare held n e cs=some y→cs.length=size) (h:DataW.trod enc P w base spare held fuel t [.slice a len cap]=some x):
  len≤9223372036854775807∧(0<len→ ∃ b off,a=some ⟨b,off,none⟩∧b<w.heap.size∧ ∀ k,k<len→ ∃(cs:List Value) (n:Nat) (y:DataW H×List MemPlace),cs.length=size∧
   (∀ j,j<size→w.cell? ⟨b,off+k*size+j,none⟩=cs[j]?)∧DataW.trod enc P w base spare held n e cs=some y):=by
 rcases open_slice ht h with⟨h0,_⟩ | ⟨q,l,c,m,n,D,Pl,hcs,hb,hl,hm,hmm,hx,hi⟩
 ·simp at h0
  omega
 ·simp at hcs
  obtain⟨rfl,rfl,rfl⟩:=hcs;have hlm:len≤m:=by rw[hmm];split<;>omega
  refine⟨by unfold maxLen at hm;omega,fun h0=> ?_⟩;have hat: ∀ k,k<len→ ∃(cs:List Value) (n:Nat) (y:DataW H×List MemPlace),cs.length=size∧(∀ j,j<size→w.cell? ((q.add (k*size)).add j)=cs[j]?)∧DataW.trod enc P w base spare held n e cs=some y:=by
   intro k hk;obtain⟨cs,hc,ht'⟩:=hi k (by omega);rw[hC]at hc;obtain⟨_,hcl,hcell⟩:=World.cells?_some hc;exact⟨cs,_,_,hcl,fun j hj=>hcell j hj,ht'⟩
  obtain⟨b,off,spot⟩:=q;obtain⟨cs,_,_,hl0,hc0,_⟩:=hat 0 h0;have h00:=hc0 0 hp;rw[List.getElem?_eq_getElem (by omega)]at h00;have hspot:spot=none:=by simpa [Addr.add]using World.cell?_spot h00
  subst hspot;have hbl:b<w.heap.size:=by simpa [Addr.add]using World.block_lt_of_cell? _ _ h00
  refine⟨b,off,rfl,hbl,fun k hk=> ?_⟩;obtain⟨cs,n,y,hl,hc,ht'⟩:=hat k hk;refine⟨cs,n,y,hl,fun j hj=> ?_,ht'⟩;have:=hc j hj;rw[Go.WideShapes.add_plain,Go.WideShapes.add_plain]at this;exact this
theorem struct_len {e:TypeId} {fs:Array Field} {size:Nat} (he:P.underlying e=some (.struct fs)) (hC:P.cellsOf e=size): ∀ n cs y,DataW.trod enc P w base spare held n e cs=some y→cs.length=size:=by
 intro n cs y h;obtain⟨ys,m,_,_,hlen,_,_⟩:=DataW.trod_struct he h;rw[hlen,hC]
theorem one_of {e:TypeId} {fs:Array Field} {n:Nat} {cs:List Value} {x:DataW H×List MemPlace} (he:P.underlying e=some (.struct fs)) (h:DataW.trod enc P w base spare held n e cs=some x)
  (i:Nat) (f:Field) (hf:fs[i]? =some f) (hk:P.cellsOf f.type=1) (hlt:f.offset<cs.length): ∃(v:Value) (m:Nat) (y:DataW H×List MemPlace),cs[f.offset]? =some v∧DataW.trod enc P w base spare held m f.type [v]=some y:=by
 obtain⟨ys,m,_,_,hlen,hyl,hh⟩:=DataW.trod_struct he h;have hil:i<fs.size:=(Array.getElem?_eq_some_iff.1 hf).1;have h1:=hh i f hf;rw[hk,List.drop_eq_getElem_cons hlt,List.take_succ_cons,List.take_zero]at h1;exact⟨cs[f.offset],m,ys[i]'(by omega),List.getElem?_eq_getElem hlt,by rw[h1];exact List.getElem?_eq_getElem (by omega)⟩
theorem sub_of {e g:TypeId} {fs gs:Array Field} {n:Nat} {cs:List Value} {x:DataW H×List MemPlace} (he:P.underlying e=some (.struct fs)) (h:DataW.trod enc P w base spare held n e cs=some x)
  (i:Nat) (f:Field) (hf:fs[i]? =some f) (hg:f.type=g) (hu:P.underlying g=some (.struct gs)) (hone:oneCellFields P gs=true) (hC:P.cellsOf g=gs.size)
  (j:Nat) (f2:Field) (hf2:gs[j]? =some f2): ∃(v:Value) (m:Nat) (y:DataW H×List MemPlace),cs[f.offset+j]? =some v∧DataW.trod enc P w base spare held m f2.type [v]=some y:=by
 obtain⟨ys,m,_,_,hlen,hyl,hh⟩:=DataW.trod_struct he h;have hil:i<fs.size:=(Array.getElem?_eq_some_iff.1 hf).1;have h1:=hh i f hf;rw[hg,List.getElem?_eq_getElem (show i<ys.length by omega)]at h1;obtain⟨v,m',y,hv,hy⟩:=fields_of hu hone hC h1 j f2 hf2;refine⟨v,m',y, ?_,hy⟩;have hjl:j<gs.size:=(Array.getElem?_eq_some_iff.1 hf2).1;rw[hC]at hv;rw[List.getElem?_take_of_lt hjl,List.getElem?_drop]at hv;exact hv
end
end
section
open Go.RowKit Go.Lib Go.ChangeShapes Go.WideShapes Go.Deep
theorem list_of {α:Type} {P:Nat→α→Prop}: ∀ n,(∀ k,k<n→ ∃ d,P k d)→ ∃ ds:List α,ds.length=n∧ ∀ k d,ds[k]? =some d→P k d
 | 0,_=>⟨[],rfl,fun k d h=>by simp at h⟩
 | n+1,h=>by
  obtain⟨ds,h1,h2⟩:=list_of n (fun k hk=>h k (by omega));obtain⟨d,hd⟩:=h n (by omega);refine⟨ds++[d],by simp[h1],fun k e he=> ?_⟩;rcases Nat.lt_trichotomy k n with hk | hk | hk
  ·rw[List.getElem?_append_left (by omega)]at he
   exact h2 k e he
  ·subst hk
   rw[List.getElem?_append_right (by omega),h1,Nat.sub_self]at he;simp at he
   rw[←he];exact hd
  ·rw[List.getElem?_eq_none (by simp;omega)]at he
   cases he
section
variable {H:Type} {enc:TypeId×Value→H} {w:World} {base:Nat} {spare:Nat→Bool} {held:Bool}
theorem i64_of {n:Nat} {v:Value} {y:DataW H×List MemPlace} (h:DataW.trod enc Tryz.prog w base spare held n 3 [v]=some y): ∃ x:Int,v= .int .i64 x∧ -9223372036854775808≤x∧x≤9223372036854775807:=by
 obtain⟨x,e,_,g⟩:=DataW.trod_int Tryz.underlying3 h;simp only[List.cons.injEq,and_true]at e;have:=bounds_i64 g;exact⟨x,e,by omega,by omega⟩
theorem u64_of' {n:Nat} {v:Value} {y:DataW H×List MemPlace} (h:DataW.trod enc Tryz.prog w base spare held n 22 [v]=some y): ∃ x:Nat,v= .int .u64 x∧x<18446744073709551616:=by
 obtain⟨x,e,_,g⟩:=DataW.trod_int Tryz.underlying22 h;simp only[List.cons.injEq,and_true]at e;obtain⟨n,rfl,h1⟩:=u64_of g;exact⟨n,e,h1⟩
theorem bool_of {n:Nat} {v:Value} {y:DataW H×List MemPlace} (h:DataW.trod enc Tryz.prog w base spare held n 4 [v]=some y): ∃ x:Bool,v= .bool x:=by
 obtain⟨x,e,_⟩:=DataW.trod_bool Tryz.underlying4 h;simp only[List.cons.injEq,and_true]at e;exact⟨x,e⟩
theorem list9 {l:List Value} {a b c d e f g h i:Value} (hl:l.length=9) (h0:l[0]? =some a) (h1:l[1]? =some b) (h2:l[2]? =some c) (h3:l[3]? =some d) (h4:l[4]? =some e) (h5:l[5]? =some f) (h6:l[6]? =some g) (h7:l[7]? =some h) (h8:l[8]? =some i):l=[a,b,c,d,e,f,g,h,i]:=by
 match l,hl with
 | [x0,x1,x2,x3,x4,x5,x6,x7,x8],_=>
  simp at h0 h1 h2 h3 h4 h5 h6 h7 h8
  simp[*]
theorem cfg_of {n:Nat} {cs:List Value} {x:DataW H×List MemPlace} (h:DataW.trod enc Tryz.prog w base spare held n 24 cs=some x): ∃ c:CR,cs=(crc c).toList∧c.maxRate<18446744073709551616:=by
 have hl:cs.length=9:=struct_len Tryz.underlying24 (by kernel_rfl) n cs x h;obtain⟨v0,_,_,c0,t0⟩:=one_of Tryz.underlying24 h 0 _ rfl (by kernel_rfl) (by rw[hl];decide);obtain⟨v1,_,_,c1,t1⟩:=one_of Tryz.underlying24 h 1 _ rfl (by kernel_rfl) (by rw[hl];decide);obtain⟨v2,_,_,c2,t2⟩:=one_of Tryz.underlying24 h 2 _ rfl (by kernel_rfl) (by rw[hl];decide);obtain⟨v3,_,_,c3,t3⟩:=one_of Tryz.underlying24 h 3 _ rfl (by kernel_rfl) (by rw[hl];decide);obtain⟨v4,_,_,c4,t4⟩:=one_of Tryz.underlying24 h 4 _ rfl (by kernel_rfl) (by rw[hl];decide);obtain⟨v5,_,_,c5,t5⟩:=one_of Tryz.underlying24 h 5 _ rfl (by kernel_rfl) (by rw[hl];decide);obtain⟨v6,_,_,c6,t6⟩:=one_of Tryz.underlying24 h 6 _ rfl (by kernel_rfl) (by rw[hl];decide);obtain⟨v7,_,_,c7,t7⟩:=one_of Tryz.underlying24 h 7 _ rfl (by kernel_rfl) (by rw[hl];decide);obtain⟨v8,_,_,c8,t8⟩:=one_of Tryz.underlying24 h 8 _ rfl (by kernel_rfl) (by rw[hl];decide);obtain⟨x0,rfl,_⟩:=i64_of t0;obtain⟨x1,rfl,_⟩:=i64_of t1;obtain⟨x2,rfl,_⟩:=i64_of t2;obtain⟨x3,rfl,_⟩:=i64_of t3;obtain⟨x4,rfl,_⟩:=u64_of' t4;obtain⟨x5,rfl,h5⟩:=u64_of' t5;obtain⟨x6,rfl⟩:=bool_of t6;obtain⟨x7,rfl,_⟩:=i64_of t7;obtain⟨x8,rfl,_⟩:=i64_of t8;exact⟨⟨x0,x1,x2,x3,x4,x5,x6,x7,x8⟩,list9 hl c0 c1 c2 c3 c4 c5 c6 c7 c8,h5⟩
theorem ranges_of {n:Nat} {v:Value} {x:DataW H×List MemPlace} (h:DataW.trod enc Tryz.prog w base spare held n 44 [v]=some x) (g:Nat→Nat) (hg: ∀ b,g b=0): ∃ sk:List (Nat×Nat),RdZ w g v 2 sk.length (sk.flatMap rgl):=by
 rcases open_slice Tryz.underlying44 h with⟨h0,_⟩ | ⟨q,len,cap,m,k,D,Pl,hcs,hb,hl,hm,_⟩
 ·simp only[List.cons.injEq,and_true]at h0
  subst h0;exact⟨[],⟨rfl, .inl ⟨⟨_,_,rfl⟩,rfl⟩⟩,fun a m c hv h=>by cases hv⟩
 ·simp only[List.cons.injEq,and_true]at hcs
  subst hcs;obtain⟨_,hs⟩:=slice_structs Tryz.underlying44 Tryz.underlying64 (by kernel_rfl) (by kernel_rfl) (by decide) h;rcases Nat.eq_zero_or_pos len with rfl | hp
  ·exact⟨[],⟨rfl, .inl ⟨⟨_,_,rfl⟩,rfl⟩⟩,fun a m c hv h=>absurd h (Nat.lt_irrefl 0)⟩
  ·obtain⟨b,off,e,hbl,hc⟩:=hs hp
   cases e
   obtain⟨sk,e1,e2⟩:=list_of (P:=fun k (r:Nat×Nat)=>w.cell? ⟨b,off+k*2,none⟩=some (.int .u64 r.1)∧w.cell? ⟨b,off+k*2+1,none⟩=some (.int .u64 r.2)) len (fun k hk=>by
    obtain⟨v0,_,_,c0,t0⟩:=hc k hk 0 _ rfl;obtain⟨v1,_,_,c1,t1⟩:=hc k hk 1 _ rfl;obtain⟨x0,rfl,_⟩:=u64_of' t0;obtain⟨x1,rfl,_⟩:=u64_of' t1;exact⟨(x0,x1),c0,c1⟩)
   subst e1;have hfl:(sk.flatMap rgl).length=sk.length*2:=flat_len rgl_len sk;refine⟨sk,⟨hfl, .inr ⟨b,off,cap,rfl,hbl,hl,hm,fun j hj=> ?_⟩⟩,fun a m c hv h=> ?_⟩
   ·have hx:sk[j / 2]? =some sk[j / 2]:=List.getElem?_eq_getElem (by omega)
    obtain⟨y0,y1⟩:=e2 (j / 2) _ hx;have:=flat_at rgl_len hx (j%2) (by omega);rw[show j / 2*2+j%2=j from by omega]at this;rw[this];rcases Nat.mod_two_eq_zero_or_one j with hz | hz
    ·rw[hz,show off+j=off+j / 2*2 from by omega,y0];rfl
    ·rw[hz,show off+j=off+j / 2*2+1 from by omega,y1];rfl
   ·cases hv
    exact⟨hbl,hg _⟩
theorem list15 {l:List Value} {a b c d e f g h i j k m n o p:Value} (hl:l.length=15) (h0:l[0]? =some a) (h1:l[1]? =some b) (h2:l[2]? =some c) (h3:l[3]? =some d) (h4:l[4]? =some e) (h5:l[5]? =some f) (h6:l[6]? =some g) (h7:l[7]? =some h) (h8:l[8]? =some i)
  (h9:l[9]? =some j) (h10:l[10]? =some k) (h11:l[11]? =some m) (h12:l[12]? =some n) (h13:l[13]? =some o) (h14:l[14]? =some p):l=[a,b,c,d,e,f,g,h,i,j,k,m,n,o,p]:=by
 match l,hl with
 | [x0,x1,x2,x3,x4,x5,x6,x7,x8,x9,x10,x11,x12,x13,x14],_=>
  simp at h0 h1 h2 h3 h4 h5 h6 h7 h8 h9 h10 h11 h12 h13 h14
  simp[*]
theorem deed_of {n:Nat} {cs:List Value} {x:DataW H×List MemPlace} (h:DataW.trod enc Tryz.prog w base spare held n 46 cs=some x) (g:Nat→Nat) (hg: ∀ b,g b=0): ∃(d:DD) (v:Value),cs=(ddc d v).toList∧RdZ w g v 2 d.sks.length (d.sks.flatMap rgl)∧d.raw:=by
 have hl:cs.length=15:=struct_len Tryz.underlying46 (by kernel_rfl) n cs x h;obtain⟨v0,_,_,c0,t0⟩:=one_of Tryz.underlying46 h 0 _ rfl (by kernel_rfl) (by rw[hl];decide);obtain⟨v1,_,_,c1,t1⟩:=one_of Tryz.underlying46 h 1 _ rfl (by kernel_rfl) (by rw[hl];decide);obtain⟨v2,_,_,c2,t2⟩:=one_of Tryz.underlying46 h 2 _ rfl (by kernel_rfl) (by rw[hl];decide);obtain⟨v3,_,_,c3,t3⟩:=one_of Tryz.underlying46 h 3 _ rfl (by kernel_rfl) (by rw[hl];decide);obtain⟨v4,_,_,c4,t4⟩:=one_of Tryz.underlying46 h 4 _ rfl (by kernel_rfl) (by rw[hl];decide);obtain⟨v5,_,_,c5,t5⟩:=one_of Tryz.underlying46 h 5 _ rfl (by kernel_rfl) (by rw[hl];decide);obtain⟨v6,_,_,c6,t6⟩:=sub_of Tryz.underlying46 h 6 _ rfl rfl Tryz.underlying24 (by kernel_rfl) (by kernel_rfl) 0 _ rfl;obtain⟨v7,_,_,c7,t7⟩:=sub_of Tryz.underlying46 h 6 _ rfl rfl Tryz.underlying24 (by kernel_rfl) (by kernel_rfl) 1 _ rfl;obtain⟨v8,_,_,c8,t8⟩:=sub_of Tryz.underlying46 h 6 _ rfl rfl Tryz.underlying24 (by kernel_rfl) (by kernel_rfl) 2 _ rfl;obtain⟨v9,_,_,c9,t9⟩:=sub_of Tryz.underlying46 h 6 _ rfl rfl Tryz.underlying24 (by kernel_rfl) (by kernel_rfl) 3 _ rfl;obtain⟨v10,_,_,c10,t10⟩:=sub_of Tryz.underlying46 h 6 _ rfl rfl Tryz.underlying24 (by kernel_rfl) (by kernel_rfl) 4 _ rfl;obtain⟨v11,_,_,c11,t11⟩:=sub_of Tryz.underlying46 h 6 _ rfl rfl Tryz.underlying24 (by kernel_rfl) (by kernel_rfl) 5 _ rfl;obtain⟨v12,_,_,c12,t12⟩:=sub_of Tryz.underlying46 h 6 _ rfl rfl Tryz.underlying24 (by kernel_rfl) (by kernel_rfl) 6 _ rfl
 obtain⟨v13,_,_,c13,t13⟩:=sub_of Tryz.underlying46 h 6 _ rfl rfl Tryz.underlying24 (by kernel_rfl) (by kernel_rfl) 7 _ rfl;obtain⟨v14,_,_,c14,t14⟩:=sub_of Tryz.underlying46 h 6 _ rfl rfl Tryz.underlying24 (by kernel_rfl) (by kernel_rfl) 8 _ rfl;obtain⟨x0,rfl,_⟩:=i64_of t0;obtain⟨x1,rfl,_⟩:=i64_of t1;obtain⟨x2,rfl,l1,l2⟩:=i64_of t2;obtain⟨x3,rfl,h3⟩:=u64_of' t3;obtain⟨x4,rfl,h4⟩:=u64_of' t4;obtain⟨sk,hsk⟩:=ranges_of t5 g hg;obtain⟨x6,rfl,_⟩:=i64_of t6;obtain⟨x7,rfl,_⟩:=i64_of t7;obtain⟨x8,rfl,_⟩:=i64_of t8;obtain⟨x9,rfl,_⟩:=i64_of t9;obtain⟨x10,rfl,_⟩:=u64_of' t10;obtain⟨x11,rfl,h11⟩:=u64_of' t11;obtain⟨x12,rfl⟩:=bool_of t12;obtain⟨x13,rfl,_⟩:=i64_of t13;obtain⟨x14,rfl,_⟩:=i64_of t14;exact⟨⟨x0,x1,x2,x3,x4,sk,⟨x6,x7,x8,x9,x10,x11,x12,x13,x14⟩⟩,v5,list15 hl c0 c1 c2 c3 c4 c5 c6 c7 c8 c9 c10 c11 c12 c13 c14,hsk,⟨l1,l2,h3,h4,h11⟩⟩
theorem deeds_of {n:Nat} {v:Value} {x:DataW H×List MemPlace} (h:DataW.trod enc Tryz.prog w base spare held n 25 [v]=some x) (g:Nat→Nat) (hg: ∀ b,g b=0): ∃ ds:List DD,DsRd w g v ds∧ ∀ d∈ds,d.raw:=by
 have nil: ∀ v,(∃ a c,v=Value.slice a 0 c)→ ∃ ds:List DD,DsRd w g v ds∧ ∀ d∈ds,d.raw:=fun v ⟨a,c,hv⟩=>
  ⟨[],⟨[],⟨⟨rfl, .inl ⟨⟨a,c,hv⟩,rfl⟩⟩,fun a m c hv h=>absurd h (Nat.lt_irrefl 0)⟩,rfl,fun j d hj=>by cases hj⟩,fun d hd=>by cases hd⟩
 rcases open_slice Tryz.underlying25 h with⟨h0,_⟩ | ⟨q,len,cap,m,k,D,Pl,hcs,hb,hl,hm,_⟩
 ·simp only[List.cons.injEq,and_true]at h0
  exact nil v ⟨_,_,h0⟩
 ·simp only[List.cons.injEq,and_true]at hcs
  subst hcs;obtain⟨_,hs⟩:=slice_elems 15 Tryz.underlying25 (by kernel_rfl) (by decide) (struct_len Tryz.underlying46 (by kernel_rfl)) h;rcases Nat.eq_zero_or_pos len with rfl | hp
  ·exact nil _ ⟨_,_,rfl⟩
  ·obtain⟨b,off,e,hbl,hc⟩:=hs hp
   cases e
   obtain⟨ps,e1,e2⟩:=list_of (P:=fun k (p:DD×Value)=>(∀ j,j<15→w.cell? ⟨b,off+k*15+j,none⟩=(ddc p.1 p.2)[j]?)∧RdZ w g p.2 2 p.1.sks.length (p.1.sks.flatMap rgl)∧p.1.raw) len (fun k hk=>by
    obtain⟨cs,_,_,hln,hcl,ht⟩:=hc k hk;obtain⟨d,v,e,h1,h2⟩:=deed_of ht g hg;exact⟨(d,v),fun j hj=>by rw[hcl j hj,e,Array.getElem?_toList],h1,h2⟩)
   subst e1;have hlen: ∀ p:DD×Value,((ddc p.1 p.2).toList).length=15:=fun p=>rfl
   have hfl:(ps.flatMap fun p:DD×Value=>(ddc p.1 p.2).toList).length=ps.length*15:=flat_len hlen ps;have hat: ∀ j p,ps[j]? =some p→ ∀ q,q<15→(ps.flatMap fun p:DD×Value=>(ddc p.1 p.2).toList)[j*15+q]? =(ddc p.1 p.2)[q]? :=fun j p hp q hq=>by
    rw[flat_at hlen hp q hq,Array.getElem?_toList]
   have hget: ∀(j:Nat) (d:DD),(ps.map (·.1))[j]? =some d→ ∃ p:DD×Value,ps[j]? =some p∧p.1=d:=fun j d hj=>by
    rw[List.getElem?_map]at hj;cases hp:ps[j]? with
    | none=>rw[hp]at hj;cases hj
    | some p=>rw[hp]at hj;exact⟨p,rfl,by simpa using hj⟩
   refine⟨ps.map (·.1),⟨ps.flatMap fun p:DD×Value=>(ddc p.1 p.2).toList,⟨⟨by rw[List.length_map];exact hfl, .inr ⟨b,off,cap,by rw[List.length_map],hbl,by rw[List.length_map];exact hl,hm,fun j hj=> ?_⟩⟩,fun a m c hv h=> ?_⟩,by rw[List.length_map];exact hfl,fun j d hj=> ?_⟩,fun d hd=> ?_⟩
   ·rw[List.length_map]at hj
    have hx:ps[j / 15]? =some ps[j / 15]:=List.getElem?_eq_getElem (by omega);have h1:=hat _ _ hx (j%15) (by omega);have h2:=(e2 _ _ hx).1 (j%15) (by omega);rw[show j / 15*15+j%15=j from by omega]at h1;rw[h1,←h2,Nat.add_assoc,show j / 15*15+j%15=j from by omega]
   ·cases hv
    exact⟨hbl,hg _⟩
   ·obtain⟨p,hp,rfl⟩:=hget j d hj
    exact⟨p.2,hat j p hp,(e2 j p hp).2.1⟩
   ·obtain⟨j,hj⟩:=List.mem_iff_getElem?.1 hd
    obtain⟨p,hp,rfl⟩:=hget j d hj;exact(e2 j p hp).2.2
end
end
end Go.Proofs.YtojgokiobdpclaaGreat
