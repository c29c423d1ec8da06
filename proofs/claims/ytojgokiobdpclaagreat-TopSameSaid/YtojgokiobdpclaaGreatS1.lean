import Derived.Test.YtojgokiobdpclaaGreatQ2
import Derived.Laws.StructEq
namespace Go.Proofs.YtojgokiobdpclaaGreat
set_option linter.unusedVariables false
set_option linter.unusedSimpArgs false
set_option maxRecDepth 8000
set_option maxHeartbeats 8000000
section
open Go.RowKit Go.Lib
theorem seg_same (x:SG) (w:World):(binOp .eql 48 (sgv x) (sgv x)).run Tryz.prog w= .ok (.bool true) w:=by
 unfold sgv;rw[run_eql_struct,run_equalIn_agg w 9999 _ _ _ (by kernel_rfl) (by kernel_rfl)];simp[go_sem]
theorem plseg1_any (x:SG) (w:World):
  Calls Tryz.prog 63 #[sgv x,sgv x] w fun e w'=>e= .returned (.bool true)∧Below w.heap.size w w':=by
 have hb:Below w.heap.size w ((w.alloc (.cells (sga x) 48)).alloc (.cells (sga x) 48)):=((Below.refl _ w).alloc (Nat.le_refl _) _).alloc (by simp) _;have HB:=zH hb;clear hb;have heq:=seg_same x;obtain⟨a,b,c,d,e⟩:=x;unfold sgv at heq ⊢;unfold sga at HB;go_enter Tryz.func63,Tryz.ntmps63
 go_wp2_with fail
 go_ret
 exact⟨rfl,HB.out⟩
theorem sameseg_any (va vb:Value) (l:List SG) (hl:l.length≤9223372036854775807) (w:World) (h1:Rd w va 5 l.length (l.flatMap sgl)) (h2:Rd w vb 5 l.length (l.flatMap sgl)):
  Calls Tryz.prog 62 #[va,vb, .func (.func 63) #[] #[]] w fun e w'=>e= .returned (.bool true)∧Below w.heap.size w w':=by
 obtain⟨a,c1,rfl,_,f1⟩:=h1.form;obtain⟨b,c2,rfl,_,f2⟩:=h2.form;obtain⟨n,en⟩: ∃ n,l.length=n:=⟨_,rfl⟩;have HN:=zH en;rw[en]at hl f1 f2 ⊢;have F1:=zH f1;have F2:=zH f2;clear h1 h2 f1 f2 en;go_enter Tryz.func62,Tryz.ntmps62
 go_wp2;go_loopw [7] (fun v7 wr=> ∃ i:Nat,v7= .int .i64 i∧i≤n∧Hid (Below w.heap.size w wr)) (fun v7 _=>match v7 with | .int _ y=>n-y.toNat | _=>0)
 case atStart=>exact⟨0,rfl,Nat.zero_le _,zH (Below.refl _ w)⟩
 case round=>
  obtain⟨i,rfl,hi,HB⟩:=hrel;by_cases hin:i=n
  ·subst hin
   go_wp2;go_ret
   exact⟨rfl,HB.out⟩
  ·have hlt:i<n:=by omega
   have hi1:decide ((i:Int)<n)=true:=decide_eq_true (by omega);obtain⟨x,hx⟩: ∃ x,l[i]? =some x:=⟨_,List.getElem?_eq_getElem (by have:=HN.out;omega)⟩;obtain⟨B1,o1,rfl,k1,q1⟩:=F1.out (by omega);obtain⟨B2,o2,rfl,k2,q2⟩:=F2.out (by omega);have y1: ∀ j,j<5→wr.cell? ⟨B1,o1+i*5+j,none⟩=(sgl x)[j]? :=fun j hj=>by
    rw[HB.out.cell (p:=⟨B1,o1+i*5+j,none⟩) k1,Nat.add_assoc,q1 _ (by omega),flat_at sgl_len hx j hj]
   have y2: ∀ j,j<5→wr.cell? ⟨B2,o2+i*5+j,none⟩=(sgl x)[j]? :=fun j hj=>by
    rw[HB.out.cell (p:=⟨B2,o2+i*5+j,none⟩) k2,Nat.add_assoc,q2 _ (by omega),flat_at sgl_len hx j hj]
   have CP:=zH (plseg1_any x);obtain⟨s,fm,le,st,ag⟩:=x;have a0:wr.cell? ⟨B1,o1+i*5,none⟩=some (.int .i64 s):=y1 0 (by decide);have a1:wr.cell? ⟨B1,o1+i*5+1,none⟩=some (.int .u64 fm):=y1 1 (by decide);have a2:wr.cell? ⟨B1,o1+i*5+2,none⟩=some (.int .i64 le):=y1 2 (by decide);have a3:wr.cell? ⟨B1,o1+i*5+3,none⟩=some (.int .u64 st):=y1 3 (by decide);have a4:wr.cell? ⟨B1,o1+i*5+4,none⟩=some (.bool ag):=y1 4 (by decide);have b0:wr.cell? ⟨B2,o2+i*5,none⟩=some (.int .i64 s):=y2 0 (by decide);have b1:wr.cell? ⟨B2,o2+i*5+1,none⟩=some (.int .u64 fm):=y2 1 (by decide);have b2:wr.cell? ⟨B2,o2+i*5+2,none⟩=some (.int .i64 le):=y2 2 (by decide);have b3:wr.cell? ⟨B2,o2+i*5+3,none⟩=some (.int .u64 st):=y2 3 (by decide);have b4:wr.cell? ⟨B2,o2+i*5+4,none⟩=some (.bool ag):=y2 4 (by decide);have HLT:Hid (n-(i+1)<n-i):=zH (by omega);have hiw:wrap64 ((i:Int)+1)=((i+1:Nat):Int):=by unfold wrap64;omega
   unfold sgv at CP;clear y1 y2 q1 q2 hx hin hi;go_upto_region 6 with fail
   refine wp_region_held_drew (S:=fun wq=>(wq.cell? ⟨B1,o1+i*5,none⟩=some (.int .i64 s)∧wq.cell? ⟨B1,o1+i*5+1,none⟩=some (.int .u64 fm)∧wq.cell? ⟨B1,o1+i*5+2,none⟩=some (.int .i64 le)∧wq.cell? ⟨B1,o1+i*5+3,none⟩=some (.int .u64 st)∧wq.cell? ⟨B1,o1+i*5+4,none⟩=some (.bool ag))∧wq.cell? ⟨B2,o2+i*5,none⟩=some (.int .i64 s)∧wq.cell? ⟨B2,o2+i*5+1,none⟩=some (.int .u64 fm)∧wq.cell? ⟨B2,o2+i*5+2,none⟩=some (.int .i64 le)∧wq.cell? ⟨B2,o2+i*5+3,none⟩=some (.int .u64 st)∧wq.cell? ⟨B2,o2+i*5+4,none⟩=some (.bool ag)) (by kernel_rfl) ⟨⟨a0,a1,a2,a3,a4⟩,b0,b1,b2,b3,b4⟩ (fun hHeld=> ?_);refine zt 0 ?_;refine zt 1 ?_;refine zt 2 ?_;refine zt 3 ?_;refine zt 4 ?_;refine zt 5 ?_;refine zt 6 ?_;refine zt 7 ?_;refine zt 8 ?_;refine zc 9 (fun K hK=> ?_);go_simp;refine(CP.out _).mono ?_;rintro e w5 ⟨rfl,hB⟩;refine hK.out _ _ ?_ (fun hHeld=> ?_);focus exact⟨⟨(hB.cell (p:=⟨B1,_,none⟩) (by have:=HB.out.size;simp;omega)).trans a0,(hB.cell (p:=⟨B1,_,none⟩) (by have:=HB.out.size;simp;omega)).trans a1,(hB.cell (p:=⟨B1,_,none⟩) (by have:=HB.out.size;simp;omega)).trans a2,(hB.cell (p:=⟨B1,_,none⟩) (by have:=HB.out.size;simp;omega)).trans a3,(hB.cell (p:=⟨B1,_,none⟩) (by have:=HB.out.size;simp;omega)).trans a4⟩,(hB.cell (p:=⟨B2,_,none⟩) (by have:=HB.out.size;simp;omega)).trans b0,(hB.cell (p:=⟨B2,_,none⟩) (by have:=HB.out.size;simp;omega)).trans b1,(hB.cell (p:=⟨B2,_,none⟩) (by have:=HB.out.size;simp;omega)).trans b2,(hB.cell (p:=⟨B2,_,none⟩) (by have:=HB.out.size;simp;omega)).trans b3,(hB.cell (p:=⟨B2,_,none⟩) (by have:=HB.out.size;simp;omega)).trans b4⟩
   clear hK K;refine zl ?_;refine zt 10 ?_;refine dnZ ?_;have HB5:=zH (HB.out.drew.trans (hB.mono (by have:=HB.out.size;simpa using this)));clear hB hHeld;go_wp2_with fail
   go_roundw
   case rel=>exact⟨i+1,rfl,by omega,HB5⟩
   case measure=>exact HLT.out
theorem plainseg_any (va vb:Value) (l:List SG) (hl:l.length≤9223372036854775807) (w:World) (h1:Rd w va 5 l.length (l.flatMap sgl)) (h2:Rd w vb 5 l.length (l.flatMap sgl)):
  Calls Tryz.prog 37 #[va,vb] w fun e w'=>e= .returned (.bool true)∧Below w.heap.size w w':=by
 have CS:=zH (sameseg_any va vb l hl w h1 h2);obtain⟨a,c1,rfl,_,_⟩:=h1.form;obtain⟨b,c2,rfl,_,_⟩:=h2.form;clear h1 h2;go_enter Tryz.func37,Tryz.ntmps37
 go_wp2_with fail
 refine CS.out.mono ?_;rintro e w' ⟨rfl,hn⟩;have HN:=zH hn;clear hn;go_wp2;go_ret
 exact⟨rfl,HN.out⟩
theorem plint1_any (x:Nat) (w:World):
  Calls Tryz.prog 65 #[.int .i64 x, .int .i64 x] w fun e w'=>e= .returned (.bool true)∧w=w':=by
 go_enter Tryz.func65,Tryz.ntmps65
 go_wp2;go_ret
 exact⟨rfl,rfl⟩
theorem sameint_any (va vb:Value) (l:List Nat) (hl:l.length≤9223372036854775807) (w:World) (h1:Rd w va 1 l.length (ints l)) (h2:Rd w vb 1 l.length (ints l)):
  Calls Tryz.prog 64 #[va,vb, .func (.func 65) #[] #[]] w fun e w'=>e= .returned (.bool true)∧Below w.heap.size w w':=by
 obtain⟨a,c1,rfl,_,f1⟩:=h1.form;obtain⟨b,c2,rfl,_,f2⟩:=h2.form;obtain⟨n,en⟩: ∃ n,l.length=n:=⟨_,rfl⟩;have HN:=zH en;rw[en]at hl f1 f2 ⊢;have F1:=zH f1;have F2:=zH f2;clear h1 h2 f1 f2 en;go_enter Tryz.func64,Tryz.ntmps64
 go_wp2;go_loopw [7] (fun v7 wr=> ∃ i:Nat,v7= .int .i64 i∧i≤n∧Hid (Below w.heap.size w wr)) (fun v7 _=>match v7 with | .int _ y=>n-y.toNat | _=>0)
 case atStart=>exact⟨0,rfl,Nat.zero_le _,zH (Below.refl _ w)⟩
 case round=>
  obtain⟨i,rfl,hi,HB⟩:=hrel;by_cases hin:i=n
  ·subst hin
   go_wp2;go_ret
   exact⟨rfl,HB.out⟩
  ·have hlt:i<n:=by omega
   have hi1:decide ((i:Int)<n)=true:=decide_eq_true (by omega);obtain⟨x,hx⟩: ∃ x,l[i]? =some x:=⟨_,List.getElem?_eq_getElem (by have:=HN.out;omega)⟩;obtain⟨B1,o1,rfl,k1,q1⟩:=F1.out (by omega);obtain⟨B2,o2,rfl,k2,q2⟩:=F2.out (by omega);have hxi:(ints l)[i]? =some (.int .i64 x):=by unfold ints;rw[List.getElem?_map,hx];rfl
   have y1:wr.cell? ⟨B1,o1+i,none⟩=some (.int .i64 x):=by
    rw[HB.out.cell (p:=⟨B1,o1+i,none⟩) k1,q1 _ (by omega),hxi]
   have y2:wr.cell? ⟨B2,o2+i,none⟩=some (.int .i64 x):=by
    rw[HB.out.cell (p:=⟨B2,o2+i,none⟩) k2,q2 _ (by omega),hxi]
   have CP:=zH (plint1_any x);have HLT:Hid (n-(i+1)<n-i):=zH (by omega);have hiw:wrap64 ((i:Int)+1)=((i+1:Nat):Int):=by unfold wrap64;omega
   clear q1 q2 hx hxi hin hi;go_wp2_with fail
   go_quiet ((go_at_call 65;exact still (CP.out _)))
   go_wp2;go_roundw
   case rel=>exact⟨i+1,rfl,by omega,zH (by obtain⟨k1,k2,k3,k4,k5⟩:=HB.out;exact⟨k1,k2,k3,k4,k5⟩)⟩
   case measure=>exact HLT.out
theorem plainint_any (va vb:Value) (l:List Nat) (hl:l.length≤9223372036854775807) (w:World) (h1:Rd w va 1 l.length (ints l)) (h2:Rd w vb 1 l.length (ints l)):
  Calls Tryz.prog 38 #[va,vb] w fun e w'=>e= .returned (.bool true)∧Below w.heap.size w w':=by
 have CS:=zH (sameint_any va vb l hl w h1 h2);obtain⟨a,c1,rfl,_,_⟩:=h1.form;obtain⟨b,c2,rfl,_,_⟩:=h2.form;clear h1 h2;go_enter Tryz.func38,Tryz.ntmps38
 go_wp2_with fail
 refine CS.out.mono ?_;rintro e w' ⟨rfl,hn⟩;have HN:=zH hn;clear hn;go_wp2;go_ret
 exact⟨rfl,HN.out⟩
theorem out_any (v1 v2:Value) (o:OU) (hl:o.dep.length≤9223372036854775807∧o.drop.length≤9223372036854775807∧o.fates.length≤9223372036854775807) (w:World) (h1:OutR w v1 o) (h2:OutR w v2 o):
  Calls Tryz.prog 18 #[v1,v2] w fun e w'=>e= .returned (.bool true)∧Below w.heap.size w w':=by
 obtain⟨a,c,a2,c2,a3,c3,rfl,q1,q2,q3⟩:=h1.ex;obtain⟨b,d,b2,d2,b3,d3,rfl,p1,p2,p3⟩:=h2.ex;have C1:=zH (fun w' (hB:Below w.heap.size w w')=>plainseg_any _ _ o.dep hl.1 w' (q1.below hB) (p1.below hB));have C2:=zH (fun w' (hB:Below w.heap.size w w')=>plainseg_any _ _ o.drop hl.2.1 w' (q2.below hB) (p2.below hB));have C3:=zH (fun w' (hB:Below w.heap.size w w')=>plainint_any _ _ o.fates hl.2.2 w' (q3.below hB) (p3.below hB));obtain⟨n1,e1⟩: ∃ n,o.dep.length=n:=⟨_,rfl⟩;obtain⟨n2,e2⟩: ∃ n,o.drop.length=n:=⟨_,rfl⟩;obtain⟨n3,e3⟩: ∃ n,o.fates.length=n:=⟨_,rfl⟩;obtain⟨dg,e4⟩: ∃ n,o.dog=n:=⟨_,rfl⟩;rw[e1]at C1;rw[e2]at C2;rw[e3]at C3;rw[e1,e2,e3,e4];obtain⟨N0,e0⟩: ∃ z,w.heap.size=z:=⟨_,rfl⟩;clear h1 h2 q1 q2 q3 p1 p2 p3 hl e1 e2 e3 e4;go_enter Tryz.func18,Tryz.ntmps18
 go_upto_region 1 with fail
 refine wp_named (fun W=>At W N0 41 #[.slice a n1 c, .slice a2 n2 c2, .slice a3 n3 c3, .int .u64 dg]∧At W (N0+1) 41 #[.slice b n1 d, .slice b2 n2 d2, .slice b3 n3 d3, .int .u64 dg]∧Hid (Below w.heap.size w W)∧N0+1<W.heap.size) ⟨?_, ?_, ?_, ?_⟩ (fun W hW=> ?_)
 ·rw[←e0];exact(At.made w _ _).al _
 ·have t:=At.made (w.alloc (.cells #[.slice a n1 c, .slice a2 n2 c2, .slice a3 n3 c3, .int .u64 dg] 41)) 41 #[.slice b n1 d, .slice b2 n2 d2, .slice b3 n3 d3, .int .u64 dg]
  rw[alloc_size,e0]at t;exact t
 ·exact zH (((Below.refl _ w).alloc (Nat.le_refl _) _).alloc (by simp) _)
 ·simp;omega
 obtain⟨A,A2,HB,hsz⟩:=hW;have y0:=A.ce 0;have z0:=A2.ce 0;go_wp2_with fail
 refine(C1.out _ HB.out).mono ?_;rintro e w2 ⟨rfl,hB2⟩;have A3:=A.below hB2 A.lt;have A4:=A2.below hB2 A2.lt;have HB2:=zH (HB.out.trans (hB2.mono HB.out.size));clear A A2 HB hB2 hsz y0 z0;have y1:=A3.ce 1;have z1:=A4.ce 1;go_wp2_with fail
 refine(C2.out _ HB2.out).mono ?_;rintro e w3 ⟨rfl,hB3⟩;have A5:=A3.below hB3 A3.lt;have A6:=A4.below hB3 A4.lt;have HB3:=zH (HB2.out.trans (hB3.mono HB2.out.size));clear A3 A4 HB2 hB3 y1 z1;have y2:=A5.ce 2;have z2:=A6.ce 2;go_wp2_with fail
 refine(C3.out _ HB3.out).mono ?_;rintro e w4 ⟨rfl,hB4⟩;have A7:=A5.below hB4 A5.lt;have A8:=A6.below hB4 A6.lt;have HB4:=zH (HB3.out.trans (hB4.mono HB3.out.size));clear A5 A6 HB3 hB4 y2 z2;have y3:=A7.ce 3;have z3:=A8.ce 3;go_wp2_with fail
 go_ret
 exact⟨rfl,HB4.out⟩
end
section
open Go.RowKit Go.Lib
def akD (k:Nat):DD:=⟨3,k,0,1152921504606846976,0,[],⟨0,0,0,0,0,0,false,0,0⟩⟩
theorem akD_ok (k:Nat):(akD k).ok:=⟨show _≤(0:Int) by decide,show(0:Int)≤_ by decide,show 1152921504606846976<_ by decide,show 0<_ by decide,show 0≤6 by decide,show 0<_ by decide⟩
theorem akD_kind (k:Nat):(akD k).kind=3:=rfl
theorem akD_no {m:MC} {n:Nat} (hm:m.okn n) (hn:n<1000000) {k:Nat} (hk:k<8):(doF m (akD k)).1≠0:=by
 have e:doF m (akD k)=oneF m (akD k):=by
  unfold doF;rw[akD_kind,if_neg (by decide),if_neg (by decide),if_neg (by decide),if_pos (by decide)]
 rw[e];unfold oneF;have es:(akD k).sock.toNat=k:=Int.toNat_natCast k;split
 ·rw[es]
  cases hs:m.sk k with
  | none=>
   simp only[oneS];rw[akD_kind,if_neg (by decide)];simp
  | some s=>
   obtain⟨s1,_⟩:=hm.ok.sk k s hk hs;obtain⟨b1,b2,b3,b4,b5⟩:=s1.bf;have he:=s1.e;have ht:tldE s (akD k) m.now≠0:=by
    unfold tldE;rw[akD_kind,if_neg (by decide),if_pos rfl];unfold SK.ackE mayF;rw[if_neg]
    ·simp
    ·rw[Bool.and_eq_true]
     rintro⟨h1,_⟩;have h2:1152921504606846976≤s.e:=of_decide_eq_true h1;omega
   simp only[oneS];rw[akD_kind,if_neg (by decide),if_neg (by decide),if_neg ht];exact ht
 ·simp
theorem akD_same {m:MC} {n:Nat} (hm:m.okn n) (hn:n<1000000) {k:Nat} (hk:k<8):(doF m (akD k)).2.1=m:=by rw[doF_err (akD_no hm hn hk)]
end
section
open Go.RowKit Go.Lib
theorem mdl_same (n0 n1 n2 n3 n4 n5 n6 n7:Nat) (b8 b9:Bool) (w:World):(binOp .neq 35 (.agg #[.int .i64 (n0:Nat), .int .i64 (n1:Nat), .int .u64 (n2:Nat), .int .u64 (n3:Nat), .int .u64 (n4:Nat), .int .u64 (n5:Nat), .int .u64 (n6:Nat), .int .u64 (n7:Nat), .bool b8, .bool b9]) (.agg #[.int .i64 (n0:Nat), .int .i64 (n1:Nat), .int .u64 (n2:Nat), .int .u64 (n3:Nat), .int .u64 (n4:Nat), .int .u64 (n5:Nat), .int .u64 (n6:Nat), .int .u64 (n7:Nat), .bool b8, .bool b9])).run Tryz.prog w= .ok (.bool false) w:=by
 rw[run_neq_struct,run_equalIn_agg w 9999 _ _ _ (by kernel_rfl) (by kernel_rfl)];simp[go_sem]
theorem topsame_any (c:CR) (hmr:c.maxRate<18446744073709551616) (ds:List DD) (hds: ∀ d∈ds,d.raw) (v:Value) (z:Int) (w:World) (h:DsRd w (fun _=>0) v ds):
  Calls Tryz.prog 4 #[crv c,v, .int .i64 z] w fun e w'=>e= .returned (.bool true)∧Below w.heap.size w w':=by
 obtain⟨g0,hg0⟩: ∃ g:Nat→Nat,(fun _=>0)=g:=⟨_,rfl⟩;have hG0: ∀ b,g0 b=0:=fun b=>by rw[←hg0]
 rw[hg0]at h;have hT0:Tidy w g0:=fun b _=>hG0 b
 have CC:=zH (fun w'=>config_cf c w');have CN:=zH (fun w' g T (hT0:0<T) hT'=>new_at (cfP c) (cfP_ok c hmr) g T hT0 w' hT');have HOK:=zH (newM_ok (cfP_ok c hmr));have HD:=zH h;have HT:=zH hT0;have HG:=zH hG0;have HDS:=zH (deeds_ok hds 70);obtain⟨n,en⟩: ∃ n,((ds.take 70).map ddP).length=n:=⟨_,rfl⟩;have HEN:=zH en;have hn90:n≤70:=by rw[←en];simp;omega
 obtain⟨a1,c1,rfl⟩: ∃ a cc,v= .slice a ds.length cc:=by
  obtain⟨xs,h1,_⟩:=h;obtain⟨a,cc,e,_⟩:=h1.1.form;exact⟨a,cc,e⟩
 clear h hT0 hG0 hg0 hds hmr en;unfold crv at CC ⊢;unfold cfv at CC CN;go_enter Tryz.func4,Tryz.ntmps4
 obtain⟨s,es,hs8⟩: ∃ s:Nat,wrap64 ((IntKind.u64.wrap z).tmod 8)=(s:Int)∧s<8:=by
  rw[IntKind.wrap_u64];have h1:0≤z%18446744073709551616:=Int.emod_nonneg _ (by decide);refine⟨((z%18446744073709551616)%8).toNat, ?_,by omega⟩;rw[Int.tmod_eq_emod_of_nonneg h1];unfold wrap64;omega
 go_upto_region 1 with fail
 obtain⟨N0,e0⟩: ∃ z,w.heap.size=z:=⟨_,rfl⟩;rw[e0];refine wp_named (fun W=>At W N0 24 (crc c)∧Hid (Chg w W g0 g0 1 1)∧g0 N0=0) ⟨by rw[←e0];exact At.made w _ _,zH ((Chg.refl HT.out 1 1).alloc _),HG.out _⟩ (fun W hW=> ?_);obtain⟨A,HC,gN0⟩:=hW;have q0:=A.ce 0;have q1:=A.ce 1;have q2:=A.ce 2;have q3:=A.ce 3;have q4:=A.ce 4;have q5:=A.ce 5;have q6:=A.ce 6;have q7:=A.ce 7;have q8:=A.ce 8;refine wp_region_lit ?_;refine wpList_plain rfl fun K hK=> ?_
 go_simp;refine hK _ _ ?_;clear hK K;refine wpList_plain rfl fun K hK=> ?_
 go_simp;refine(CC.out _).mono ?_;rintro e w1 ⟨rfl,hB1⟩;refine hK _ _ ?_;clear hK K;have HC1:=zH (HC.out.below hB1);refine wpList_store_row _ rfl 24 (.tmp 3) (.tmp 22) rfl N0 _ #[.int .i64 ((cfP c).quantum:Nat), .int .i64 ((cfP c).first:Nat), .int .i64 ((cfP c).limit:Nat), .int .i64 ((cfP c).flowLimit:Nat), .int .u64 ((cfP c).horizon:Nat), .int .u64 ((cfP c).maxRate:Nat), .bool (cfP c).drop, .int .i64 ((cfP c).cap:Nat), .int .i64 ((cfP c).mss:Nat)] (A.below hB1 A.lt) rfl rfl (by kernel_rfl) rfl (by simp[Value.oneCell']) (fun W2 P2=> ?_);refine wpList_nil ?_;have hN0:w.heap.size≤N0:=Nat.le_of_eq e0;have HC2:=zH (HC1.out.put P2 (fun hlt=>absurd hlt (by omega)));have A2:=P2.1;have HA2:=zH A2;have s0:=A2.ce 0;have s1:=A2.ce 1;have s2:=A2.ce 2;have s3:=A2.ce 3;have s4:=A2.ce 4;have s5:=A2.ce 5;have s6:=A2.ce 6;have s7:=A2.ce 7;have s8:=A2.ce 8;clear hB1 q0 q1 q2 q3 q4 q5 q6 q7 q8 A HC HC1 P2 CC;go_wp2_with fail
 rw[es];clear es;refine(CN.out _ g0 1 (by decide) HC2.out.tidy).mono ?_;rintro e w3 ⟨b,g3,rfl,C3,M3⟩;have A3:=HA2.out.chg C3 (.inl (by rw[gN0];decide));have gN3:g3 N0=0:=(C3.old N0 HA2.out.lt).trans gN0;have HC3:=zH ((HC2.out.mono (lo':=1) (hi':=180) (Nat.le_refl _) (by omega)).trans (C3.mono (hi':=180) (Nat.le_refl _) (by omega)));have HM3:=zH M3;clear s0 s1 s2 s3 s4 s5 s6 s7 s8;have t0:=A3.ce 0;have t1:=A3.ce 1;have t2:=A3.ce 2;have t3:=A3.ce 3;have t4:=A3.ce 4;have t5:=A3.ce 5;have t6:=A3.ce 6;have t7:=A3.ce 7;have t8:=A3.ce 8;clear A3 C3 M3 HC2 HA2 A2;go_wp2_with fail
 refine(CN.out _ g3 91 (by decide) HC3.out.tidy).mono ?_;rintro e w4 ⟨b2,g4,rfl,C4,M4⟩;have HC4:=zH (HC3.out.trans (C4.mono (lo':=1) (hi':=180) (by omega) (by omega)));have HM4:=zH (HM3.out.chg C4 (.inl (by decide)));have HN4:=zH M4;clear t0 t1 t2 t3 t4 t5 t6 t7 t8;clear C4 M4 HC3 HM3 CN;go_wp2_with fail
 refine(awake_any _).mono ?_;rintro e w5 ⟨rfl,hB5⟩;have HC5:=zH (HC4.out.below hB5);have HM5:=zH (HM4.out.below hB5);have HN5:=zH (HN4.out.below hB5);clear hB5 HC4 HM4 HN4;go_wp2_with fail
 refine(deeds_any ds 70 (by decide) _ g4 w5 HC5.out.tidy (HD.out.chg HC5.out (by decide))).mono ?_;rintro e w6 ⟨v6,rfl,hB6,hD6⟩;have HC6:=zH (HC5.out.below hB6);have HM6:=zH (HM5.out.below hB6);have HN6:=zH (HN5.out.below hB6);have HD6:=zH hD6;clear HC5 HM5 HN5;obtain⟨a,cp,rfl⟩: ∃ a cc,v6= .slice a n cc:=by
  obtain⟨xs,h1,_⟩:=hD6;rw[HEN.out]at h1;obtain⟨a,cc,e,_⟩:=h1.1.form;exact⟨a,cc,e⟩
 clear hB6 hD6;go_wp2_with fail
 go_loopw [11] (fun v11 wr=> ∃(i:Nat) (g':Nat→Nat) (m:MC),v11= .int .i64 i∧i≤n∧Hid (Chg w wr g0 g' 1 180)∧Hid (McAt wr g' 1 b m)∧Hid (McAt wr g' 91 b2 m)∧Hid (m.okn i)∧Hid (DsRd wr g' (.slice a n cp) ((ds.take 70).map ddP))) (fun v11 _=>match v11 with | .int _ y=>n-y.toNat | _=>0)
 case atStart=>exact⟨0,g4,newM (cfP c),rfl,Nat.zero_le _,HC6,HM6,HN6,HOK,HD6⟩
 case round=>
  obtain⟨i,g',m,rfl,hi,HC,HM,HN,HO,HR⟩:=hrel;by_cases hin:i=n
  ·subst hin
   go_wp2_with fail
   go_ret
   exact⟨rfl,HC.out.plain fun b=>by rw[HG.out];decide⟩
  ·have hi3:i<n:=by omega
   have hi1:decide ((i:Int)<n)=true:=decide_eq_true (by omega);have hi2:decide (i<n)=true:=decide_eq_true hi3;have HLT:Hid (n-(i+1)<n-i):=zH (by omega);have HIN:Hid (i+1≤n):=zH hi3;obtain⟨d,hd⟩: ∃ d,((ds.take 70).map ddP)[i]? =some d:=⟨_,List.getElem?_eq_getElem (by have:=HEN.out;omega)⟩;obtain⟨b1,off,av,kv,rfl,hb,hcell,hri,gb1⟩:=HR.out.at_ HEN.out hd;have r0:wr.cell? ⟨b1,off+i*15,none⟩=some (.int .i64 d.kind):=hcell 0 (by decide);have r1:wr.cell? ⟨b1,off+i*15+1,none⟩=some (.int .i64 d.sock):=hcell 1 (by decide);have r2:wr.cell? ⟨b1,off+i*15+2,none⟩=some (.int .i64 d.len):=hcell 2 (by decide);have r3:wr.cell? ⟨b1,off+i*15+3,none⟩=some (.int .u64 d.upto):=hcell 3 (by decide);have r4:wr.cell? ⟨b1,off+i*15+4,none⟩=some (.int .u64 d.at_):=hcell 4 (by decide);have r5:wr.cell? ⟨b1,off+i*15+5,none⟩=some (.slice av d.sks.length kv):=hcell 5 (by decide);have r6:wr.cell? ⟨b1,off+i*15+6,none⟩=some (.int .i64 d.cr.quantum):=hcell 6 (by decide);have r7:wr.cell? ⟨b1,off+i*15+7,none⟩=some (.int .i64 d.cr.first):=hcell 7 (by decide);have r8:wr.cell? ⟨b1,off+i*15+8,none⟩=some (.int .i64 d.cr.limit):=hcell 8 (by decide);have r9:wr.cell? ⟨b1,off+i*15+9,none⟩=some (.int .i64 d.cr.flowLimit):=hcell 9 (by decide);have r10:wr.cell? ⟨b1,off+i*15+10,none⟩=some (.int .u64 d.cr.horizon):=hcell 10 (by decide)
   have r11:wr.cell? ⟨b1,off+i*15+11,none⟩=some (.int .u64 d.cr.maxRate):=hcell 11 (by decide);have r12:wr.cell? ⟨b1,off+i*15+12,none⟩=some (.bool d.cr.drop):=hcell 12 (by decide);have r13:wr.cell? ⟨b1,off+i*15+13,none⟩=some (.int .i64 d.cr.cap):=hcell 13 (by decide);have r14:wr.cell? ⟨b1,off+i*15+14,none⟩=some (.int .i64 d.cr.mss):=hcell 14 (by decide);have hdok:=HDS.out d (List.mem_of_getElem? hd);have CD:=zH (do_at b m i HO.out (by omega) d hdok (.slice av d.sks.length kv) g' 1 (by decide) wr HC.out.tidy hri.1 HM.out);have CE:=zH (fun(w':World) (g2:Nat→Nat) (hT':Tidy w' g2) (hr:Rd w' (.slice av d.sks.length kv) 2 d.sks.length (d.sks.flatMap rgl)) (h:McAt w' g2 91 b2 m)=>do_at b2 m i HO.out (by omega) d hdok (.slice av d.sks.length kv) g2 91 (by decide) w' hT' hr h);have HO5:=zH (doF_ok HO.out (by omega) hdok);have HRI:=zH hri;have HCE:=zH (And.intro hcell (And.intro hb gb1));unfold ddv at CD CE;obtain⟨m5,em5⟩: ∃ z,(doF m d).2.1=z:=⟨_,rfl⟩;obtain⟨o5,eo5⟩: ∃ z,(doF m d).2.2=z:=⟨_,rfl⟩;obtain⟨x5,ex5⟩: ∃ z,(doF m d).1=z:=⟨_,rfl⟩;rw[em5,eo5,ex5]at CD CE;rw[em5]at HO5;clear hri hd hcell hb gb1 hdok em5 eo5 ex5 hi hin;go_upto_region 11 with fail
   refine wp_region_lit ?_;iterate 5 (refine wpList_plain rfl fun K hK=> ?_;go_simp;refine hK _ _ ?_;clear hK K)
   refine wpList_plain rfl fun K hK=> ?_
   go_simp;refine CD.out.mono ?_;rintro e w5 ⟨vo,g5,rfl,C5,M5,O5⟩;refine hK _ _ ?_;clear hK K;have HC5:=zH (HC.out.trans (C5.mono (lo':=1) (hi':=180) (Nat.le_refl _) (by omega)));have HM5:=zH M5;have HN5:=zH (HN.out.chg C5 (.inr (by decide)));have HR5:=zH (HR.out.chg C5 (by decide));have HRI5:=zH (HRI.out.chg C5 (by decide));have HO1:=zH O5;have hcell5: ∀ q,q<15→w5.cell? ⟨b1,off+i*15+q,none⟩=(ddc d (.slice av d.sks.length kv))[q]? :=fun q hq=>(World.cell?_of_block (C5.kept b1 HCE.out.2.1 (.inl (by rw[HCE.out.2.2];decide)))).trans (HCE.out.1 q hq)
   have hb5:b1<w5.heap.size:=Nat.lt_of_lt_of_le HCE.out.2.1 C5.size;have gb5:g5 b1=0:=(C5.old b1 HCE.out.2.1).trans HCE.out.2.2;obtain⟨ad,cd,ax,cx,af,cf,evo,_⟩:=O5.rd.ex;subst evo;clear r0 r1 r2 r3 r4 r5 r6 r7 r8 r9 r10 r11 r12 r13 r14;clear C5 M5 O5 HC HM HN HR HRI HO CD HCE;iterate 6 (refine wpList_plain rfl fun K hK=> ?_;go_simp;refine hK _ _ ?_;clear hK K)
   refine wpList_nil ?_;obtain⟨N5,e5⟩: ∃ z,w5.heap.size=z:=⟨_,rfl⟩;rw[e5];refine q_named (fun W=>At W N5 41 #[.slice ad o5.dep.length cd, .slice ax o5.drop.length cx, .slice af o5.fates.length cf, .int .u64 (o5.dog:Nat)]∧Hid (Chg w5 W g5 g5 1 1)∧Hid (g5 N5=0)) ⟨by rw[←e5];exact At.made w5 _ _,zH ((Chg.refl HC5.out.tidy 1 1).alloc _),zH (HC5.out.tidy N5 (by rw[e5];exact Nat.le_refl _))⟩ (fun W8 hW=> ?_);obtain⟨A8,K8,G8⟩:=hW;have hcell: ∀ q,q<15→W8.cell? ⟨b1,off+i*15+q,none⟩=(ddc d (.slice av d.sks.length kv))[q]? :=fun q hq=>(World.cell?_of_block (K8.out.kept b1 hb5 (.inl (by rw[gb5];decide)))).trans (hcell5 q hq)
   have r0:W8.cell? ⟨b1,off+i*15,none⟩=some (.int .i64 d.kind):=hcell 0 (by decide);have r1:W8.cell? ⟨b1,off+i*15+1,none⟩=some (.int .i64 d.sock):=hcell 1 (by decide);have r2:W8.cell? ⟨b1,off+i*15+2,none⟩=some (.int .i64 d.len):=hcell 2 (by decide);have r3:W8.cell? ⟨b1,off+i*15+3,none⟩=some (.int .u64 d.upto):=hcell 3 (by decide);have r4:W8.cell? ⟨b1,off+i*15+4,none⟩=some (.int .u64 d.at_):=hcell 4 (by decide);have r5:W8.cell? ⟨b1,off+i*15+5,none⟩=some (.slice av d.sks.length kv):=hcell 5 (by decide);have r6:W8.cell? ⟨b1,off+i*15+6,none⟩=some (.int .i64 d.cr.quantum):=hcell 6 (by decide);have r7:W8.cell? ⟨b1,off+i*15+7,none⟩=some (.int .i64 d.cr.first):=hcell 7 (by decide);have r8:W8.cell? ⟨b1,off+i*15+8,none⟩=some (.int .i64 d.cr.limit):=hcell 8 (by decide);have r9:W8.cell? ⟨b1,off+i*15+9,none⟩=some (.int .i64 d.cr.flowLimit):=hcell 9 (by decide);have r10:W8.cell? ⟨b1,off+i*15+10,none⟩=some (.int .u64 d.cr.horizon):=hcell 10 (by decide);have r11:W8.cell? ⟨b1,off+i*15+11,none⟩=some (.int .u64 d.cr.maxRate):=hcell 11 (by decide);have r12:W8.cell? ⟨b1,off+i*15+12,none⟩=some (.bool d.cr.drop):=hcell 12 (by decide);have r13:W8.cell? ⟨b1,off+i*15+13,none⟩=some (.int .i64 d.cr.cap):=hcell 13 (by decide);have r14:W8.cell? ⟨b1,off+i*15+14,none⟩=some (.int .i64 d.cr.mss):=hcell 14 (by decide)
   have HC8:=zH (HC5.out.trans (K8.out.mono (hi':=180) (Nat.le_refl _) (by omega)));have HM8:=zH (HM5.out.chg K8.out (.inr (Nat.le_refl _)));have HN8:=zH (HN5.out.chg K8.out (.inr (by decide)));have HR8:=zH (HR5.out.chg K8.out (by decide));have HO8:=zH (HO1.out.chg K8.out (by decide) (.inr (by decide)));have CE8:=zH (CE.out W8 g5 HC8.out.tidy (HRI5.out.chg K8.out (by decide)).1 HN8.out);have HA8:=zH A8;clear CE HC5 HM5 HN5 HR5 HRI5 HO1 hcell hcell5 hb5 gb5 A8 e5 K8;go_upto_region 12 with fail
   refine wp_region_lit ?_;iterate 5 (refine wpList_plain rfl fun K hK=> ?_;go_simp;refine hK _ _ ?_;clear hK K)
   refine wpList_plain rfl fun K hK=> ?_
   go_simp;refine CE8.out.mono ?_;rintro e w9 ⟨vo2,g9,rfl,C9,N9,O9⟩;refine hK _ _ ?_;clear hK K;have HC9:=zH (HC8.out.trans (C9.mono (lo':=1) (hi':=180) (by omega) (by omega)));have HM9:=zH (HM8.out.chg C9 (.inl (by decide)));have HN9:=zH N9;have HR9:=zH (HR8.out.chg C9 (by decide));have HO9:=zH (HO8.out.chg C9 (by decide) (.inl (by decide)));have HP9:=zH O9;have HA9:=zH (HA8.out.chg C9 (.inl (by rw[G8.out];decide)));have G9:Hid (g9 N5=0):=zH ((C9.old N5 HA8.out.lt).trans G8.out);obtain⟨ad2,cd2,ax2,cx2,af2,cf2,evo2,_⟩:=O9.rd.ex;subst evo2;clear r0 r1 r2 r3 r4 r5 r6 r7 r8 r9 r10 r11 r12 r13 r14;clear C9 N9 O9 HC8 HM8 HN8 HR8 HO8 HA8 CE8 G8;iterate 6 (refine wpList_plain rfl fun K hK=> ?_;go_simp;refine hK _ _ ?_;clear hK K)
   refine wpList_nil ?_;obtain⟨N9,e9⟩: ∃ z,w9.heap.size=z:=⟨_,rfl⟩;rw[e9];refine q_named (fun W=>At W N9 41 #[.slice ad2 o5.dep.length cd2, .slice ax2 o5.drop.length cx2, .slice af2 o5.fates.length cf2, .int .u64 (o5.dog:Nat)]∧Hid (Chg w9 W g9 g9 1 1)) ⟨by rw[←e9];exact At.made w9 _ _,zH ((Chg.refl HC9.out.tidy 1 1).alloc _)⟩ (fun W10 hW=> ?_);obtain⟨A10,K10⟩:=hW;have B10:=HA9.out.chg K10.out (.inl (by rw[G9.out];decide));have HC10:=zH (HC9.out.trans (K10.out.mono (hi':=180) (Nat.le_refl _) (by omega)));have HM10:=zH (HM9.out.chg K10.out (.inr (Nat.le_refl _)));have HN10:=zH (HN9.out.chg K10.out (.inr (by decide)));have HR10:=zH (HR9.out.chg K10.out (by decide));have CO:=zH (out_any _ _ o5 HO9.out.len W10 (HO9.out.chg K10.out (by decide) (.inr (by decide))).rd (HP9.out.chg K10.out (by decide) (.inr (by decide))).rd);have y0:=B10.ce 0;have y1:=B10.ce 1;have y2:=B10.ce 2;have y3:=B10.ce 3;have z0:=A10.ce 0;have z1:=A10.ce 1;have z2:=A10.ce 2;have z3:=A10.ce 3;clear A10 B10 K10 HC9 HM9 HN9 HR9 HO9 HP9 HA9 e9 G9;go_wp2_with fail
   refine CO.out.mono ?_;rintro e w11 ⟨rfl,hB11⟩;have HC11:=zH (HC10.out.below hB11);have HM11:=zH (HM10.out.below hB11);have HN11:=zH (HN10.out.below hB11);have HR11:=zH (HR10.out.below hB11);clear hB11 HC10 HM10 HN10 HR10 CO y0 y1 y2 y3 z0 z1 z2 z3;have CN1:=zH (now_at HM11.out);have CN2:=zH (now_at HN11.out);have CMo:=zH (fun(w':World) (g2:Nat→Nat) (hT':Tidy w' g2) (h:McAt w' g2 1 b m5)=>model_at HO5.out hs8 (by decide) hT' h);obtain⟨n0,n1,n2,n3,n4,n5,n6,n7,b8,b9,emd⟩:=mdo_ten (m5.sk s);rw[emd]at CMo;clear emd;go_wp2_with fail
   refine CN1.out.mono ?_;rintro e w12 ⟨rfl,rfl⟩;go_wp2_with fail
   refine CN2.out.mono ?_;rintro e w12 ⟨rfl,rfl⟩;clear CN1 CN2;go_upto_region 15 with fail
   refine wp_region_lit ?_;iterate 2 (refine wpList_plain rfl fun K hK=> ?_;go_simp;refine hK _ _ ?_;clear hK K)
   refine wpList_plain rfl fun K hK=> ?_
   go_simp;refine(CMo.out _ _ HC11.out.tidy HM11.out).mono ?_;rintro e w13 ⟨rfl,hB13⟩;refine hK _ _ ?_;clear hK K;have HC13:=zH (HC11.out.below hB13);have HM13:=zH (HM11.out.below hB13);have HN13:=zH (HN11.out.below hB13);have HR13:=zH (HR11.out.below hB13);clear hB13 HC11 HM11 HN11 HR11;obtain⟨N13,e13⟩: ∃ z,w13.heap.size=z:=⟨_,rfl⟩;iterate 4 (refine wpList_plain rfl fun K hK=> ?_;go_simp;refine hK _ _ ?_;clear hK K)
   refine wpList_store_new w13 rfl 35 (.tmp 16) (.tmp 101) rfl _ #[.int .i64 (n0:Nat), .int .i64 (n1:Nat), .int .u64 (n2:Nat), .int .u64 (n3:Nat), .int .u64 (n4:Nat), .int .u64 (n5:Nat), .int .u64 (n6:Nat), .int .u64 (n7:Nat), .bool b8, .bool b9] N13 e13 rfl rfl (by kernel_rfl) rfl (by simp[Value.oneCell']) ?_;refine wpList_plain rfl fun K hK=> ?_
   go_simp;refine hK _ _ ?_;clear hK K;refine wpList_nil ?_;refine q_named (fun W=>At W N13 35 #[.int .i64 (n0:Nat), .int .i64 (n1:Nat), .int .u64 (n2:Nat), .int .u64 (n3:Nat), .int .u64 (n4:Nat), .int .u64 (n5:Nat), .int .u64 (n6:Nat), .int .u64 (n7:Nat), .bool b8, .bool b9]∧Hid (Chg w13 W g9 g9 1 1)∧Hid (g9 N13=0)) ⟨by rw[←e13];exact At.made w13 _ _,zH ((Chg.refl HC13.out.tidy 1 1).alloc _),zH (HC13.out.tidy N13 (by rw[e13];exact Nat.le_refl _))⟩ (fun W14 hW=> ?_);obtain⟨A14,K14,G14⟩:=hW;have HC14:=zH (HC13.out.trans (K14.out.mono (hi':=180) (Nat.le_refl _) (by omega)));have HM14:=zH (HM13.out.chg K14.out (.inr (Nat.le_refl _)));have HN14:=zH (HN13.out.chg K14.out (.inr (by decide)));have HR14:=zH (HR13.out.chg K14.out (by decide));have HA14:=zH A14;clear HC13 HM13 HN13 HR13 A14 K14 e13;go_wp2_with fail
   go_loopw [18] (fun v18 wk=> ∃(k:Nat) (g2:Nat→Nat),v18= .int .i64 k∧k≤8∧Hid (Chg w wk g0 g2 1 180)∧Hid (McAt wk g2 1 b m5)∧Hid (McAt wk g2 91 b2 m5)∧Hid (DsRd wk g2 (.slice (some ⟨b1,off,none⟩) n cp) ((ds.take 70).map ddP))∧Hid (At wk N13 35 #[.int .i64 (n0:Nat), .int .i64 (n1:Nat), .int .u64 (n2:Nat), .int .u64 (n3:Nat), .int .u64 (n4:Nat), .int .u64 (n5:Nat), .int .u64 (n6:Nat), .int .u64 (n7:Nat), .bool b8, .bool b9])∧Hid (g2 N13=0)) (fun v18 _=>match v18 with | .int _ y=>8-y.toNat | _=>0)
   case atStart=>exact⟨0,g9,rfl,by decide,HC14,HM14,HN14,HR14,HA14,G14⟩
   case round=>
    obtain⟨k,g2,rfl,hk,KC,KM,KN,KR,KA,KG⟩:=hrel;by_cases hk8:k=8
    ·subst hk8
     clear HC14 HM14 HN14 HR14 HA14 G14;go_upto_region 21 with fail
     refine wp_region_lit ?_;iterate 2 (refine wpList_plain rfl fun K hK=> ?_;go_simp;refine hK _ _ ?_;clear hK K)
     refine wpList_plain rfl fun K hK=> ?_
     go_simp;refine(CMo.out _ _ KC.out.tidy KM.out).mono ?_;rintro e w15 ⟨rfl,hB15⟩;refine hK _ _ ?_;clear hK K;have HC15:=zH (KC.out.below hB15);have HM15:=zH (KM.out.below hB15);have HN15:=zH (KN.out.below hB15);have HR15:=zH (KR.out.below hB15);have HA15:=zH (KA.out.below hB15 KA.out.lt);clear hB15 KC KM KN KR KA;obtain⟨N15,e15⟩: ∃ z,w15.heap.size=z:=⟨_,rfl⟩;iterate 4 (refine wpList_plain rfl fun K hK=> ?_;go_simp;refine hK _ _ ?_;clear hK K)
     refine wpList_store_new w15 rfl 35 (.tmp 19) (.tmp 118) rfl _ #[.int .i64 (n0:Nat), .int .i64 (n1:Nat), .int .u64 (n2:Nat), .int .u64 (n3:Nat), .int .u64 (n4:Nat), .int .u64 (n5:Nat), .int .u64 (n6:Nat), .int .u64 (n7:Nat), .bool b8, .bool b9] N15 e15 rfl rfl (by kernel_rfl) rfl (by simp[Value.oneCell']) ?_;refine wpList_plain rfl fun K hK=> ?_
     go_simp;refine hK _ _ ?_;clear hK K;refine wpList_nil ?_;refine q_named (fun W=>At W N15 35 #[.int .i64 (n0:Nat), .int .i64 (n1:Nat), .int .u64 (n2:Nat), .int .u64 (n3:Nat), .int .u64 (n4:Nat), .int .u64 (n5:Nat), .int .u64 (n6:Nat), .int .u64 (n7:Nat), .bool b8, .bool b9]∧Hid (Chg w15 W g2 g2 1 1)) ⟨by rw[←e15];exact At.made w15 _ _,zH ((Chg.refl HC15.out.tidy 1 1).alloc _)⟩ (fun W16 hW=> ?_);obtain⟨A16,K16⟩:=hW;have B16:=HA15.out.chg K16.out (.inl (by rw[KG.out];decide));have HC16:=zH (HC15.out.trans (K16.out.mono (hi':=180) (Nat.le_refl _) (by omega)));have HM16:=zH (HM15.out.chg K16.out (.inr (Nat.le_refl _)));have HN16:=zH (HN15.out.chg K16.out (.inr (by decide)));have HR16:=zH (HR15.out.chg K16.out (by decide));have y0:=B16.ce 0;have z0:=A16.ce 0;have y1:=B16.ce 1;have z1:=A16.ce 1;have y2:=B16.ce 2;have z2:=A16.ce 2;have y3:=B16.ce 3;have z3:=A16.ce 3;have y4:=B16.ce 4;have z4:=A16.ce 4;have y5:=B16.ce 5;have z5:=A16.ce 5;have y6:=B16.ce 6;have z6:=A16.ce 6;have y7:=B16.ce 7;have z7:=A16.ce 7;have y8:=B16.ce 8;have z8:=A16.ce 8;have y9:=B16.ce 9;have z9:=A16.ce 9;have MS:=mdl_same n0 n1 n2 n3 n4 n5 n6 n7 b8 b9;clear A16 B16 K16 HC15 HM15 HN15 HR15 HA15 e15;go_wp2_with fail
     go_roundw
     case rel=>exact⟨i+1,g2,m5,by simp,HIN.out,HC16,HM16,HN16,HO5,HR16⟩
     case measure=>have:=HLT.out;simp;omega
    ·have hk1:decide ((k:Int)<8)=true:=decide_eq_true (by omega)
     have hk2:decide (k<8)=true:=decide_eq_true (by omega);have HKL:Hid (8-(k+1)<8-k∧k+1≤8):=zH (by omega);by_cases hks:k=s
     ·have hks1:((k:Int)!=s)=false:=by simp[hks]
      have hks2:decide (k=s)=true:=decide_eq_true hks;clear hks;go_wp2_with fail
      go_roundw
      case rel=>exact⟨k+1,g2,by simp,HKL.out.2,KC,KM,KN,KR,KA,KG⟩
      case measure=>have:=HKL.out.1;simp;omega
     ·have hks1:((k:Int)!=s)=true:=by rw[bne_iff_ne];omega
      have hks2:decide (k=s)=false:=decide_eq_false hks;have CK:=zH (do_at b m5 (i+1) HO5.out (by omega) (akD k) (akD_ok k) (.slice none 0 0) g2 1 (by decide) _ KC.out.tidy ⟨rfl, .inl ⟨⟨_,_,rfl⟩,rfl⟩⟩ KM.out);rw[akD_same HO5.out (by omega) (by omega)]at CK;unfold ddv akD at CK;clear hks;go_wp2_with fail
      refine CK.out.mono ?_;rintro e w17 ⟨vo3,g3,rfl,C17,M17,_⟩;have HC17:=zH (KC.out.trans (C17.mono (lo':=1) (hi':=180) (Nat.le_refl _) (by omega)));have HM17:=zH M17;have HN17:=zH (KN.out.chg C17 (.inr (by decide)));have HR17:=zH (KR.out.chg C17 (by decide));have HA17:=zH (KA.out.chg C17 (.inl (by rw[KG.out];decide)));have G17:=zH ((C17.old N13 KA.out.lt).trans KG.out);clear C17 M17 KC KM KN KR KA KG CK;go_wp2_with fail
      go_roundw
      case rel=>exact⟨k+1,g3,by simp,HKL.out.2,HC17,HM17,HN17,HR17,HA17,G17⟩
      case measure=>have:=HKL.out.1;simp;omega
end
end Go.Proofs.YtojgokiobdpclaaGreat
