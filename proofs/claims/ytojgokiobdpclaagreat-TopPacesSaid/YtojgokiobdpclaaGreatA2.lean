import Derived.Test.YtojgokiobdpclaaGreatA1
import Derived.BigQuiet
namespace Go.Proofs.YtojgokiobdpclaaGreat
set_option linter.unusedVariables false
set_option linter.unusedSimpArgs false
set_option maxRecDepth 8000
set_option maxHeartbeats 8000000
section
open Go.RowKit Go.Lib
def RatC (m:MC) (j:Nat) (xs:Array Value):Prop:=xs.size=8∧ ∀ s,s<j→xs[s]? =some (.int .u64 (rto (m.sk s):Nat))
theorem RatC.put {m:MC} {j:Nat} {xs:Array Value} (h:RatC m j xs) (v:Value):RatC m j (xs.setIfInBounds j v):=by
 obtain⟨h1,h2⟩:=h;refine⟨by simp[h1],fun s hs=> ?_⟩;rw[Array.getElem?_setIfInBounds,if_neg (by omega)];exact h2 s hs
theorem RatC.got {m:MC} {j:Nat} {xs:Array Value} (h:RatC m j xs) (hj:j<8) (v:Value):(xs.setIfInBounds j v)[j]? =some v:=by
 rw[Array.getElem?_setIfInBounds,if_pos rfl,if_pos (by rw[h.1];exact hj)]
theorem RatC.next {m:MC} {j:Nat} {xs:Array Value} (h:RatC m j xs) (hv:xs[j]? =some (.int .u64 (rto (m.sk j):Nat))):RatC m (j+1) xs:=by
 refine⟨h.1,fun s hs=> ?_⟩;by_cases e:s=j
 ·rw[e];exact hv
 ·exact h.2 s (by omega)
theorem rto_lt {m:MC} {n:Nat} (h:m.okn n) {s:Nat} (hs:s<8):rto (m.sk s)<18446744073709551616:=by
 cases hk:m.sk s with
 | none=>exact(by decide:(18446744073709551615:Nat)<18446744073709551616)
 | some k=>exact(h.ok.sk s k hs hk).1.bb.rate
theorem lesR_lt {a b:Nat} (ha:a<18446744073709551616) (hb:b<18446744073709551616):les a b<18446744073709551616:=by
 unfold les nz;split<;>split<;>omega
def dpF (m:MC) (d:DD) (nx:Nat→Nat):Nat→Nat:=match(doF m d).2.2.dep with
 | x::_=>putF nx x.sock (satAdd (doF m d).2.1.now (delayOf x.len (les (m.rt x.sock) m.c.maxRate)))
 | []=>nx
theorem doF_dpok {m:MC} {n:Nat} (hm:m.okn n) (hn:n<1000000) {d:DD} (hd:d.ok): ∀ x r,(doF m d).2.2.dep=x::r→x.ok:=by
 have hnow:=hm.ok.now;have hnow2:m.now<18446744073709551616:=by omega
 intro x r hx;by_cases h5:d.kind=5
 ·have e:(doF m d).2.2=ou0:=by unfold doF;rw[if_pos h5]
  rw[e]at hx;cases hx
 by_cases h6:d.kind=6
 ·have e:(doF m d).2.2=pullO (deqR m.q m.now m.rt) ou0:=by unfold doF;rw[if_neg h5,if_pos h6]
  rw[e]at hx;cases hq:(deqR m.q m.now m.rt).1 with
  | none=>unfold pullO at hx;rw[hq]at hx;cases hx
  | some y=>
   have:=(deqR_inv hm.ok.q hnow2 m.rt).2.2 y hq;unfold pullO at hx;rw[hq]at hx;cases hx;exact this
 by_cases h8:d.kind=8
 ·have e:(doF m d).2.2=ou0:=by unfold doF;rw[if_neg h5,if_neg h6,if_pos h8]
  rw[e]at hx;cases hx
 by_cases h1:d.kind=1∨d.kind=2∨d.kind=3∨d.kind=4∨d.kind=7∨d.kind=9
 ·have e:doF m d=oneF m d:=by unfold doF;rw[if_neg h5,if_neg h6,if_neg h8,if_pos h1]
  rw[e,oneF_dep hm hd hn]at hx;cases hx
 ·have e:(doF m d).2.2=ou0:=by unfold doF;rw[if_neg h5,if_neg h6,if_neg h8,if_neg h1]
  rw[e]at hx;cases hx
theorem doF_dp {m:MC} {n:Nat} (hm:m.okn n) (hn:n<1000000) {d:DD} (hd:d.ok) {nx:Nat→Nat} (h:PaI m.q m.now nx):
  (((doF m d).2.2.dep=[]∧dpF m d nx=nx)∨ ∃ zs zf zl zt za,(doF m d).2.2.dep=[⟨zs,zf,zl,zt,za⟩]∧zs<8∧zl≤65536∧nx zs≤(doF m d).2.1.now∧zt≤(doF m d).2.1.now∧dpF m d nx=putF nx zs (satAdd (doF m d).2.1.now (delayOf zl (les (rto (m.sk zs)) m.c.maxRate))))∧
  PaI (doF m d).2.1.q (doF m d).2.1.now (if(doF m d).1=0∧d.kind=9 then putF (dpF m d nx) d.sock.toNat 0 else dpF m d nx):=by
 obtain⟨h1,h2⟩:=doF_pa hm hn hd h;refine⟨?_,h2⟩;have h3:=doF_dpok hm hn hd;cases hx:(doF m d).2.2.dep with
 | nil=>exact .inl ⟨rfl,by unfold dpF;rw[hx]⟩
 | cons x r=>
  obtain⟨rfl,x1,x2,x3⟩:=h1 x r hx;have x4:=h3 x [] hx;obtain⟨zs,zf,zl,zt,za⟩:=x;refine .inr ⟨zs,zf,zl,zt,za,rfl,x1,x4.l2,x2,x3, ?_⟩;unfold dpF;rw[hx];have e:m.rt zs=rto (m.sk zs):=by unfold MC.rt;exact if_pos x1
  simp only[e]
theorem toppaces_any (c:CR) (hmr:c.maxRate<18446744073709551616) (ds:List DD) (hds: ∀ d∈ds,d.raw) (v:Value) (w:World) (h:DsRd w (fun _=>0) v ds):
  Calls Tryz.prog 3 #[crv c,v] w fun e w'=>e= .returned (.bool true)∧Below w.heap.size w w':=by
 obtain⟨g0,hg0⟩: ∃ g:Nat→Nat,(fun _=>0)=g:=⟨_,rfl⟩;have hG0: ∀ b,g0 b=0:=fun b=>by rw[←hg0]
 rw[hg0]at h;have hT0:Tidy w g0:=fun b _=>hG0 b
 have CC:=zH (fun w'=>config_cf c w');have CN:=zH (fun w' g T (hT0:0<T) hT'=>new_at (cfP c) (cfP_ok c hmr) g T hT0 w' hT');have HOK:=zH (newM_ok (cfP_ok c hmr));have HD:=zH h;have HT:=zH hT0;have HG:=zH hG0;have HDS:=zH (deeds_ok hds 100);obtain⟨n,en⟩: ∃ n,((ds.take 100).map ddP).length=n:=⟨_,rfl⟩;have HEN:=zH en;have hn90:n≤100:=by rw[←en];simp;omega
 obtain⟨a1,c1,rfl⟩: ∃ a cc,v= .slice a ds.length cc:=by
  obtain⟨xs,h1,_⟩:=h;obtain⟨a,cc,e,_⟩:=h1.1.form;exact⟨a,cc,e⟩
 clear h hT0 hG0 hg0 hds hmr en;unfold crv at CC ⊢;unfold cfv at CC CN;go_enter Tryz.func3,Tryz.ntmps3
 go_upto_region 1 with fail
 obtain⟨N0,e0⟩: ∃ z,w.heap.size=z:=⟨_,rfl⟩;rw[e0];refine wp_named (fun W=>At W N0 24 (crc c)∧Hid (Chg w W g0 g0 1 1)∧g0 N0=0) ⟨by rw[←e0];exact At.made w _ _,zH ((Chg.refl HT.out 1 1).alloc _),HG.out _⟩ (fun W hW=> ?_);obtain⟨A,HC,gN0⟩:=hW;have q0:=A.ce 0;have q1:=A.ce 1;have q2:=A.ce 2;have q3:=A.ce 3;have q4:=A.ce 4;have q5:=A.ce 5;have q6:=A.ce 6;have q7:=A.ce 7;have q8:=A.ce 8;refine wp_region_lit ?_;refine wpList_plain rfl fun K hK=> ?_
 go_simp;refine hK _ _ ?_;clear hK K;refine wpList_plain rfl fun K hK=> ?_
 go_simp;refine(CC.out _).mono ?_;rintro e w1 ⟨rfl,hB1⟩;refine hK _ _ ?_;clear hK K;have HC1:=zH (HC.out.below hB1);refine wpList_store_row _ rfl 24 (.tmp 2) (.tmp 19) rfl N0 _ #[.int .i64 ((cfP c).quantum:Nat), .int .i64 ((cfP c).first:Nat), .int .i64 ((cfP c).limit:Nat), .int .i64 ((cfP c).flowLimit:Nat), .int .u64 ((cfP c).horizon:Nat), .int .u64 ((cfP c).maxRate:Nat), .bool (cfP c).drop, .int .i64 ((cfP c).cap:Nat), .int .i64 ((cfP c).mss:Nat)] (A.below hB1 A.lt) rfl rfl (by kernel_rfl) rfl (by simp[Value.oneCell']) (fun W2 P2=> ?_);refine wpList_nil ?_;have hN0:w.heap.size≤N0:=Nat.le_of_eq e0;have HC2:=zH (HC1.out.put P2 (fun hlt=>absurd hlt (by omega)));have A2:=P2.1;have HA2:=zH A2;have s0:=A2.ce 0;have s1:=A2.ce 1;have s2:=A2.ce 2;have s3:=A2.ce 3;have s4:=A2.ce 4;have s5:=A2.ce 5;have s6:=A2.ce 6;have s7:=A2.ce 7;have s8:=A2.ce 8;clear hB1 q0 q1 q2 q3 q4 q5 q6 q7 q8 A HC HC1 P2 CC;go_wp2_with fail
 refine(CN.out _ g0 1 (by decide) HC2.out.tidy).mono ?_;rintro e w3 ⟨b,g3,rfl,C3,M3⟩;have A3:=HA2.out.chg C3 (.inl (by rw[gN0];decide));have gN3:g3 N0=0:=(C3.old N0 HA2.out.lt).trans gN0;have HC3:=zH ((HC2.out.mono (lo':=1) (hi':=90) (Nat.le_refl _) (by omega)).trans (C3.mono (hi':=90) (Nat.le_refl _) (by omega)));have HM3:=zH M3;have HA3:=zH A3;clear s0 s1 s2 s3 s4 s5 s6 s7 s8;clear A3 C3 M3 HC2 HA2 A2 CN;go_wp2_with fail
 refine(awake_any _).mono ?_;rintro e w5 ⟨rfl,hB5⟩;have HC5:=zH (HC3.out.below hB5);have HM5:=zH (HM3.out.below hB5);have HA5:=zH (HA3.out.below hB5 HA3.out.lt);clear hB5 HC3 HM3 HA3;go_wp2_with fail
 refine(deeds_any ds 100 (by decide) _ g3 w5 HC5.out.tidy (HD.out.chg HC5.out (by decide))).mono ?_;rintro e w6 ⟨v6,rfl,hB6,hD6⟩;have HC6:=zH (HC5.out.below hB6);have HM6:=zH (HM5.out.below hB6);have A6:=HA5.out.below hB6 HA5.out.lt;have HD6:=zH hD6;clear HC5 HM5 HA5;obtain⟨a,cp,rfl⟩: ∃ a cc,v6= .slice a n cc:=by
  obtain⟨xs,h1,_⟩:=hD6;rw[HEN.out]at h1;obtain⟨a,cc,e,_⟩:=h1.1.form;exact⟨a,cc,e⟩
 clear hB6 hD6;go_upto_region 6 with fail
 obtain⟨nM,eM⟩: ∃ z,w6.heap.size=z:=⟨_,rfl⟩;refine wp_region_lit ?_;refine wpList_plain rfl fun K hK=> ?_
 go_simp;refine hK _ _ ?_;clear hK K;refine wpList_nil ?_;refine q_named (fun W=> ∃ g7,Of W g7 85 nM 33 (nextC fun _=>0)∧At W N0 24 (crc (cfP c).cr)∧Hid (Chg w6 W g3 g7 1 1)) ⟨_,by rw[←eM];exact Of.made w6 g3 85 _ _,A6.below ((Below.refl _ w6).alloc (Nat.le_refl _) _) A6.lt,zH ((Chg.refl HC6.out.tidy 1 1).tag _ 85)⟩ (fun W7 hW=> ?_);obtain⟨g7,M7,A7,K7⟩:=hW;have HC7:=zH (HC6.out.trans (K7.out.mono (hi':=90) (Nat.le_refl _) (by omega)));have HM7:=zH (HM6.out.chg K7.out (.inr (Nat.le_refl _)));have HD7:=zH (HD6.out.chg K7.out (by decide));have HA7:=zH A7;have HL7:=zH M7;have t0:=A7.ce 0;have t1:=A7.ce 1;have t2:=A7.ce 2;have t3:=A7.ce 3;have t4:=A7.ce 4;have t5:=A7.ce 5;have t6:=A7.ce 6;have t7:=A7.ce 7;have t8:=A7.ce 8;clear A6 A7 M7 K7 HC6 HM6 HD6 eM;go_upto_region 8 with fail
 go_wp2_with fail
 go_loopw [8,9] (fun v8 v9 wr=> ∃(i:Nat) (g':Nat→Nat) (m:MC) (nx:Nat→Nat),v8= .int .u64 (m.c.maxRate:Nat)∧v9= .int .i64 i∧i≤n∧Hid (Chg w wr g0 g' 1 90)∧Hid (McAt wr g' 1 b m)∧Hid (m.okn i)∧Hid (DsRd wr g' (.slice a n cp) ((ds.take 100).map ddP))∧Hid (Of wr g' 85 nM 33 (nextC nx))∧Hid (PaI m.q m.now nx)) (fun _ v9 _=>match v9 with | .int _ y=>n-y.toNat | _=>0)
 case atStart=>exact⟨0,g7,newM (cfP c),fun _=>0,rfl,rfl,Nat.zero_le _,HC7,HM7,HOK,HD7,HL7,zH (PaI.new rfl _)⟩
 case round=>
  obtain⟨i,g',m,nx,rfl,rfl,hi,HC,HM,HO,HR,HL,HPA⟩:=hrel;by_cases hin:i=n
  ·subst hin
   go_wp2_with fail
   go_ret
   exact⟨rfl,HC.out.plain fun b=>by rw[HG.out];decide⟩
  ·have hi3:i<n:=by omega
   have hi1:decide ((i:Int)<n)=true:=decide_eq_true (by omega);have hi2:decide (i<n)=true:=decide_eq_true hi3;have HLT:Hid (n-(i+1)<n-i):=zH (by omega);have HIN:Hid (i+1≤n):=zH hi3;have hiw:wrap64 ((i:Int)+1)=((i+1:Nat):Int):=by unfold wrap64;omega
   have HIW:=zH hiw;obtain⟨nW,eW⟩: ∃ z,wr.heap.size=z:=⟨_,rfl⟩;clear hi hin hiw;obtain⟨wo,rfl⟩: ∃ z,z=wr:=⟨_,rfl⟩;go_upto_region 11 with fail
   refine wp_region_lit ?_;refine wpList_plain rfl fun K hK=> ?_
   go_simp;refine hK _ _ ?_;clear hK K;refine wpList_nil ?_;refine q_named (fun W=>(∃ xs,At W nW 33 xs∧RatC m 0 xs)∧Hid (Below nW wo W)) ⟨⟨_,by rw[←eW];exact At.made wo _ _,rfl,fun s hs=>absurd hs (Nat.not_lt_zero s)⟩,zH (by rw[←eW];exact(Below.refl _ wo).alloc (Nat.le_refl _) _)⟩ (fun Wa hW=> ?_);obtain⟨⟨xs0,X0,hx0⟩,HB0⟩:=hW;have HEW:=zH eW;have X0:=zH X0;have hx0:=zH hx0;clear eW;go_upto_region 12 with fail
   go_wp2_with fail
   go_loopw [11] (fun v11 wk=> ∃(j:Nat) (xs:Array Value),v11= .int .i64 j∧j≤8∧Hid (Below nW wo wk)∧Hid (At wk nW 33 xs)∧Hid (RatC m j xs)) (fun v11 _=>match v11 with | .int _ y=>8-y.toNat | _=>0)
   case atStart=>exact⟨0,xs0,rfl,by decide,HB0,X0,hx0⟩
   case round=>
    obtain⟨j,xs,rfl,hj,HB,HX,HWC⟩:=hrel;by_cases hj8:j=8
    ·subst hj8
     obtain⟨wa,rfl⟩: ∃ z,z=wr:=⟨_,rfl⟩;have hB:Below wo.heap.size wo wa:=by rw[HEW.out];exact HB.out
     have HCa:=zH (HC.out.below hB);have HMa:=zH (HM.out.below hB);have HRa:=zH (HR.out.below hB);have HLa:=zH (HL.out.below hB);have gW:g' nW=0:=HC.out.tidy nW (Nat.le_of_eq HEW.out);have HGW:=zH gW;obtain⟨d,hd⟩: ∃ d,((ds.take 100).map ddP)[i]? =some d:=⟨_,List.getElem?_eq_getElem (by have:=HEN.out;have:=HIN.out;omega)⟩;obtain⟨b1,off,av,kv,rfl,hb,hcell,hri,gb1⟩:=HRa.out.at_ HEN.out hd;have r0:wa.cell? ⟨b1,off+i*15,none⟩=some (.int .i64 d.kind):=hcell 0 (by decide);have r1:wa.cell? ⟨b1,off+i*15+1,none⟩=some (.int .i64 d.sock):=hcell 1 (by decide);have r2:wa.cell? ⟨b1,off+i*15+2,none⟩=some (.int .i64 d.len):=hcell 2 (by decide);have r3:wa.cell? ⟨b1,off+i*15+3,none⟩=some (.int .u64 d.upto):=hcell 3 (by decide);have r4:wa.cell? ⟨b1,off+i*15+4,none⟩=some (.int .u64 d.at_):=hcell 4 (by decide);have r5:wa.cell? ⟨b1,off+i*15+5,none⟩=some (.slice av d.sks.length kv):=hcell 5 (by decide);have r6:wa.cell? ⟨b1,off+i*15+6,none⟩=some (.int .i64 d.cr.quantum):=hcell 6 (by decide);have r7:wa.cell? ⟨b1,off+i*15+7,none⟩=some (.int .i64 d.cr.first):=hcell 7 (by decide);have r8:wa.cell? ⟨b1,off+i*15+8,none⟩=some (.int .i64 d.cr.limit):=hcell 8 (by decide);have r9:wa.cell? ⟨b1,off+i*15+9,none⟩=some (.int .i64 d.cr.flowLimit):=hcell 9 (by decide);have r10:wa.cell? ⟨b1,off+i*15+10,none⟩=some (.int .u64 d.cr.horizon):=hcell 10 (by decide)
     have r11:wa.cell? ⟨b1,off+i*15+11,none⟩=some (.int .u64 d.cr.maxRate):=hcell 11 (by decide);have r12:wa.cell? ⟨b1,off+i*15+12,none⟩=some (.bool d.cr.drop):=hcell 12 (by decide);have r13:wa.cell? ⟨b1,off+i*15+13,none⟩=some (.int .i64 d.cr.cap):=hcell 13 (by decide);have r14:wa.cell? ⟨b1,off+i*15+14,none⟩=some (.int .i64 d.cr.mss):=hcell 14 (by decide);have hdok:=HDS.out d (List.mem_of_getElem? hd);have hi3:i<n:=HIN.out;have hn:=hn90;have CD:=zH (do_at b m i HO.out (by omega) d hdok (.slice av d.sks.length kv) g' 1 (by decide) wa HCa.out.tidy hri.1 HMa.out);have HO5:=zH (doF_ok HO.out (by omega) hdok);have HDP:=zH (doF_dp HO.out (by omega) hdok HPA.out);have HCC:=zH (doF_r m hdok.mr);have HSK:=zH (fun h1 h2=>doF_shut m (d:=d) h1 h2);have HMR:Hid (m.c.maxRate<18446744073709551616∧ ∀ s,s<8→rto (m.sk s)<18446744073709551616):=zH ⟨HO.out.ok.c.mr,fun s hs=>rto_lt HO.out hs⟩;unfold ddv at CD;obtain⟨m5,em5⟩: ∃ z,(doF m d).2.1=z:=⟨_,rfl⟩;obtain⟨o5,eo5⟩: ∃ z,(doF m d).2.2=z:=⟨_,rfl⟩;obtain⟨x5,ex5⟩: ∃ z,(doF m d).1=z:=⟨_,rfl⟩;obtain⟨n1,en1⟩: ∃ z,dpF m d nx=z:=⟨_,rfl⟩;rw[em5,eo5,ex5]at CD;rw[em5]at HO5;rw[em5,eo5,ex5,en1]at HDP;rw[em5,ex5]at HCC;rw[ex5]at HSK;have HCE:=zH (And.intro hcell (And.intro hb gb1));clear hri hd hcell hb gb1 hdok em5 eo5 ex5 en1 hB gW HB HC HM HR HL hj hi3 hn HPA HO;go_upto_region 19 with fail
     refine wp_region_lit ?_;iterate 5 (refine wpList_plain rfl fun K hK=> ?_;go_simp;refine hK _ _ ?_;clear hK K)
     refine wpList_plain rfl fun K hK=> ?_
     go_simp;refine CD.out.mono ?_;rintro e w5 ⟨vo,g5,rfl,C5,M5,O5⟩;refine hK _ _ ?_;clear hK K;have HC5:=zH (HCa.out.trans (C5.mono (lo':=1) (hi':=90) (Nat.le_refl _) (by omega)));have HM5:=zH M5;have HR5:=zH (HRa.out.chg C5 (by decide));have HL5:=zH (HLa.out.chg C5 (.inr (by decide)));have HX5:=zH (HX.out.chg C5 (.inl (by rw[HGW.out];decide)));have G5:Hid (g5 nW=0):=zH ((C5.old nW HX.out.lt).trans HGW.out);have hcell5: ∀ q,q<15→w5.cell? ⟨b1,off+i*15+q,none⟩=(ddc d (.slice av d.sks.length kv))[q]? :=fun q hq=>(World.cell?_of_block (C5.kept b1 HCE.out.2.1 (.inl (by rw[HCE.out.2.2];decide)))).trans (HCE.out.1 q hq)
     have hb5:b1<w5.heap.size:=Nat.lt_of_lt_of_le HCE.out.2.1 C5.size;have gb5:g5 b1=0:=(C5.old b1 HCE.out.2.1).trans HCE.out.2.2;obtain⟨ad,cd,ax,cx,af,cf,evo,hrd,_⟩:=O5.rd.ex;have hdp:DepAt w5 g5 (.slice ad o5.dep.length cd) o5.dep:=by
      obtain⟨vd,vx,vf,e2,h2,_⟩:=O5;rw[evo]at e2;cases e2
      exact h2
     have HD5:=zH hdp;subst evo;obtain⟨L,eL⟩: ∃ z,o5.dep.length=z:=⟨_,rfl⟩;rw[eL]at HD5 ⊢;have HEL:=zH eL;clear r0 r1 r2 r3 r4 r5 r6 r7 r8 r9 r10 r11 r12 r13 r14;clear C5 M5 O5 HCa HMa HRa HLa HX HGW CD HCE hdp hrd eL;iterate 3 (refine wpList_plain rfl fun K hK=> ?_;go_simp;refine hK _ _ ?_;clear hK K)
     obtain⟨N5,e5⟩: ∃ z,w5.heap.size=z:=⟨_,rfl⟩;refine wpList_plain rfl fun K hK=> ?_
     go_simp;refine hK _ _ ?_;clear hK K;refine wpList_store_new _ rfl 41 (.tmp 14) (.tmp 69) rfl _ #[.slice ad L cd, .slice ax o5.drop.length cx, .slice af o5.fates.length cf, .int .u64 (o5.dog:Nat)] N5 e5 rfl rfl (by kernel_rfl) rfl (by simp[Value.oneCell']) ?_;refine wpList_plain rfl fun K hK=> ?_
     go_simp;refine hK _ _ ?_;clear hK K;refine wpList_nil ?_;refine q_named (fun W=>At W N5 41 #[.slice ad L cd, .slice ax o5.drop.length cx, .slice af o5.fates.length cf, .int .u64 (o5.dog:Nat)]∧Hid (Chg w5 W g5 g5 1 1)∧Hid (g5 N5=0)) ⟨by rw[←e5];exact At.made w5 _ _,zH ((Chg.refl HC5.out.tidy 1 1).alloc _),zH (HC5.out.tidy N5 (by rw[e5];exact Nat.le_refl _))⟩ (fun W8 hW=> ?_);obtain⟨A8,K8,G8⟩:=hW;have hcell: ∀ q,q<15→W8.cell? ⟨b1,off+i*15+q,none⟩=(ddc d (.slice av d.sks.length kv))[q]? :=fun q hq=>(World.cell?_of_block (K8.out.kept b1 hb5 (.inl (by rw[gb5];decide)))).trans (hcell5 q hq)
     have HC8:=zH (HC5.out.trans (K8.out.mono (hi':=90) (Nat.le_refl _) (by omega)));have HM8:=zH (HM5.out.chg K8.out (.inr (Nat.le_refl _)));have HR8:=zH (HR5.out.chg K8.out (by decide));have HL8:=zH (HL5.out.chg K8.out (.inr (by decide)));have HX8:=zH (HX5.out.chg K8.out (.inl (by rw[G5.out];decide)));have HD8:=zH (HD5.out.chg K8.out (by decide));have HA8:=zH A8;have HCE:Hid ((∀ q,q<15→W8.cell? ⟨b1,off+i*15+q,none⟩=(ddc d (.slice av d.sks.length kv))[q]?)∧b1<W8.heap.size∧g5 b1=0):=zH ⟨hcell,Nat.lt_of_lt_of_le hb5 K8.out.size,gb5⟩;clear HC5 HM5 HR5 HL5 HX5 HD5 hcell hcell5 hb5 gb5 e5 A8 K8;go_upto_region 20 with fail
     go_wp2_with fail
     go_loopw [16] (fun v16 wk=>(v16= .int .i64 (L:Nat)∧Hid (Of wk g5 85 nM 33 (nextC n1))∧Hid (Chg W8 wk g5 g5 85 86))∨(v16= .int .i64 0∧W8=wk∧ ∃ zs zf zl zt za,Hid (o5.dep=[⟨zs,zf,zl,zt,za⟩]∧zs<8∧zl≤65536∧nx zs≤m5.now∧zt≤m5.now∧n1=putF nx zs (satAdd m5.now (delayOf zl (les (rto (m.sk zs)) m.c.maxRate)))))) (fun v16 _=>match v16 with | .int _ y=>2-y.toNat | _=>0)
     case atStart=>
      rcases HDP.out.1 with⟨h3,h4⟩ | ⟨zs,zf,zl,zt,za,h3⟩
      ·have hL:0=L:=by rw[←HEL.out,h3];rfl
       subst hL;exact .inl ⟨rfl,by rw[h4];exact HL8,zH (Chg.refl HC8.out.tidy _ _)⟩
      ·exact .inr ⟨rfl,rfl,zs,zf,zl,zt,za,zH h3⟩
     case round=>
      rcases hrel with⟨rfl,HL9,HK9⟩ | ⟨rfl,rfl,zs,zf,zl,zt,za,HZ⟩
      ·obtain⟨V9,rfl⟩: ∃ z,z=wr:=⟨_,rfl⟩
       have K9:=HK9.out;have HC9:=zH (HC8.out.trans (K9.mono (lo':=1) (hi':=90) (by omega) (by omega)));have HM9:=zH (HM8.out.chg K9 (.inl (by decide)));have HR9:=zH (HR8.out.chg K9 (by decide));have hcell: ∀ q,q<15→V9.cell? ⟨b1,off+i*15+q,none⟩=(ddc d (.slice av d.sks.length kv))[q]? :=fun q hq=>(World.cell?_of_block (K9.kept b1 HCE.out.2.1 (.inl (by rw[HCE.out.2.2];decide)))).trans (HCE.out.1 q hq)
       have y0:V9.cell? ⟨N5,0,none⟩=some (.slice ad L cd):=(HA8.out.chg K9 (.inl (by rw[G8.out];decide))).cell 0;have r0:V9.cell? ⟨b1,off+i*15,none⟩=some (.int .i64 d.kind):=hcell 0 (by decide);have r1:V9.cell? ⟨b1,off+i*15+1,none⟩=some (.int .i64 d.sock):=hcell 1 (by decide);have r2:V9.cell? ⟨b1,off+i*15+2,none⟩=some (.int .i64 d.len):=hcell 2 (by decide);have r3:V9.cell? ⟨b1,off+i*15+3,none⟩=some (.int .u64 d.upto):=hcell 3 (by decide);have r4:V9.cell? ⟨b1,off+i*15+4,none⟩=some (.int .u64 d.at_):=hcell 4 (by decide);have r5:V9.cell? ⟨b1,off+i*15+5,none⟩=some (.slice av d.sks.length kv):=hcell 5 (by decide);have r6:V9.cell? ⟨b1,off+i*15+6,none⟩=some (.int .i64 d.cr.quantum):=hcell 6 (by decide);have r7:V9.cell? ⟨b1,off+i*15+7,none⟩=some (.int .i64 d.cr.first):=hcell 7 (by decide);have r8:V9.cell? ⟨b1,off+i*15+8,none⟩=some (.int .i64 d.cr.limit):=hcell 8 (by decide);have r9:V9.cell? ⟨b1,off+i*15+9,none⟩=some (.int .i64 d.cr.flowLimit):=hcell 9 (by decide);have r10:V9.cell? ⟨b1,off+i*15+10,none⟩=some (.int .u64 d.cr.horizon):=hcell 10 (by decide);have r11:V9.cell? ⟨b1,off+i*15+11,none⟩=some (.int .u64 d.cr.maxRate):=hcell 11 (by decide);have r12:V9.cell? ⟨b1,off+i*15+12,none⟩=some (.bool d.cr.drop):=hcell 12 (by decide);have r13:V9.cell? ⟨b1,off+i*15+13,none⟩=some (.int .i64 d.cr.cap):=hcell 13 (by decide)
       have r14:V9.cell? ⟨b1,off+i*15+14,none⟩=some (.int .i64 d.cr.mss):=hcell 14 (by decide);have HCE9:Hid ((∀ q,q<15→V9.cell? ⟨b1,off+i*15+q,none⟩=(ddc d (.slice av d.sks.length kv))[q]?)∧b1<V9.heap.size∧g5 b1=0):=zH ⟨hcell,Nat.lt_of_lt_of_le HCE.out.2.1 K9.size,HCE.out.2.2⟩;clear hcell K9 HK9 HC8 HM8 HR8 HL8 HX8 HA8 HCE HD8 G8 G5 HEL;go_upto_region 27 with fail
       clear y0;go_cut [131] (fun v131 wx=>v131= .bool (decide (x5=0)&&decide (d.kind=9))∧wx=V9)
       case first=>
        by_cases hx:x5=0
        ·have e1:decide (x5=0)=true:=decide_eq_true hx
         have e2:((x5:Int)==0)=true:=by rw[hx];rfl
         have e3:decide ((x5:Int)=0)=true:=decide_eq_true (by omega);by_cases hk:d.kind=9
         ·have g1:decide (d.kind=9)=true:=decide_eq_true hk
          have g2:(d.kind==9)=true:=by rw[hk];rfl
          clear hx hk;go_wp2_with fail
          go_meet
          exact⟨by simp[e1,g1],rfl⟩
         ·have g1:decide (d.kind=9)=false:=decide_eq_false hk
          have g2:(d.kind==9)=false:=beq_eq_false_iff_ne.2 hk;clear hx hk;go_wp2_with fail
          go_meet
          exact⟨by simp[e1,g1],rfl⟩
        ·have e1:decide (x5=0)=false:=decide_eq_false hx
         have e2:((x5:Int)==0)=false:=beq_eq_false_iff_ne.2 (by omega);have e3:decide ((x5:Int)=0)=false:=decide_eq_false (by omega);clear hx;go_wp2_with fail
         go_meet
         exact⟨by simp[e1],rfl⟩
       obtain⟨rfl,rfl⟩:=hcut;obtain⟨V8,rfl⟩: ∃ z,z=wc:=⟨_,rfl⟩;obtain⟨p9,ep9⟩: ∃ z,(decide (x5=0)&&decide (d.kind=9))=z:=⟨_,rfl⟩;rw[ep9];have HP9:=zH ep9;clear ep9;go_upto_if 131 with fail
       go_cut [] (fun wx=>Hid (∃ nx2,PaI m5.q m5.now nx2∧Of wx g5 85 nM 33 (nextC nx2))∧Hid (Chg V8 wx g5 g5 85 86))
       case first=>
        cases p9
        ·have hpa:PaI m5.q m5.now n1:=by
          have hp:=HP9.out;have h:=HDP.out.2;rwa [if_neg (fun h=>by rw[decide_eq_true h.1,decide_eq_true h.2]at hp;cases hp)]at h
         have HPP:=zH hpa;clear hpa;go_wp2_with fail
         go_meet
         exact⟨zH ⟨n1,HPP.out,HL9.out⟩,zH (Chg.refl HC9.out.tidy _ _)⟩
        ·have hp:=HP9.out
         rw[Bool.and_eq_true,decide_eq_true_eq,decide_eq_true_eq]at hp;obtain⟨s,hs,hs8⟩:=HSK.out hp.1 hp.2;have hpa:PaI m5.q m5.now (putF n1 s 0):=by
          have h:=HDP.out.2;rwa [if_pos hp,hs,Int.toNat_natCast]at h
         have m7:=(HL9.out.1.cell s).trans (nextC_get n1 hs8);have mf:=HL9.out.1.free s;have r1':V8.cell? ⟨b1,off+i*15+1,none⟩=some (.int .i64 (s:Nat)):=by rw[←hs];exact r1
         have HPP:=zH hpa;have HS8:=zH hs8;have s0:(0:Int)≤s:=by omega
         have s8:(s:Int)<8:=by omega
         clear hp hpa r1 hs;go_upto_region 28 with fail
         refine wp_region_lit ?_;iterate 7 (refine wpList_plain rfl fun K hK=> ?_;go_simp;refine hK _ _ ?_;clear hK K)
         refine wpList_nil ?_;go_wp2_with fail
         go_meet
         exact⟨zH ⟨_,HPP.out,by rw[←nextC_set n1 0 HS8.out];exact HL9.out.1.set s,HL9.out.2⟩,zH ((Chg.refl HC9.out.tidy 85 86).set (fun _=>by rw[HL9.out.2];exact⟨by decide,by decide⟩) _)⟩
       obtain⟨HNW,K11⟩:=hcut;obtain⟨V11,rfl⟩: ∃ z,z=wc:=⟨_,rfl⟩;obtain⟨nx2,hpa,HL11⟩:=HNW.out;have HPA:=zH hpa;have HC11:=zH (HC9.out.trans (K11.out.mono (lo':=1) (hi':=90) (by omega) (by omega)));have HM11:=zH (HM9.out.chg K11.out (.inl (by decide)));have HR11:=zH (HR9.out.chg K11.out (by decide));have HL11:=zH HL11;have hcell: ∀ q,q<15→V11.cell? ⟨b1,off+i*15+q,none⟩=(ddc d (.slice av d.sks.length kv))[q]? :=fun q hq=>(World.cell?_of_block (K11.out.kept b1 HCE9.out.2.1 (.inl (by rw[HCE9.out.2.2];decide)))).trans (HCE9.out.1 q hq)
       clear r0 r1 r2 r3 r4 r5 r6 r7 r8 r9 r10 r11 r12 r13 r14;have r0:V11.cell? ⟨b1,off+i*15,none⟩=some (.int .i64 d.kind):=hcell 0 (by decide);have r1:V11.cell? ⟨b1,off+i*15+1,none⟩=some (.int .i64 d.sock):=hcell 1 (by decide);have r2:V11.cell? ⟨b1,off+i*15+2,none⟩=some (.int .i64 d.len):=hcell 2 (by decide);have r3:V11.cell? ⟨b1,off+i*15+3,none⟩=some (.int .u64 d.upto):=hcell 3 (by decide);have r4:V11.cell? ⟨b1,off+i*15+4,none⟩=some (.int .u64 d.at_):=hcell 4 (by decide);have r5:V11.cell? ⟨b1,off+i*15+5,none⟩=some (.slice av d.sks.length kv):=hcell 5 (by decide);have r6:V11.cell? ⟨b1,off+i*15+6,none⟩=some (.int .i64 d.cr.quantum):=hcell 6 (by decide);have r7:V11.cell? ⟨b1,off+i*15+7,none⟩=some (.int .i64 d.cr.first):=hcell 7 (by decide);have r8:V11.cell? ⟨b1,off+i*15+8,none⟩=some (.int .i64 d.cr.limit):=hcell 8 (by decide);have r9:V11.cell? ⟨b1,off+i*15+9,none⟩=some (.int .i64 d.cr.flowLimit):=hcell 9 (by decide);have r10:V11.cell? ⟨b1,off+i*15+10,none⟩=some (.int .u64 d.cr.horizon):=hcell 10 (by decide);have r11:V11.cell? ⟨b1,off+i*15+11,none⟩=some (.int .u64 d.cr.maxRate):=hcell 11 (by decide);have r12:V11.cell? ⟨b1,off+i*15+12,none⟩=some (.bool d.cr.drop):=hcell 12 (by decide);have r13:V11.cell? ⟨b1,off+i*15+13,none⟩=some (.int .i64 d.cr.cap):=hcell 13 (by decide);have r14:V11.cell? ⟨b1,off+i*15+14,none⟩=some (.int .i64 d.cr.mss):=hcell 14 (by decide)
       clear hpa HNW HC9 HM9 HR9 HL9 HCE9 K11 HP9 HSK HDP hcell;go_upto_region 29 with fail
       go_cut [147] (fun v147 wx=>v147= .bool (decide (x5=0)&&decide (d.kind=8))∧wx=V11)
       case first=>
        by_cases hx:x5=0
        ·have e1:decide (x5=0)=true:=decide_eq_true hx
         have e2:((x5:Int)==0)=true:=by rw[hx];rfl
         have e3:decide ((x5:Int)=0)=true:=decide_eq_true (by omega);by_cases hk:d.kind=8
         ·have g1:decide (d.kind=8)=true:=decide_eq_true hk
          have g2:(d.kind==8)=true:=by rw[hk];rfl
          clear hx hk;go_wp2_with fail
          go_meet
          exact⟨by simp[e1,g1],rfl⟩
         ·have g1:decide (d.kind=8)=false:=decide_eq_false hk
          have g2:(d.kind==8)=false:=beq_eq_false_iff_ne.2 hk;clear hx hk;go_wp2_with fail
          go_meet
          exact⟨by simp[e1,g1],rfl⟩
        ·have e1:decide (x5=0)=false:=decide_eq_false hx
         have e2:((x5:Int)==0)=false:=beq_eq_false_iff_ne.2 (by omega);have e3:decide ((x5:Int)=0)=false:=decide_eq_false (by omega);clear hx;go_wp2_with fail
         go_meet
         exact⟨by simp[e1],rfl⟩
       obtain⟨rfl,rfl⟩:=hcut;obtain⟨V12,rfl⟩: ∃ z,z=wc:=⟨_,rfl⟩;obtain⟨p8,ep8⟩: ∃ z,(decide (x5=0)&&decide (d.kind=8))=z:=⟨_,rfl⟩;rw[ep8];have HP8:=zH ep8;clear ep8;cases p8
       ·have hcc:m.c.maxRate=m5.c.maxRate:=by
         have hp:=HP8.out;rw[(HCC.out.2 (fun h=>by rw[decide_eq_true h.1,decide_eq_true h.2]at hp;cases hp))]
        have HCQ:=zH hcc;have hiw:=HIW.out;clear hcc;clear r0 r1 r2 r3 r4 r5 r6 r7 r8 r9 r10 r11 r12 r13 r14;go_wp2_with fail
        go_roundw
        case rel=>exact⟨i+1,g5,m5,nx2,by rw[HCQ.out],by simp,HIN.out,HC11,HM11,HO5,HR11,HL11,HPA⟩
        case measure=>have:=HLT.out;simp;omega
       ·have hcc:d.cr.maxRate=m5.c.maxRate:=by
         have hp:=HP8.out;rw[Bool.and_eq_true,decide_eq_true_eq,decide_eq_true_eq]at hp;exact HCC.out.1 hp
        rw[hcc]at r11;have hiw:=HIW.out;clear hcc;go_wp2_with fail
        go_roundw
        case rel=>exact⟨i+1,g5,m5,nx2,rfl,by simp,HIN.out,HC11,HM11,HO5,HR11,HL11,HPA⟩
        case measure=>have:=HLT.out;simp;omega
      ·obtain⟨hdep,hz8,hzl,hnz,hzt,hn1⟩:=HZ.out
       have hd8:=HD8.out;rw[hdep]at hd8;obtain⟨bd,ebd,D8⟩:=hd8;cases ebd
       have y0:=HA8.out.ce 0;have t0:=D8.1.ce 0;have t1:=D8.1.ce 1;have t2:=D8.1.ce 2;have t3:=D8.1.ce 3;have t4:=D8.1.ce 4;obtain⟨nw,enw⟩: ∃ z,m5.now=z:=⟨_,rfl⟩;have hnw:=HO5.out.ok.now;rw[enw]at hnz hzt hn1 hnw;obtain⟨nz,enz⟩: ∃ z,nx zs=z:=⟨_,rfl⟩;rw[enz]at hnz;have CNW:Hid (∀ W',McAt W' g5 1 b m5→Calls Tryz.prog 14 #[.pointer (some ⟨b,0,none⟩)] W' fun e w'=>e= .returned (.int .u64 (nw:Nat))∧W'=w'):=zH (fun W' h=>by rw[←enw];exact now_at h);have hnn:(nextC nx)[zs]? =some (.int .u64 (nz:Nat)):=by rw[←enz];exact nextC_get nx hz8
       have hrr:=HWC.out.2 zs hz8;have hr1:=HMR.out.2 zs hz8;have hr2:=HMR.out.1;obtain⟨ra,era⟩: ∃ z,rto (m.sk zs)=z:=⟨_,rfl⟩;rw[era]at hrr hr1 hn1;obtain⟨rb,erb⟩: ∃ z,m.c.maxRate=z:=⟨_,rfl⟩;rw[erb]at hr2 hn1 ⊢;have hr3:les ra rb<18446744073709551616:=lesR_lt hr1 hr2;have CLE:=zH (fun w'=>rlesser_any ra rb hr1 hr2 w');have CDE:=zH (fun w'=>rof_any zl (les ra rb) (by omega) (by omega) hr3 w');have CAD:=zH (fun w'=>radd_any nw (delayOf zl (les ra rb)) (by omega) (Nat.lt_of_le_of_lt (delayOf_le _ _) (by decide)) w');obtain⟨le,ele⟩: ∃ z,les ra rb=z:=⟨_,rfl⟩;rw[ele]at CLE CDE CAD hn1;obtain⟨de,ede⟩: ∃ z,delayOf zl le=z:=⟨_,rfl⟩;rw[ede]at CDE CAD hn1;obtain⟨su,esu⟩: ∃ z,satAdd nw de=z:=⟨_,rfl⟩;rw[esu]at CAD hn1;have HN1:=zH hn1;have HZ8:=zH hz8;have hz0:(0:Int)≤zs:=by omega
       have hz9:(zs:Int)<8:=by omega
       have d1:decide ((zs:Int)<0)=false:=decide_eq_false (by omega);have d2:decide ((8:Int)≤zs)=false:=decide_eq_false (by omega);have d3:decide (8≤zs)=false:=decide_eq_false (by omega);have d4:decide ((nw:Int)<nz)=false:=decide_eq_false (by omega);have d5:decide (nw<nz)=false:=decide_eq_false (by omega);have d6:decide ((nw:Int)<zt)=false:=decide_eq_false (by omega);have d7:decide (nw<zt)=false:=decide_eq_false (by omega);have f4: ¬(nw:Int)<nz:=by omega
       have f6: ¬(nw:Int)<zt:=by omega
       have HNN:=zH hnn;have HRR:=zH hrr;clear hdep hzl hnz hzt hn1 hnw hnn hrr hr1 hr2 hr3 enw enz era erb ele ede esu D8 hz8 HZ HD8 HEL HCC HSK HMR HDP HWC HCE;go_upto_region 23 with fail
       refine wp_region_lit ?_;iterate 5 (refine wpList_plain rfl fun K hK=> ?_;go_simp;refine hK _ _ ?_;clear hK K)
       obtain⟨N9,e9⟩: ∃ z,W8.heap.size=z:=⟨_,rfl⟩;refine wpList_plain rfl fun K hK=> ?_
       go_simp;refine hK _ _ ?_;clear hK K;refine wpList_store_new _ rfl 48 (.tmp 17) (.tmp 82) rfl _ #[.int .i64 (zs:Nat), .int .u64 (zf:Nat), .int .i64 (zl:Nat), .int .u64 (zt:Nat), .bool za] N9 e9 rfl rfl (by kernel_rfl) rfl (by simp[Value.oneCell']) ?_;try simp only[Act.put]
       refine wpList_nil ?_;refine q_named (fun W=>At W N9 48 #[.int .i64 (zs:Nat), .int .u64 (zf:Nat), .int .i64 (zl:Nat), .int .u64 (zt:Nat), .bool za]∧Hid (Chg W8 W g5 g5 85 85)∧Hid (g5 N9=0)) ⟨by rw[←e9];exact At.made W8 _ _,zH ((Chg.refl HC8.out.tidy 85 85).alloc _),zH (HC8.out.tidy N9 (by rw[e9];exact Nat.le_refl _))⟩ (fun W9 hW=> ?_);obtain⟨A9,K9,G9⟩:=hW;have HC9:=zH (HC8.out.trans (K9.out.mono (lo':=1) (hi':=90) (by omega) (by omega)));have HM9:=zH (HM8.out.chg K9.out (.inl (by decide)));have HL9:=zH (HL8.out.chg K9.out (.inr (by decide)));have HX9:=zH (HX8.out.chg K9.out (.inl (by rw[G5.out];decide)));have HMd:=zH (HM9.out.chg ((Chg.refl HC9.out.tidy 85 85).drew) (.inl (by decide)));have a0:=A9.ce 0;have a3:=A9.ce 3;have mk:=(HL9.out.1.cell zs).trans HNN.out;have HA9:=zH A9;clear y0 t0 t1 t2 t3 t4 HM8 HX8 e9 A9;go_upto_region 24 with fail
       go_cut [106] (fun v106 wx=>v106= .bool false∧wx=W9.drew)
       case first=>
        refine wp_region_still_tail 23 (by kernel_rfl) (by kernel_rfl) ?_;go_simp;iterate 10 still_step
        still_call (still0 (CNW.out _ HMd.out))
        iterate 8 still_step
        still_call (still0 (CNW.out _ HMd.out))
        iterate 3 still_step
        try refine wpStill_nil ?_
        change wpList _ _ _ _ _ (World.drew _)
        go_wp2_with fail
        go_meet
        exact⟨rfl,rfl⟩
       obtain⟨rfl,rfl⟩:=hcut;go_upto_region 26 with fail
       refine wp_named (fun W=>Hid (Chg W9 W g5 g5 85 85)) (zH ((Chg.refl HC9.out.tidy 85 85).drew)) (fun W10 K10=> ?_);have A10:=HA9.out.chg K10.out (.inl (by rw[G9.out];decide));have HC10:=zH (HC9.out.trans (K10.out.mono (lo':=1) (hi':=90) (by omega) (by omega)));have HM10:=zH (HM9.out.chg K10.out (.inl (by decide)));have HL10:=zH (HL9.out.chg K10.out (.inr (by decide)));have HX10:=HX9.out.chg K10.out (.inl (by rw[G5.out];decide));have HK10:=zH (K9.out.trans K10.out);have HMe:=zH (HM10.out.chg ((Chg.refl HC10.out.tidy 85 85).drew) (.inl (by decide)));clear a0 a3 mk;have a0:=A10.ce 0;have a2:=A10.ce 2;have mk:=(HL10.out.1.cell zs).trans HNN.out;have mf:=HL10.out.1.free zs;have mr:=(HX10.cell zs).trans HRR.out;clear HC9 HM9 HL9 HX9 HMd HA9 A10 HX10 K9 K10;refine wp_region_still_tail 15 (by kernel_rfl) (by kernel_rfl) ?_;go_simp;iterate 3 still_step
       still_call (still0 (CNW.out _ HMe.out))
       iterate 7 still_step
       still_call (still0 (CLE.out _))
       still_call (still0 (CDE.out _))
       still_call (still0 (CAD.out _))
       still_step
       try refine wpStill_nil ?_
       change wpList _ _ _ _ _ (World.drew _)
       go_wp2_with fail
       go_roundw
       case rel=>exact .inl ⟨rfl,zH ⟨by rw[HN1.out,←nextC_set nx su HZ8.out];exact HL10.out.1.drew.set zs,HL10.out.2⟩,zH ((HK10.out.mono (hi':=86) (Nat.le_refl _) (by omega)).trans (((Chg.refl HC10.out.tidy 85 86).drew).set (fun _=>by rw[HL10.out.2];exact⟨by decide,by decide⟩) _))⟩
       case measure=>decide
    ·have hk1:decide ((j:Int)<8)=true:=decide_eq_true (by omega)
     have hk2:decide (j<8)=true:=decide_eq_true (by omega);have hkw:wrap64 ((j:Int)+1)=((j+1:Nat):Int):=by unfold wrap64;omega
     have HKL:Hid (8-(j+1)<8-j∧j+1≤8):=zH (by omega);have hj7:j<8:=by omega
     have HKB:Hid (j<8):=zH hj7;have HKW:=zH hkw;have hj0:(0:Int)≤j:=by omega
     have hj9:(j:Int)<8:=by omega
     obtain⟨wk,rfl⟩: ∃ z,z=wr:=⟨_,rfl⟩;obtain⟨o0,h0⟩: ∃ v,xs[j]? =some v:=⟨_,Array.getElem?_eq_getElem (by rw[HWC.out.1];exact hj7)⟩;have z0:=(HX.out.cell j).trans h0;have f0:=HX.out.free j;have HB2:Hid (nW≤wk.heap.size):=zH (by have:=HX.out.lt;omega);clear h0 hj8 hkw hj;go_upto_region 15 with fail
     refine wp_region_lit ?_;iterate 3 (refine wpList_plain rfl fun K hK=> ?_;go_simp;refine hK _ _ ?_;clear hK K)
     refine wpList_nil ?_;refine q_named (fun W=>Hid (Below nW wo W)∧Hid (At W nW 33 (xs.setIfInBounds j (.int .u64 18446744073709551615)))) ⟨zH (HB.out.grown (grown_set _ _ _ _) (by have:=HB2.out;omega) (fun k hk=>by cases hk;exact Nat.le_refl _)),zH (HX.out.set _)⟩ (fun Wb hW=> ?_);obtain⟨HB1,HX1⟩:=hW;have HR1:=zH (HWC.out.put (.int .u64 18446744073709551615));have HG1:=zH (HWC.out.got hj7 (.int .u64 18446744073709551615));obtain⟨xs1,ex1⟩: ∃ z,xs.setIfInBounds j (.int .u64 18446744073709551615)=z:=⟨_,rfl⟩;rw[ex1]at HX1 HR1 HG1;have CF:=zH (fun w' hB=>model_at HO.out HKB.out (by decide) (HC.out.below (w'':=w') hB).tidy (HM.out.below hB));obtain⟨p0,p1,p2,p3,p4,p5,p6,p7,p8',p9,emd⟩:=mdo_ten (m.sk j);rw[emd]at CF;have HMD:=zH emd;clear emd ex1 z0 f0 HB2 HX HWC HB;go_upto_region 16 with fail
     refine wp_region_lit ?_;iterate 2 (refine wpList_plain rfl fun K hK=> ?_;go_simp;refine hK _ _ ?_;clear hK K)
     refine wpList_plain rfl fun K hK=> ?_
     go_simp;refine(CF.out _ (HEW.out▸HB1.out)).mono ?_;rintro e wb ⟨rfl,hBb⟩;refine hK _ _ ?_;clear hK K;have HBb:=zH (HB1.out.trans (hBb.mono (by have:=HB1.out.size;have:=HEW.out;omega)));have HXb:=zH (HX1.out.below hBb HX1.out.lt);clear hBb CF HX1 HB1;iterate 3 (refine wpList_plain rfl fun K hK=> ?_;go_simp;refine hK _ _ ?_;clear hK K)
     obtain⟨N15,e15⟩: ∃ z,wb.heap.size=z:=⟨_,rfl⟩;refine wpList_plain rfl fun K hK=> ?_
     go_simp;refine hK _ _ ?_;clear hK K;refine wpList_store_new _ rfl 35 (.tmp 12) (.tmp 55) rfl _ #[.int .i64 (p0:Nat), .int .i64 (p1:Nat), .int .u64 (p2:Nat), .int .u64 (p3:Nat), .int .u64 (p4:Nat), .int .u64 (p5:Nat), .int .u64 (p6:Nat), .int .u64 (p7:Nat), .bool p8', .bool p9] N15 e15 rfl rfl (by kernel_rfl) rfl (by simp[Value.oneCell']) ?_;refine wpList_plain rfl fun K hK=> ?_
     go_simp;refine hK _ _ ?_;clear hK K;refine wpList_nil ?_;refine q_named (fun W=>At W N15 35 #[.int .i64 (p0:Nat), .int .i64 (p1:Nat), .int .u64 (p2:Nat), .int .u64 (p3:Nat), .int .u64 (p4:Nat), .int .u64 (p5:Nat), .int .u64 (p6:Nat), .int .u64 (p7:Nat), .bool p8', .bool p9]∧Hid (Below nW wo W)∧Hid (At W nW 33 xs1)) ⟨by rw[←e15];exact At.made wb _ _,zH (HBb.out.trans (((Below.refl _ wb).alloc (Nat.le_refl _) _).mono (by have:=HBb.out.size;have:=HEW.out;omega))),zH (HXb.out.below ((Below.refl _ wb).alloc (Nat.le_refl _) _) HXb.out.lt)⟩ (fun Wc hW=> ?_);obtain⟨A15,HBc,HXc⟩:=hW;have c2:=A15.ce 2;have HNX:=zH (fun(ys:Array Value) (h:RatC m j ys) hv=>RatC.next h hv);clear A15 HBb HXb e15;cases hsk:m.sk j with
     | none=>
      have HN:=HNX.out xs1 HR1.out (by rw[hsk];exact HG1.out);have HN:=zH HN;have hkw:=HKW.out;simp only[Option.isSome_none];clear hsk c2;go_wp2_with fail
      go_roundw
      case rel=>exact⟨j+1,xs1,rfl,HKL.out.2,HBc,HXc,HN⟩
      case measure=>exact HKL.out.1
     | some kk=>
      have e2:=HMD.out;rw[hsk]at e2;simp only[mdo,mdv,Value.agg.injEq,Array.mk.injEq,List.cons.injEq,Value.int.injEq,Value.bool.injEq,true_and,and_true]at e2;obtain⟨-, -,t4, -⟩:=e2;have t5:p2=kk.bb.rate:=by omega
      rw[t5]at c2;have HN:=zH (HNX.out _ (HR1.out.put (.int .u64 (kk.bb.rate:Nat))) (by rw[hsk];exact HR1.out.got HKB.out _));have z1:=(HXc.out.cell j).trans HG1.out;have f1:=HXc.out.free j;have HB3:Hid (nW≤Wc.heap.size):=zH (by have:=HXc.out.lt;omega);simp only[Option.isSome_some];obtain⟨rt,ert⟩: ∃ z,kk.bb.rate=z:=⟨_,rfl⟩;rw[ert]at c2 HN;clear hsk t4 t5 ert HMD;go_upto_region 18 with fail
      refine wp_region_lit ?_;iterate 5 (refine wpList_plain rfl fun K hK=> ?_;go_simp;refine hK _ _ ?_;clear hK K)
      refine wpList_nil ?_;refine q_named (fun W=>Hid (Below nW wo W)∧Hid (At W nW 33 (xs1.setIfInBounds j (.int .u64 (rt:Nat))))) ⟨zH (HBc.out.grown (grown_set _ _ _ _) (by have:=HB3.out;omega) (fun k hk=>by cases hk;exact Nat.le_refl _)),zH (HXc.out.set _)⟩ (fun Wd hW=> ?_);obtain⟨HBd,HXd⟩:=hW;have hkw:=HKW.out;clear c2 z1 f1 HB3 HXc HBc;go_wp2_with fail
      go_roundw
      case rel=>exact⟨j+1,_,rfl,HKL.out.2,HBd,HXd,HN⟩
      case measure=>exact HKL.out.1
end
end Go.Proofs.YtojgokiobdpclaaGreat
