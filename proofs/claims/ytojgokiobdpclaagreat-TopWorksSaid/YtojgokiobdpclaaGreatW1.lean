import Derived.Test.YtojgokiobdpclaaGreatQ2
namespace Go.Proofs.YtojgokiobdpclaaGreat
set_option linter.unusedVariables false
set_option linter.unusedSimpArgs false
set_option maxRecDepth 8000
set_option maxHeartbeats 8000000
section
open Go.RowKit Go.Lib Go.Shelf
theorem fqflow_none (b s:Nat) (hs:s<8) (fp:Nat→Option Nat) (bl bt:Nat) (q:FQ) (hf:q.fl s=none) (g:Nat→Nat) (T:Nat) (w:World) (h:FqIn w g T b fp bl bt q):
  Calls Tryz.prog 39 #[.pointer (some ⟨b,0,none⟩), .int .i64 s] w fun e w'=>e= .returned (.tuple #[.agg #[.int .i64 0, .int .i64 0, .int .i64 0, .int .u64 0, .int .u64 0, .slice none 0 0], .bool false])∧Below w.heap.size w w':=by
 have CH:=zH (fun w' hB=>fqhas_any b s hs fp bl bt q g T w' (h.below (w':=w') hB));rw[hf]at CH;obtain⟨N0,e0⟩: ∃ z,w.heap.size=z:=⟨_,rfl⟩;clear h hf;go_enter Tryz.func39,Tryz.ntmps39
 go_wp2_with fail
 refine(CH.out _ ((Below.refl _ w).alloc (Nat.le_refl _) _)).mono ?_;rintro e w1 ⟨rfl,rfl⟩;go_upto_region 2 with fail
 refine wp_named (fun W=>At W N0 57 #[.int .i64 0, .int .i64 0, .int .i64 0, .int .u64 0, .int .u64 0, .slice none 0 0]∧Below w.heap.size w W) ⟨by rw[←e0];exact At.made _ _ _,(Below.refl _ w).alloc (Nat.le_refl _) _⟩ (fun W hW=> ?_);obtain⟨A,hB⟩:=hW;have y0:=A.cell 0;have y1:=A.cell 1;have y2:=A.cell 2;have y3:=A.cell 3;have y4:=A.cell 4;have y5:=A.cell 5;have yf0:=A.free 0;have yf1:=A.free 1;have yf2:=A.free 2;have yf3:=A.free 3;have yf4:=A.free 4;have yf5:=A.free 5;simp only[List.getElem?_toArray,List.getElem?_cons_zero,List.getElem?_cons_succ]at y0 y1 y2 y3 y4 y5;have A5:=((((((A.set (u:= .int .i64 0) 0).set (u:= .int .i64 0) 1).set (u:= .int .i64 0) 2).set (u:= .int .u64 0) 3).set (u:= .int .u64 0) 4).set (u:= .slice none 0 0) 5);have d0:=A5.cell 0;have d1:=A5.cell 1;have d2:=A5.cell 2;have d3:=A5.cell 3;have d4:=A5.cell 4;have d5:=A5.cell 5;simp only[List.setIfInBounds_toArray,List.set_cons_zero,List.set_cons_succ,List.getElem?_toArray,List.getElem?_cons_zero,List.getElem?_cons_succ]at d0 d1 d2 d3 d4 d5;have G5:=((((((grown_set W N0 0 (.int .i64 0)).trans (grown_set _ N0 1 (.int .i64 0))).trans (grown_set _ N0 2 (.int .i64 0))).trans (grown_set _ N0 3 (.int .u64 0))).trans (grown_set _ N0 4 (.int .u64 0))).trans (grown_set _ N0 5 (.slice none 0 0)));have D0:=zH d0;have D1:=zH d1;have D2:=zH d2;have D3:=zH d3;have D4:=zH d4;have D5:=zH d5;have HB:=zH (hB.grown G5 hB.size (fun k hk=>by cases hk;omega))
 clear A A5 G5 hB d0 d1 d2 d3 d4 d5;go_wp2_with fail
 refine bodyPost_ret (v:= .tuple #[.agg #[.int .i64 0, .int .i64 0, .int .i64 0, .int .u64 0, .int .u64 0, .slice none 0 0], .bool false]) ?_ rfl ⟨rfl,HB.out⟩;simp[results,Tryz.f39,go_sem,D0.out,D1.out,D2.out,D3.out,D4.out,D5.out]
theorem fqflow_some (b s:Nat) (hs:s<8) (fp:Nat→Option Nat) (bl bt:Nat) (q:FQ) (hi:q.inv) (f:FL) (hf:q.fl s=some f) (g:Nat→Nat) (T:Nat) (hT0:0<T) (w:World) (hT:Tidy w g) (h:FqIn w g T b fp bl bt q):
  Calls Tryz.prog 39 #[.pointer (some ⟨b,0,none⟩), .int .i64 s] w fun e w'=> ∃ v',e= .returned (.tuple #[.agg #[.int .i64 s, .int .i64 f.credit, .int .i64 (placeQ q s:Nat), .int .u64 f.next, .int .u64 f.since,v'], .bool true])∧Rd w' v' 5 f.segs.length (f.segs.flatMap sgl)∧Below w.heap.size w w':=by
 have hlen:=hi.ok.len;have CH:=zH (fun w' hB=>fqhas_any b s hs fp bl bt q g T w' (h.below (w':=w') hB));rw[hf]at CH;have CP:=zH (fun w' hB=>fqplace_any b s hs fp bl bt q (by omega) (by omega) g T w' (h.below (w':=w') hB));rcases h.one hs with⟨_,e2⟩ | ⟨p,f2,hp,hf2,hfl⟩
 ·rw[hf]at e2;cases e2
 rw[hf]at hf2;cases hf2
 have hle:f.segs.length≤512:=by
  have:=lens_le q.fl hs;rw[←hi.tot]at this;unfold lens at this;rw[hf]at this;exact Nat.le_trans this hi.lim
 obtain⟨v,k1,k2⟩:=hfl;have CC:=zH (fun w' (hB:Below w.heap.size w w')=>clone_any v f.segs (by omega) w' g (fun k hk=>hT k (Nat.le_trans hB.size hk)) (k2.below hB).rdn);have cs:=h.flow hs;rw[hp]at cs;simp only[pval,Option.map_some]at cs;have hs8':(s:Int)<8:=by omega
 obtain⟨N0,e0⟩: ∃ z,w.heap.size=z:=⟨_,rfl⟩;have gN:g N0=0:=hT _ (by omega);have hpN:p<N0:=by rw[←e0];exact k1.1.lt
 have hbN:b<N0:=by rw[←e0];exact h.own.1.lt
 obtain⟨pl,epl⟩: ∃ z,placeQ q s=z:=⟨_,rfl⟩;rw[epl]at CP ⊢;have HH:=zH h;have HT:=zH hT;have HK1:=zH k1;clear h hT k1 k2 hi hf hp epl;go_enter Tryz.func39,Tryz.ntmps39
 go_wp2_with fail
 refine(CH.out _ ((Below.refl _ w).alloc (Nat.le_refl _) _)).mono ?_;rintro e w1 ⟨rfl,rfl⟩;go_upto_region 4 with fail
 refine wp_named (fun W=>At W N0 57 #[.int .i64 0, .int .i64 0, .int .i64 0, .int .u64 0, .int .u64 0, .slice none 0 0]∧Below w.heap.size w W) ⟨by rw[←e0];exact At.made _ _ _,(Below.refl _ w).alloc (Nat.le_refl _) _⟩ (fun W hW=> ?_);obtain⟨A,hB⟩:=hW;have K:=HK1.out.below hB;have c0:=K.1.ce 0;have c1:=K.1.ce 1;have c2:=K.1.ce 2;have c3:=K.1.ce 3;have HA:=zH A;have HB:=zH hB;have S0:Hid (∀ wq,(wq.cell? ⟨p,0,none⟩=some (.int .i64 f.credit)∧wq.cell? ⟨p,1,none⟩=some (.int .u64 f.next)∧wq.cell? ⟨p,2,none⟩=some (.int .u64 f.since)∧wq.cell? ⟨p,3,none⟩=some v∧Hid (Below w.heap.size w wq∧N0<wq.heap.size))→ ∀ wr,Below wq.heap.size wq wr→(wr.cell? ⟨p,0,none⟩=some (.int .i64 f.credit)∧wr.cell? ⟨p,1,none⟩=some (.int .u64 f.next)∧wr.cell? ⟨p,2,none⟩=some (.int .u64 f.since)∧wr.cell? ⟨p,3,none⟩=some v∧Hid (Below w.heap.size w wr∧N0<wr.heap.size))):=by
  refine zH fun wq hq wr hr=> ?_
  obtain⟨h1,h2,h3,h4,h5⟩:=hq;have hp2:p<wq.heap.size:=by have:=h5.out.1.size;omega
  exact⟨(hr.cell (p:=⟨p,0,none⟩) hp2).trans h1,(hr.cell (p:=⟨p,1,none⟩) hp2).trans h2,(hr.cell (p:=⟨p,2,none⟩) hp2).trans h3,(hr.cell (p:=⟨p,3,none⟩) hp2).trans h4,zH ⟨h5.out.1.trans (hr.mono h5.out.1.size),Nat.lt_of_lt_of_le h5.out.2 hr.size⟩⟩
 have KS:Hid (∀ wq va vc,(wq.cell? ⟨p,0,none⟩=some (.int .i64 f.credit)∧wq.cell? ⟨p,1,none⟩=some (.int .u64 f.next)∧wq.cell? ⟨p,2,none⟩=some (.int .u64 f.since)∧wq.cell? ⟨p,3,none⟩=some v∧Hid (Below w.heap.size w wq∧N0<wq.heap.size))→((((((wq.setCell ⟨N0,0,none⟩ (.int .i64 (s:Nat))).setCell ⟨N0,1,none⟩ (.int .i64 f.credit)).setCell ⟨N0,2,none⟩ (.int .i64 (pl:Nat))).setCell ⟨N0,3,none⟩ (.int .u64 (f.next:Nat))).setCell ⟨N0,4,none⟩ (.int .u64 (f.since:Nat))).setCell ⟨N0,5,none⟩ (.slice va f.segs.length vc)).cell? ⟨p,0,none⟩=some (.int .i64 f.credit)∧((((((wq.setCell ⟨N0,0,none⟩ (.int .i64 (s:Nat))).setCell ⟨N0,1,none⟩ (.int .i64 f.credit)).setCell ⟨N0,2,none⟩ (.int .i64 (pl:Nat))).setCell ⟨N0,3,none⟩ (.int .u64 (f.next:Nat))).setCell ⟨N0,4,none⟩ (.int .u64 (f.since:Nat))).setCell ⟨N0,5,none⟩ (.slice va f.segs.length vc)).cell? ⟨p,1,none⟩=some (.int .u64 f.next)∧((((((wq.setCell ⟨N0,0,none⟩ (.int .i64 (s:Nat))).setCell ⟨N0,1,none⟩ (.int .i64 f.credit)).setCell ⟨N0,2,none⟩ (.int .i64 (pl:Nat))).setCell ⟨N0,3,none⟩ (.int .u64 (f.next:Nat))).setCell ⟨N0,4,none⟩ (.int .u64 (f.since:Nat))).setCell ⟨N0,5,none⟩ (.slice va f.segs.length vc)).cell? ⟨p,2,none⟩=some (.int .u64 f.since)∧((((((wq.setCell ⟨N0,0,none⟩ (.int .i64 (s:Nat))).setCell ⟨N0,1,none⟩ (.int .i64 f.credit)).setCell ⟨N0,2,none⟩ (.int .i64 (pl:Nat))).setCell ⟨N0,3,none⟩ (.int .u64 (f.next:Nat))).setCell ⟨N0,4,none⟩ (.int .u64 (f.since:Nat))).setCell ⟨N0,5,none⟩ (.slice va f.segs.length vc)).cell? ⟨p,3,none⟩=some v∧Hid (Below w.heap.size w ((((((wq.setCell ⟨N0,0,none⟩ (.int .i64 (s:Nat))).setCell ⟨N0,1,none⟩ (.int .i64 f.credit)).setCell ⟨N0,2,none⟩ (.int .i64 (pl:Nat))).setCell ⟨N0,3,none⟩ (.int .u64 (f.next:Nat))).setCell ⟨N0,4,none⟩ (.int .u64 (f.since:Nat))).setCell ⟨N0,5,none⟩ (.slice va f.segs.length vc))∧N0<((((((wq.setCell ⟨N0,0,none⟩ (.int .i64 (s:Nat))).setCell ⟨N0,1,none⟩ (.int .i64 f.credit)).setCell ⟨N0,2,none⟩ (.int .i64 (pl:Nat))).setCell ⟨N0,3,none⟩ (.int .u64 (f.next:Nat))).setCell ⟨N0,4,none⟩ (.int .u64 (f.since:Nat))).setCell ⟨N0,5,none⟩ (.slice va f.segs.length vc)).heap.size)):=by
  refine zH fun wq va vc hq=> ?_
  obtain⟨h1,h2,h3,h4,h5⟩:=hq;have G:=((((((grown_set wq N0 0 (.int .i64 (s:Nat))).trans (grown_set _ N0 1 (.int .i64 f.credit))).trans (grown_set _ N0 2 (.int .i64 (pl:Nat)))).trans (grown_set _ N0 3 (.int .u64 (f.next:Nat)))).trans (grown_set _ N0 4 (.int .u64 (f.since:Nat)))).trans (grown_set _ N0 5 (.slice va f.segs.length vc)));exact⟨G.cell h1 (by simp;omega),G.cell h2 (by simp;omega),G.cell h3 (by simp;omega),G.cell h4 (by simp;omega),zH ⟨h5.out.1.grown G h5.out.1.size (fun k hk=>by cases hk;omega),Nat.lt_of_lt_of_le h5.out.2 G.size⟩⟩
 have FIN:Hid (∀ wq va vc,At wq N0 57 #[.int .i64 0, .int .i64 0, .int .i64 0, .int .u64 0, .int .u64 0, .slice none 0 0]→Rd wq (.slice va f.segs.length vc) 5 f.segs.length (f.segs.flatMap sgl)→(∀ k,(Value.slice va f.segs.length vc).ownBlock=some k→some N0≠some k)→wq.cell? ⟨p,0,none⟩=some (.int .i64 f.credit)∧wq.cell? ⟨p,1,none⟩=some (.int .u64 f.next)∧wq.cell? ⟨p,2,none⟩=some (.int .u64 f.since)∧wq.cell? ⟨p,3,none⟩=some v∧Hid (Below w.heap.size w wq∧N0<wq.heap.size)→
   (((((((wq.setCell ⟨N0,0,none⟩ (.int .i64 (s:Nat))).setCell ⟨N0,1,none⟩ (.int .i64 f.credit)).setCell ⟨N0,2,none⟩ (.int .i64 (pl:Nat))).setCell ⟨N0,3,none⟩ (.int .u64 (f.next:Nat))).setCell ⟨N0,4,none⟩ (.int .u64 (f.since:Nat))).setCell ⟨N0,5,none⟩ (.slice va f.segs.length vc)).cell? ⟨N0,0,none⟩=some (.int .i64 (s:Nat))∧((((((wq.setCell ⟨N0,0,none⟩ (.int .i64 (s:Nat))).setCell ⟨N0,1,none⟩ (.int .i64 f.credit)).setCell ⟨N0,2,none⟩ (.int .i64 (pl:Nat))).setCell ⟨N0,3,none⟩ (.int .u64 (f.next:Nat))).setCell ⟨N0,4,none⟩ (.int .u64 (f.since:Nat))).setCell ⟨N0,5,none⟩ (.slice va f.segs.length vc)).cell? ⟨N0,1,none⟩=some (.int .i64 f.credit)∧((((((wq.setCell ⟨N0,0,none⟩ (.int .i64 (s:Nat))).setCell ⟨N0,1,none⟩ (.int .i64 f.credit)).setCell ⟨N0,2,none⟩ (.int .i64 (pl:Nat))).setCell ⟨N0,3,none⟩ (.int .u64 (f.next:Nat))).setCell ⟨N0,4,none⟩ (.int .u64 (f.since:Nat))).setCell ⟨N0,5,none⟩ (.slice va f.segs.length vc)).cell? ⟨N0,2,none⟩=some (.int .i64 (pl:Nat))∧((((((wq.setCell ⟨N0,0,none⟩ (.int .i64 (s:Nat))).setCell ⟨N0,1,none⟩ (.int .i64 f.credit)).setCell ⟨N0,2,none⟩ (.int .i64 (pl:Nat))).setCell ⟨N0,3,none⟩ (.int .u64 (f.next:Nat))).setCell ⟨N0,4,none⟩ (.int .u64 (f.since:Nat))).setCell ⟨N0,5,none⟩ (.slice va f.segs.length vc)).cell? ⟨N0,3,none⟩=some (.int .u64 (f.next:Nat))∧((((((wq.setCell ⟨N0,0,none⟩ (.int .i64 (s:Nat))).setCell ⟨N0,1,none⟩ (.int .i64 f.credit)).setCell ⟨N0,2,none⟩ (.int .i64 (pl:Nat))).setCell ⟨N0,3,none⟩ (.int .u64 (f.next:Nat))).setCell ⟨N0,4,none⟩ (.int .u64 (f.since:Nat))).setCell ⟨N0,5,none⟩ (.slice va f.segs.length vc)).cell? ⟨N0,4,none⟩=some (.int .u64 (f.since:Nat))∧((((((wq.setCell ⟨N0,0,none⟩ (.int .i64 (s:Nat))).setCell ⟨N0,1,none⟩ (.int .i64 f.credit)).setCell ⟨N0,2,none⟩ (.int .i64 (pl:Nat))).setCell ⟨N0,3,none⟩ (.int .u64 (f.next:Nat))).setCell ⟨N0,4,none⟩ (.int .u64 (f.since:Nat))).setCell ⟨N0,5,none⟩ (.slice va f.segs.length vc)).cell? ⟨N0,5,none⟩=some (.slice va f.segs.length vc))∧Rd ((((((wq.setCell ⟨N0,0,none⟩ (.int .i64 (s:Nat))).setCell ⟨N0,1,none⟩ (.int .i64 f.credit)).setCell ⟨N0,2,none⟩ (.int .i64 (pl:Nat))).setCell ⟨N0,3,none⟩ (.int .u64 (f.next:Nat))).setCell ⟨N0,4,none⟩ (.int .u64 (f.since:Nat))).setCell ⟨N0,5,none⟩ (.slice va f.segs.length vc)) (.slice va f.segs.length vc) 5 f.segs.length (f.segs.flatMap sgl)∧Below w.heap.size w ((((((wq.setCell ⟨N0,0,none⟩ (.int .i64 (s:Nat))).setCell ⟨N0,1,none⟩ (.int .i64 f.credit)).setCell ⟨N0,2,none⟩ (.int .i64 (pl:Nat))).setCell ⟨N0,3,none⟩ (.int .u64 (f.next:Nat))).setCell ⟨N0,4,none⟩ (.int .u64 (f.since:Nat))).setCell ⟨N0,5,none⟩ (.slice va f.segs.length vc))):=by
  refine zH fun wq va vc hA hS hne hq=> ?_
  have A5:=((((((hA.set (u:= .int .i64 (s:Nat)) 0).set (u:= .int .i64 f.credit) 1).set (u:= .int .i64 (pl:Nat)) 2).set (u:= .int .u64 (f.next:Nat)) 3).set (u:= .int .u64 (f.since:Nat)) 4).set (u:= .slice va f.segs.length vc) 5);have G:=((((((grown_set wq N0 0 (.int .i64 (s:Nat))).trans (grown_set _ N0 1 (.int .i64 f.credit))).trans (grown_set _ N0 2 (.int .i64 (pl:Nat)))).trans (grown_set _ N0 3 (.int .u64 (f.next:Nat)))).trans (grown_set _ N0 4 (.int .u64 (f.since:Nat)))).trans (grown_set _ N0 5 (.slice va f.segs.length vc)));have d0:=A5.cell 0;have d1:=A5.cell 1;have d2:=A5.cell 2;have d3:=A5.cell 3;have d4:=A5.cell 4;have d5:=A5.cell 5;simp only[List.setIfInBounds_toArray,List.set_cons_zero,List.set_cons_succ,List.getElem?_toArray,List.getElem?_cons_zero,List.getElem?_cons_succ]at d0 d1 d2 d3 d4 d5;exact⟨⟨d0,d1,d2,d3,d4,d5⟩,hS.grown G hne,hq.2.2.2.2.out.1.grown G hq.2.2.2.2.out.1.size (fun k hk=>by cases hk;omega)⟩
 refine wp_region_held_drew (S:=fun wq=>wq.cell? ⟨p,0,none⟩=some (.int .i64 f.credit)∧wq.cell? ⟨p,1,none⟩=some (.int .u64 f.next)∧wq.cell? ⟨p,2,none⟩=some (.int .u64 f.since)∧wq.cell? ⟨p,3,none⟩=some v∧Hid (Below w.heap.size w wq∧N0<wq.heap.size)) (by kernel_rfl) ⟨c0,c1,c2,c3,zH ⟨hB.drew,A.lt⟩⟩ (fun hHeld=> ?_);have HA0:=zH (show At W.drew N0 57 _ from A);clear c0 c1 c2 c3 HA HB A hB K;refine zt 0 ?_;refine zt 1 ?_;refine zt 2 ?_;refine zt 3 ?_;refine zt 4 ?_;refine zt 5 ?_;refine zt 6 ?_;refine zt 8 ?_;refine zt 9 ?_;refine zt 10 ?_;refine zt 11 ?_;refine zt 12 ?_;refine zt 13 ?_;refine zt 14 ?_;refine zt 15 ?_;refine zt 16 ?_;refine zt 17 ?_;refine zt 18 ?_;refine zt 19 ?_;refine zc 7 (fun K hK=> ?_);go_simp;refine(CP.out _ hHeld.2.2.2.2.out.1).mono ?_;rintro e w5 ⟨rfl,hB5⟩;have hK5:=S0.out _ hHeld _ hB5;have hA5:At w5 N0 57 #[.int .i64 0, .int .i64 0, .int .i64 0, .int .u64 0, .int .u64 0, .slice none 0 0]:=(by first | exact hA6.below hB5 hA6.lt | exact HA0.out.below hB5 HA0.out.lt);have y0:=hA5.cell 0;have y1:=hA5.cell 1;have y2:=hA5.cell 2;have y3:=hA5.cell 3;have y4:=hA5.cell 4;have y5:=hA5.cell 5;have yf0:=hA5.free 0;have yf1:=hA5.free 1;have yf2:=hA5.free 2;have yf3:=hA5.free 3;have yf4:=hA5.free 4;have yf5:=hA5.free 5;simp only[List.getElem?_toArray,List.getElem?_cons_zero,List.getElem?_cons_succ]at y0 y1 y2 y3 y4 y5;refine hK.out _ _ ?_ (fun hHeld=> ?_)
 focus exact hK5
 clear hK K;refine zl ?_;refine zc 20 (fun K hK=> ?_);go_simp;refine(CC.out _ hHeld.2.2.2.2.out.1).mono ?_;rintro e w6 ⟨v',rfl,hS6,hB6,hF6⟩;obtain⟨va,vc,rfl,_⟩:=hS6.cap_;have hne6: ∀ k,(Value.slice va f.segs.length vc).ownBlock=some k→some N0≠some k:=(fun k hk e=>(by cases e;have q1:=hF6 _ hk;have q2:=hHeld.2.2.2.2.out.2;omega));have hK6:=S0.out _ hHeld _ hB6;have hA6:At w6 N0 57 #[.int .i64 0, .int .i64 0, .int .i64 0, .int .u64 0, .int .u64 0, .slice none 0 0]:=(by first | exact hA5.below hB6 hA5.lt | exact HA0.out.below hB6 HA0.out.lt);have y0:=hA6.cell 0;have y1:=hA6.cell 1;have y2:=hA6.cell 2;have y3:=hA6.cell 3;have y4:=hA6.cell 4;have y5:=hA6.cell 5;have yf0:=hA6.free 0;have yf1:=hA6.free 1;have yf2:=hA6.free 2;have yf3:=hA6.free 3;have yf4:=hA6.free 4;have yf5:=hA6.free 5;simp only[List.getElem?_toArray,List.getElem?_cons_zero,List.getElem?_cons_succ]at y0 y1 y2 y3 y4 y5;refine hK.out _ _ ?_ (fun hHeld=> ?_);focus exact hK6
 clear hK K;refine zl ?_;refine zt 21 ?_;refine zc 22 (fun K hK=> ?_);go_simp;refine hK.out _ _ ?_ (fun hHeld=> ?_);focus exact KS.out _ _ _ hHeld
 clear hK K;refine zl ?_;refine zt 23 ?_;refine dnZ ?_;refine q_named (fun W=>(W.cell? ⟨N0,0,none⟩=some (.int .i64 (s:Nat))∧W.cell? ⟨N0,1,none⟩=some (.int .i64 f.credit)∧W.cell? ⟨N0,2,none⟩=some (.int .i64 (pl:Nat))∧W.cell? ⟨N0,3,none⟩=some (.int .u64 (f.next:Nat))∧W.cell? ⟨N0,4,none⟩=some (.int .u64 (f.since:Nat))∧W.cell? ⟨N0,5,none⟩=some (.slice va f.segs.length vc))∧Rd W (.slice va f.segs.length vc) 5 f.segs.length (f.segs.flatMap sgl)∧Below w.heap.size w W) (by first | exact FIN.out w6 va vc hA6 hS6.rd hne6 hK6 | exact FIN.out w5 va vc hA5 (hS6.below hB5).rd hne6 hK5) (fun W hW=> ?_);obtain⟨⟨d0,d1,d2,d3,d4,d5⟩,hR,hBW⟩:=hW;have D0:=zH d0;have D1:=zH d1;have D2:=zH d2;have D3:=zH d3;have D4:=zH d4;have D5:=zH d5;have HR:=zH hR;have HBW:=zH hBW;clear d0 d1 d2 d3 d4 d5 hR hBW;go_wp2_with fail
 refine bodyPost_ret (v:= .tuple #[.agg #[.int .i64 s, .int .i64 f.credit, .int .i64 (pl:Nat), .int .u64 f.next, .int .u64 f.since, .slice va f.segs.length vc], .bool true]) ?_ rfl ⟨_,rfl,HR.out,HBW.out⟩;simp[results,Tryz.f39,go_sem,D0.out,D1.out,D2.out,D3.out,D4.out,D5.out]
end
section
open Go.RowKit Go.Lib
theorem set6 {w:World} {N:Nat} {t:TypeId} {a0 a1 a2 a3 a4 a5:Value} (h:At w N t #[a0,a1,a2,a3,a4,a5]) (v0 v1 v2 v3 v4 v5:Value):
  Put w ((((((w.setCell ⟨N,0,none⟩ v0).setCell ⟨N,1,none⟩ v1).setCell ⟨N,2,none⟩ v2).setCell ⟨N,3,none⟩ v3).setCell ⟨N,4,none⟩ v4).setCell ⟨N,5,none⟩ v5) N t #[v0,v1,v2,v3,v4,v5]:=by
 have A:=((((((h.set (u:=v0) 0).set (u:=v1) 1).set (u:=v2) 2).set (u:=v3) 3).set (u:=v4) 4).set (u:=v5) 5);simp only[List.setIfInBounds_toArray,List.set_cons_zero,List.set_cons_succ]at A;exact⟨A,((((((grown_set w N 0 v0).trans (grown_set _ N 1 v1)).trans (grown_set _ N 2 v2)).trans (grown_set _ N 3 v3)).trans (grown_set _ N 4 v4)).trans (grown_set _ N 5 v5))⟩
theorem At.c6 {w:World} {N:Nat} {t:TypeId} {a0 a1 a2 a3 a4 a5:Value} (h:At w N t #[a0,a1,a2,a3,a4,a5]):w.cell? ⟨N,0,none⟩=some a0∧w.cell? ⟨N,1,none⟩=some a1∧w.cell? ⟨N,2,none⟩=some a2∧w.cell? ⟨N,3,none⟩=some a3∧w.cell? ⟨N,4,none⟩=some a4∧w.cell? ⟨N,5,none⟩=some a5∧ ∀ i,w.frozen? ⟨N,i,none⟩=false:=
 ⟨h.cell 0,h.cell 1,h.cell 2,h.cell 3,h.cell 4,h.cell 5,fun i=>h.free i⟩
end
section
open Go.RowKit Go.Lib
theorem fqflow_any (b s:Nat) (hs:s<8) (fp:Nat→Option Nat) (bl bt:Nat) (q:FQ) (hi:q.inv) (g:Nat→Nat) (T:Nat) (hT0:0<T) (w:World) (hT:Tidy w g) (h:FqIn w g T b fp bl bt q):
  Calls Tryz.prog 39 #[.pointer (some ⟨b,0,none⟩), .int .i64 s] w fun e w'=> ∃ v' z c p n t,e= .returned (.tuple #[.agg #[.int .i64 (z:Nat), .int .i64 c, .int .i64 (p:Nat), .int .u64 (n:Nat), .int .u64 (t:Nat),v'], .bool (q.fl s).isSome])∧Rd w' v' 5 (flSegs (q.fl s)).length ((flSegs (q.fl s)).flatMap sgl)∧Below w.heap.size w w'∧(∀ f,q.fl s=some f→n=f.next):=by
 cases hf:q.fl s with
 | none=>
  refine(fqflow_none b s hs fp bl bt q hf g T w h).mono ?_;rintro e w' ⟨rfl,hB⟩;exact⟨.slice none 0 0,0,0,0,0,0,rfl,⟨rfl, .inl ⟨⟨_,_,rfl⟩,rfl⟩⟩,hB,fun f hf=>by cases hf⟩
 | some f=>
  refine(fqflow_some b s hs fp bl bt q hi f hf g T hT0 w hT h).mono ?_;rintro e w' ⟨v',rfl,hR,hB⟩;exact⟨v',s,f.credit,placeQ q s,f.next,f.since,rfl,hR,hB,fun f' hf'=>by cases hf';rfl⟩
theorem mcflow_any (b s:Nat) (hs:s<8) (pc:Nat) (sp:Nat→Option Nat) (pq pl:Nat) (fp:Nat→Option Nat) (bl bt:Nat) (m:MC) (hm:m.ok) (g:Nat→Nat) (T:Nat) (hT0:0<T) (w:World) (hT:Tidy w g) (h:McIn w g T b pc sp pq pl fp bl bt m):
  Calls Tryz.prog 19 #[.pointer (some ⟨b,0,none⟩), .int .i64 s] w fun e w'=> ∃ v' z c p n t,e= .returned (.tuple #[.agg #[.int .i64 (z:Nat), .int .i64 c, .int .i64 (p:Nat), .int .u64 (n:Nat), .int .u64 (t:Nat),v'], .bool (m.q.fl s).isSome])∧Rd w' v' 5 (flSegs (m.q.fl s)).length ((flSegs (m.q.fl s)).flatMap sgl)∧Below w.heap.size w w'∧(∀ f,m.q.fl s=some f→n=f.next):=by
 obtain⟨N0,e0⟩: ∃ z,w.heap.size=z:=⟨_,rfl⟩;have CF:=zH (fun w' hB hT'=>fqflow_any pq s hs fp bl bt m.q hm.q g (T+3) (by omega) w' hT' (h.below (w':=w') hB).q);have cq:(w.alloc (.cells #[.int .i64 0, .int .i64 0, .int .i64 0, .int .u64 0, .int .u64 0, .slice none 0 0] 57)).cell? ⟨b,18,none⟩=some (.pointer (some ⟨pq,0,none⟩)):=(h.below ((Below.refl _ w).alloc (Nat.le_refl _) _)).own.1.cell 18;have c18:=h.own.1.ce 18;have hbN:b<w.heap.size:=h.own.1.lt;have HT:=zH hT;clear h hT;go_enter Tryz.func19,Tryz.ntmps19
 go_wp2_with fail
 refine(CF.out _ ((Below.refl _ w).alloc (Nat.le_refl _) _) (HT.out.alloc _)).mono ?_;rintro e w1 ⟨v',z,c,p,n,t,rfl,hR,hB,hn⟩;have A1:At w1 N0 57 #[.int .i64 0, .int .i64 0, .int .i64 0, .int .u64 0, .int .u64 0, .slice none 0 0]:=(show At _ N0 _ _ by rw[←e0];exact At.made w _ _).below hB (by rw[←e0];simp);have hB2:=((Below.refl w.heap.size w).alloc (Nat.le_refl _) (.cells #[.int .i64 0, .int .i64 0, .int .i64 0, .int .u64 0, .int .u64 0, .slice none 0 0] 57)).trans (hB.mono (by simp));obtain⟨y0,y1,y2,y3,y4,y5,yf⟩:=A1.c6;obtain⟨a,cap,rfl⟩:=hR.cap_;have HA:=zH A1;have HB:=zH hB2;have HR:=zH hR;have HN:=zH hn;clear hB hB2 A1 hR CF hn cq;obtain⟨nn,enn⟩: ∃ z,(flSegs (m.q.fl s)).length=z:=⟨_,rfl⟩;obtain⟨qq,eqq⟩: ∃ z,(m.q.fl s).isSome=z:=⟨_,rfl⟩;have HE:=zH (And.intro enn eqq);rw[enn,eqq];clear enn eqq;go_wp2_with fail
 have P:=set6 HA.out (.int .i64 z) (.int .i64 c) (.int .i64 p) (.int .u64 n) (.int .u64 t) (.slice a nn cap);obtain⟨d0,d1,d2,d3,d4,d5,_⟩:=P.1.c6;obtain⟨enn,eqq⟩:=HE.out;refine bodyPost_ret (v:= .tuple #[.agg #[.int .i64 z, .int .i64 c, .int .i64 p, .int .u64 n, .int .u64 t, .slice a nn cap], .bool qq]) ?_ rfl ⟨.slice a nn cap,z,c,p,n,t,by rw[eqq], ?_,HB.out.grown P.2 HB.out.size (fun k hk=>by cases hk;omega),HN.out⟩
 ·simp[results,Tryz.f19,go_sem,d0,d1,d2,d3,d4,d5]
 ·have hR:=HR.out
  rw[enn]at hR ⊢;exact hR.aside enn HA.out rfl P.2
end
section
open Go.RowKit Go.Lib
def cr0:CR:=⟨0,0,0,0,0,0,false,0,0⟩
def pulD:DD:=⟨6,0,0,0,0,[],cr0⟩
theorem pulD_ok:pulD.ok:=⟨by decide,by decide,by decide,by decide,by decide,by decide⟩
theorem do_pul (m:MC):doF m pulD=(0,{ m with q:=(deqR m.q m.now m.rt).2 },pullO (deqR m.q m.now m.rt) ou0):=by
 unfold doF;rw[if_neg (show ¬ pulD.kind=5 from(by decide: ¬(6:Int)=5)),if_pos (show pulD.kind=6 from rfl)]
end
section
open Go.RowKit Go.Lib
section
variable {w w':World} {g g':Nat→Nat} {T b:Nat} {m:MC} {n:Nat}
theorem flow_at (hm:m.okn n) {s:Nat} (hs:s<8) (hT0:0<T) (hT:Tidy w g) (h:McAt w g T b m):
  Calls Tryz.prog 19 #[.pointer (some ⟨b,0,none⟩), .int .i64 s] w fun e w'=> ∃ a c z cr p n t,e= .returned (.tuple #[.agg #[.int .i64 (z:Nat), .int .i64 cr, .int .i64 (p:Nat), .int .u64 (n:Nat), .int .u64 (t:Nat), .slice a (flSegs (m.q.fl s)).length c], .bool (m.q.fl s).isSome])∧Rd w' (.slice a (flSegs (m.q.fl s)).length c) 5 (flSegs (m.q.fl s)).length ((flSegs (m.q.fl s)).flatMap sgl)∧Below w.heap.size w w'∧ ∀ f,m.q.fl s=some f→n=f.next:=by
 obtain⟨pc,sp,pq,pl,fp,bl,bt,h⟩:=h;refine(mcflow_any b s hs pc sp pq pl fp bl bt m hm.ok g T hT0 w hT h).mono ?_;rintro e w' ⟨v',z,c,p,n,t,rfl,hR,hB,hn⟩;obtain⟨a,cc,rfl⟩:=hR.cap_;exact⟨a,cc,z,c,p,n,t,rfl,hR,hB,hn⟩
theorem McAt.rise (h:McAt w g T b m):m.q.waits.Pairwise klt:=by
 obtain⟨pc,sp,pq,pl,fp,bl,bt,h⟩:=h;obtain⟨_,_,_,_,_,_,_,_,_,h1⟩:=h.q.tr;exact h1.rise
end
end
section
open Go.RowKit Go.Lib
def SameT (a b:Nat→Option FL):Prop:= ∀ s,(∀ f,a s=some f→ ∃ f',b s=some f'∧f'.segs=f.segs∧f'.next=f.next)∧ ∀ f',b s=some f'→ ∃ f,a s=some f∧f'.segs=f.segs∧f'.next=f.next
theorem SameT.refl (a:Nat→Option FL):SameT a a:=fun s=>⟨fun f h=>⟨f,h,rfl,rfl⟩,fun f h=>⟨f,h,rfl,rfl⟩⟩
theorem SameT.put_ {a b:Nat→Option FL} (h:SameT a b) {s:Nat} {f f':FL} (hf:b s=some f) (h1:f'.segs=f.segs) (h2:f'.next=f.next):SameT a (putF b s (some f')):=by
 intro k;by_cases e:k=s
 ·subst e
  refine⟨fun g hg=> ?_,fun g hg=> ?_⟩
  ·obtain⟨f2,e2,e3,e4⟩:=(h k).1 g hg
   rw[hf]at e2;cases e2
   exact⟨f',putF_at _ _ _,h1.trans e3,h2.trans e4⟩
  ·rw[putF_at]at hg
   cases hg
   obtain⟨f2,e2,e3,e4⟩:=(h k).2 f hf;exact⟨f2,e2,h1.trans e3,h2.trans e4⟩
 ·rw[putF_ne _ _ e]
  exact h k
theorem timeF_eq {f f':FL} (h1:f'.segs=f.segs) (h2:f'.next=f.next):timeF f'=timeF f:=by unfold timeF;rw[h1,h2]
theorem stepD_wk {q:FQ} (hi:q.inv) {now:Nat} {a:Nat→Option FL} (h:SameT a q.fl∧ ∀ k∈q.waits,now<k.1) {rt:Nat→Nat} {q':FQ} (hs:stepD q now rt= .inl q'):SameT a q'.fl∧ ∀ k∈q'.waits,now<k.1:=by
 unfold stepD at hs;cases hh:(lall q.fresh q.old).head? with
 | none=>rw[hh]at hs;cases hs
 | some sf=>
  obtain⟨s,fr⟩:=sf;obtain⟨f,hf⟩:=hi.there s (List.mem_append_left _ (head_mem hh));rw[hh]at hs;simp only at hs
  rw[hf]at hs;simp only at hs
  split at hs
  ·cases hs;exact⟨h.1.put_ hf rfl rfl,h.2⟩
  ·cases hsg:f.segs with
   | nil=>
    rw[hsg]at hs;simp only at hs
    split at hs
    ·cases hs;exact h
    ·cases hs;exact⟨h.1.put_ hf hsg.symm rfl,h.2⟩
   | cons x r=>
    rw[hsg]at hs;simp only at hs
    split at hs
    ·cases hs
     refine⟨h.1,fun k hk=> ?_⟩;rcases insK_mem.1 hk with rfl | hk
     ·assumption
     ·exact h.2 k hk
    ·cases hs
theorem klt_le {x y:KY} (h:klt x y):x.1≤y.1:=by unfold klt at h;omega
theorem due_late (now:Nat): ∀(l:List KY),l.Pairwise klt→ ∀ k∈l.drop (l.takeWhile (fun k=>decide (k.1≤now))).length,now<k.1
 | [],_,k,hk=>by simp at hk
 | x::r,hp,k,hk=>by
  obtain⟨h1,h2⟩:=List.pairwise_cons.1 hp;by_cases e:x.1≤now
  ·rw[List.takeWhile_cons_of_pos (by simpa using e)]at hk
   exact due_late now r h2 k hk
  ·rw[List.takeWhile_cons_of_neg (by simpa using e)]at hk
   rcases List.mem_cons.1 hk with rfl | hk
   ·omega
   ·have:=klt_le (h1 k hk);omega
def lsF (fl:Nat→Option FL):Nat→Nat×Bool
 | 0=>(0,false)
 | k+1=>match fl k with
  | none=>lsF fl k
  | some f=>if f.segs≠[]∧((lsF fl k).2=false∨timeF f<(lsF fl k).1)then(timeF f,true)else lsF fl k
theorem lsF_is (fl:Nat→Option FL): ∀ n,((lsF fl n).2=true→ ∃ s f,s<n∧fl s=some f∧f.segs≠[]∧timeF f=(lsF fl n).1)∧ ∀ s f,s<n→fl s=some f→f.segs≠[]→(lsF fl n).2=true∧(lsF fl n).1≤timeF f
 | 0=>⟨fun h=>(by cases h),fun s f h=>(by omega)⟩
 | n+1=>by
  obtain⟨i1,i2⟩:=lsF_is fl n;have up:(lsF fl n).2=true→ ∃ s f,s<n+1∧fl s=some f∧f.segs≠[]∧timeF f=(lsF fl n).1:=fun h=>by
   obtain⟨s,f,h1,h2⟩:=i1 h;exact⟨s,f,by omega,h2⟩
  cases hf:fl n with
  | none=>
   have e:lsF fl (n+1)=lsF fl n:=by
    show(match fl n with | none=>lsF fl n | some f=>_)=_
    rw[hf]
   rw[e];refine⟨up,fun s f hs h1 h2=> ?_⟩;by_cases es:s=n
   ·subst es;rw[hf]at h1;cases h1
   ·exact i2 s f (by omega) h1 h2
  | some f0=>
   have e:lsF fl (n+1)=if f0.segs≠[]∧((lsF fl n).2=false∨timeF f0<(lsF fl n).1)then(timeF f0,true)else lsF fl n:=by
    show(match fl n with | none=>lsF fl n | some f=>_)=_
    rw[hf]
   rw[e];by_cases hc:f0.segs≠[]∧((lsF fl n).2=false∨timeF f0<(lsF fl n).1)
   ·rw[if_pos hc]
    refine⟨fun _=>⟨n,f0,Nat.lt_succ_self _,hf,hc.1,rfl⟩,fun s f hs h1 h2=>⟨rfl, ?_⟩⟩;show timeF f0≤timeF f
    by_cases es:s=n
    ·subst es;rw[hf]at h1;cases h1;exact Nat.le_refl _
    ·obtain⟨j1,j2⟩:=i2 s f (by omega) h1 h2
     rcases hc.2 with h3 | h3
     ·rw[j1]at h3;cases h3
     ·omega
   ·rw[if_neg hc]
    refine⟨up,fun s f hs h1 h2=> ?_⟩;by_cases es:s=n
    ·subst es
     rw[hf]at h1;cases h1
     cases hb:(lsF fl s).2 with
     | false=>exact absurd ⟨h2, .inl hb⟩ hc
     | true=>exact⟨rfl,Nat.le_of_not_lt fun h3=>hc ⟨h2, .inr h3⟩⟩
    ·exact i2 s f (by omega) h1 h2
theorem all8 {q:FQ} (h:q.inv) {s:Nat} (hs:s∈q.all):s<8:=h.ok.lt s hs
theorem works {q:FQ} (hi:q.inv) {now:Nat} (hn:now<18446744073709551616) (rt:Nat→Nat) (h1:q.waits.Pairwise klt) (h2:(deqR q now rt).2.waits.Pairwise klt):
  (decide ((pullO (deqR q now rt) ou0).dep.length=1))=((lsF q.fl 8).2&&decide ((lsF q.fl 8).1≤now))∧(pullO (deqR q now rt) ou0).dog=(if((lsF q.fl 8).2&& !((lsF q.fl 8).2&&decide ((lsF q.fl 8).1≤now)))=true then max 1 (lsF q.fl 8).1 else 0)∧(pullO (deqR q now rt) ou0).dep.length≤1:=by
 obtain⟨l1,l2⟩:=lsF_is q.fl 8;have hi2:=dueI_inv hi (dueN q now);obtain⟨q0,h0,⟨hp,hw⟩,hs⟩:=deqN_ind (P:=fun q'=>SameT q.fl q'.fl∧ ∀ k∈q'.waits,now<k.1) hn (fun q1 q2 i1 hc h2=>stepD_wk i1 hc h2) _ _ _ hi2 ⟨SameT.refl _,due_late now q.waits h1⟩ (deqR_eq hi hn rt);rcases stepD_inr h0 hs with⟨e1,e2,e⟩ | ⟨s,f,x,r,hm,hs8,hf,hsg,hcr,ht,e⟩
 ·rw[e]at h2 ⊢
  have hall:q0.all=q0.waits.map (·.2):=by unfold FQ.all;rw[e1,e2];rfl
  have ed:(pullO (none,q0) ou0).dep=[]:=rfl;have eg:(pullO (none,q0) ou0).dog=dogF q0 0:=rfl;have late:(lsF q.fl 8).2=true→now<(lsF q.fl 8).1:=fun hb=>by
   obtain⟨s,f,hs8,hf,hne,ht⟩:=l1 hb;obtain⟨f',hf',e3,e4⟩:=(hp s).1 f hf;have hm:=h0.seg s f' hs8 hf' (by rw[e3];exact hne);rw[hall,List.mem_map]at hm;obtain⟨k,hk,rfl⟩:=hm;obtain⟨f2,hf2,_,h3⟩:=h0.wt k hk;rw[hf']at hf2;cases hf2
   have:=hw k hk;rw[h3,timeF_eq e3 e4,ht]at this;exact this
  rw[ed,eg];cases hb:(lsF q.fl 8).2 with
  | false=>
   refine⟨rfl, ?_,by simp⟩;rw[if_neg (by simp)];unfold dogF;split
   ·rfl
   ·rename_i k r hk
    obtain⟨f,hf,hne,_⟩:=h0.wt k (by rw[hk];simp);have hk8:k.2<8:=all8 h0 (by rw[hall,hk];simp);obtain⟨f0,hf0,e3,e4⟩:=(hp k.2).2 f hf;have:=(l2 k.2 f0 hk8 hf0 (by rw[←e3];exact hne)).1;rw[hb]at this;cases this
  | true=>
   have hl:=late hb;obtain⟨s,f,hs8,hf,hne,ht⟩:=l1 hb;obtain⟨f',hf',e3,e4⟩:=(hp s).1 f hf;have hm:=h0.seg s f' hs8 hf' (by rw[e3];exact hne);rw[hall,List.mem_map]at hm;obtain⟨j,hj,ej⟩:=hm;obtain⟨f2,hf2,_,h3⟩:=h0.wt j hj;rw[ej,hf']at hf2;cases hf2
   rw[timeF_eq e3 e4,ht]at h3;have hd:decide ((lsF q.fl 8).1≤now)=false:=by simp;omega
   rw[hd];refine⟨rfl, ?_,by simp⟩;rw[if_pos (by rfl)];unfold dogF;split
   ·rename_i hk;rw[hk]at hj;cases hj
   ·rename_i k r hk
    obtain⟨f3,hf3,hne3,h4⟩:=h0.wt k (by rw[hk];simp);have hk8:k.2<8:=all8 h0 (by rw[hall,hk];simp);obtain⟨f0,hf0,e5,e6⟩:=(hp k.2).2 f3 hf3;have a1:=(l2 k.2 f0 hk8 hf0 (by rw[←e5];exact hne3)).2;rw[←timeF_eq e5 e6,←h4]at a1;have a2:k.1≤j.1:=by
     rw[hk]at hj h2;rcases List.mem_cons.1 hj with rfl | hj
     ·exact Nat.le_refl _
     ·exact klt_le ((List.pairwise_cons.1 h2).1 j hj)
    omega
 ·rw[e]
  have ed:(pullO (some x,sendQ q0 s f x r now (rt s)) ou0).dep=[x]:=rfl;have eg:(pullO (some x,sendQ q0 s f x r now (rt s)) ou0).dog=0:=rfl;obtain⟨f0,hf0,e3,e4⟩:=(hp s).2 f hf;obtain⟨b1,b2⟩:=l2 s f0 hs8 hf0 (by rw[←e3,hsg];simp);rw[←timeF_eq e3 e4]at b2;have hd:decide ((lsF q.fl 8).1≤now)=true:=by simp;omega
  rw[ed,eg,b1,hd];exact⟨rfl,rfl,by simp⟩
end
end Go.Proofs.YtojgokiobdpclaaGreat
