import Derived.Test.YtojgokiobdpclaaGreatP22
namespace Go.Proofs.YtojgokiobdpclaaGreat
set_option linter.unusedVariables false
set_option linter.unusedSimpArgs false
set_option maxRecDepth 8000
set_option maxHeartbeats 8000000
section
open Go.RowKit Go.Lib
def mdv (s:BB):Value:= .agg #[.int .i64 (s.mode:Nat), .int .i64 (s.cp:Nat), .int .u64 (s.rate:Nat), .int .u64 (s.cwnd:Nat), .int .u64 (s.bw:Nat), .int .u64 (s.pr.best:Nat), .int .u64 (s.gain:Nat), .int .u64 (s.rn.n:Nat), .bool s.pp.full, .bool s.pl.use]
def mdv0:Value:= .agg #[.int .i64 0, .int .i64 0, .int .u64 0, .int .u64 0, .int .u64 0, .int .u64 0, .int .u64 0, .int .u64 0, .bool false, .bool false]
theorem cell_drew {X:World} {p:Addr} {v:Value} (h:X.cell? p=some v):X.drew.cell? p=some v:=h
theorem bstate_any (B:Nat) (s:BB) (w:World) (h:BbAt w B s):
  Calls Tryz.prog 50 #[.pointer (some ⟨B+6,0,none⟩)] w fun e w'=>e= .returned (mdv s)∧Below w.heap.size w w':=by
 obtain⟨N0,e0⟩: ∃ z,w.heap.size=z:=⟨_,rfl⟩;have hm:=h.m.lt;rw[e0]at hm;have HH:=zH h;have CB:=zH (fun w' hB=>bbw_any B s w' (h.below (w':=w') hB));have CP:=zH (fun w' hB=>best_any (B+4) s.pr w' (h.below (w':=w') hB).pr);have CG:=zH (fun w' hB=>bgain_any B s w' (h.below (w':=w') hB));have CC:=zH (fun w' hB=>rndcount_any (B+1) s.rn w' (h.below (w':=w') hB).rn);have CH:=zH (fun w' hB=>phase_any (B+3) s.cp s.cs w' (h.below (w':=w') hB).cy);have CF:=zH (fun w' hB=>full_any (B+2) s.pp w' (h.below (w':=w') hB).pp);have CU:=zH (fun w' hB=>bpol_any B s w' (h.below (w':=w') hB));unfold mdv;obtain⟨bw,ebw⟩: ∃ z,s.bw=z:=⟨_,rfl⟩;rw[ebw]at CB ⊢;obtain⟨gn,egn⟩: ∃ z,s.gain=z:=⟨_,rfl⟩;rw[egn]at CG ⊢;clear h ebw egn;go_enter Tryz.func50,Tryz.ntmps50
 go_upto_region 3 with fail
 refine wp_named (fun W=>At W N0 35 #[.int .i64 0, .int .i64 0, .int .u64 0, .int .u64 0, .int .u64 0, .int .u64 0, .int .u64 0, .int .u64 0, .bool false, .bool false]∧Below w.heap.size w W) ⟨by rw[←e0];exact At.made w _ _,(Below.refl _ w).alloc (Nat.le_refl _) _⟩ (fun W hW=> ?_);obtain⟨A,hB⟩:=hW;have M:=(HH.out.below hB).m;have c7:=M.ce 7;have c8:=M.ce 8;have c9:=M.ce 9;have c4:=M.ce 4;have c1:=M.ce 1;have c3:=M.ce 3;have c2:=M.ce 2;have A1:=((((((((((A.set (u:= .int .i64 (s.mode:Nat)) 0).set (u:= .int .i64 (s.cp:Nat)) 1).set (u:= .int .u64 (s.rate:Nat)) 2).set (u:= .int .u64 (s.cwnd:Nat)) 3).set (u:= .int .u64 (bw:Nat)) 4).set (u:= .int .u64 (s.pr.best:Nat)) 5).set (u:= .int .u64 (gn:Nat)) 6).set (u:= .int .u64 (s.rn.n:Nat)) 7).set (u:= .bool s.pp.full) 8).set (u:= .bool s.pl.use) 9);have d0:=A1.cell 0;have d1:=A1.cell 1;have d2:=A1.cell 2;have d3:=A1.cell 3;have d4:=A1.cell 4;have d5:=A1.cell 5;have d6:=A1.cell 6;have d7:=A1.cell 7;have d8:=A1.cell 8;have d9:=A1.cell 9;simp only[List.setIfInBounds_toArray,List.set_cons_zero,List.set_cons_succ,List.getElem?_toArray,List.getElem?_cons_zero,List.getElem?_cons_succ]at d0 d1 d2 d3 d4 d5 d6 d7 d8 d9;have G:=((((((((((grown_set W N0 0 (.int .i64 (s.mode:Nat))).trans (grown_set _ N0 1 (.int .i64 (s.cp:Nat)))).trans (grown_set _ N0 2 (.int .u64 (s.rate:Nat)))).trans (grown_set _ N0 3 (.int .u64 (s.cwnd:Nat)))).trans (grown_set _ N0 4 (.int .u64 (bw:Nat)))).trans (grown_set _ N0 5 (.int .u64 (s.pr.best:Nat)))).trans (grown_set _ N0 6 (.int .u64 (gn:Nat)))).trans (grown_set _ N0 7 (.int .u64 (s.rn.n:Nat)))).trans (grown_set _ N0 8 (.bool s.pp.full))).trans (grown_set _ N0 9 (.bool s.pl.use)))
 have D0:=zH (cell_drew d0);have D1:=zH (cell_drew d1);have D2:=zH (cell_drew d2);have D3:=zH (cell_drew d3);have D4:=zH (cell_drew d4);have D5:=zH (cell_drew d5);have D6:=zH (cell_drew d6);have D7:=zH (cell_drew d7);have D8:=zH (cell_drew d8);have D9:=zH (cell_drew d9);have HE:=zH (hB.grown G hB.size (fun k hk=>by cases hk;omega)).drew;have y0:=A.cell 0;have yf0:=A.free 0;have y1:=A.cell 1;have yf1:=A.free 1;have y2:=A.cell 2;have yf2:=A.free 2;have y3:=A.cell 3;have yf3:=A.free 3;have y4:=A.cell 4;have yf4:=A.free 4;have y5:=A.cell 5;have yf5:=A.free 5;have y6:=A.cell 6;have yf6:=A.free 6;have y7:=A.cell 7;have yf7:=A.free 7;have y8:=A.cell 8;have yf8:=A.free 8;have y9:=A.cell 9;have yf9:=A.free 9;simp only[List.getElem?_toArray,List.getElem?_cons_zero,List.getElem?_cons_succ]at y0 y1 y2 y3 y4 y5 y6 y7 y8 y9;have HB:=zH (hB.drew);clear A hB M A1 G d0 d1 d2 d3 d4 d5 d6 d7 d8 d9;refine wp_region_still_tail 39 (by kernel_rfl) (by kernel_rfl) ?_;simp only[List.take_succ_cons,List.take_zero,List.drop_succ_cons,List.drop_zero];iterate 13 still_step
 still_call (still0 (CB.out _ HB.out))
 iterate 4 still_step
 still_call (still0 (CP.out _ HB.out))
 iterate 1 still_step
 still_call (still0 (CG.out _ HB.out))
 iterate 4 still_step
 still_call (still0 (CC.out _ HB.out))
 iterate 4 still_step
 still_call (still0 (CH.out _ HB.out))
 iterate 4 still_step
 still_call (still0 (CF.out _ HB.out))
 iterate 1 still_step
 still_call (still0 (CU.out _ HB.out))
 repeat still_step
 try refine wpStill_nil ?_
 change wpList _ _ _ _ _ W.drew
 go_wp2_with fail
 refine q_named (fun W3=>(W3.cell? ⟨N0,0,none⟩=some (.int .i64 (s.mode:Nat))∧W3.cell? ⟨N0,1,none⟩=some (.int .i64 (s.cp:Nat))∧W3.cell? ⟨N0,2,none⟩=some (.int .u64 (s.rate:Nat))∧W3.cell? ⟨N0,3,none⟩=some (.int .u64 (s.cwnd:Nat))∧W3.cell? ⟨N0,4,none⟩=some (.int .u64 (bw:Nat))∧W3.cell? ⟨N0,5,none⟩=some (.int .u64 (s.pr.best:Nat))∧W3.cell? ⟨N0,6,none⟩=some (.int .u64 (gn:Nat))∧W3.cell? ⟨N0,7,none⟩=some (.int .u64 (s.rn.n:Nat))∧W3.cell? ⟨N0,8,none⟩=some (.bool s.pp.full)∧W3.cell? ⟨N0,9,none⟩=some (.bool s.pl.use))∧Below w.heap.size w W3) ⟨⟨D0.out,D1.out,D2.out,D3.out,D4.out,D5.out,D6.out,D7.out,D8.out,D9.out⟩, ?_⟩ (fun W3 hW=> ?_)
 ·exact HE.out
 obtain⟨⟨g0,g1,g2,g3,g4,g5,g6,g7,g8,g9⟩,hBW⟩:=hW;clear D0 D1 D2 D3 D4 D5 D6 D7 D8 D9 HE;refine bodyPost_ret (v:= .agg #[.int .i64 (s.mode:Nat), .int .i64 (s.cp:Nat), .int .u64 (s.rate:Nat), .int .u64 (s.cwnd:Nat), .int .u64 (bw:Nat), .int .u64 (s.pr.best:Nat), .int .u64 (gn:Nat), .int .u64 (s.rn.n:Nat), .bool s.pp.full, .bool s.pl.use]) ?_ rfl ⟨rfl,hBW⟩;simp[results,Tryz.f50,go_sem,g0,g1,g2,g3,g4,g5,g6,g7,g8,g9]
end
end Go.Proofs.YtojgokiobdpclaaGreat
