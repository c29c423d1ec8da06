import Derived.Test.YtojgokiobdpclaaGreatP26
import Derived.Test.YtojgokiobdpclaaGreatP29
namespace Go.Proofs.YtojgokiobdpclaaGreat
set_option linter.unusedVariables false
set_option linter.unusedSimpArgs false
set_option maxRecDepth 8000
set_option maxHeartbeats 8000000
section
open Go.RowKit Go.Lib
def newB0 (m:Nat):BB:=⟨⟨10,0,0,0,0,0,0,0⟩,⟨0,0⟩,⟨0,0,false⟩,0,0,⟨0,0,false,0,false⟩,pol0,m,0,0,0,0,false,false,0⟩
def newB (m:Nat):BB:={ newB0 m with cwnd:=10*m,rate:=trate (10000*m) 739 }
theorem bnew_any (m:Nat) (h1:100≤m) (h2:m≤9000) (w:World):
  Calls Tryz.prog 95 #[.int .u64 m] w fun e w'=>e= .returned (.pointer (some ⟨w.heap.size+6,0,none⟩))∧BbAt w' w.heap.size (newB m)∧Below w.heap.size w w':=by
 obtain⟨B,eB⟩: ∃ z,w.heap.size=z:=⟨_,rfl⟩;have em:max (m:Int) 100=((m:Nat):Int):=by omega
 have en:min (m:Int) 9000=((m:Nat):Int):=by omega
 obtain⟨c,hc⟩: ∃ z,10*m=z:=⟨_,rfl⟩;obtain⟨c2,hc2⟩: ∃ z,10000*m=z:=⟨_,rfl⟩;have ew:IntKind.u64.wrap (10*(m:Int))=(c:Int):=by rw[show 10*(m:Int)=(c:Int)from by omega];exact wrapu_of _ (by omega)
 have ew2:IntKind.u64.wrap ((c:Int)*1000)=(c2:Int):=by rw[show(c:Int)*1000=(c2:Int)from by omega];exact wrapu_of _ (by omega)
 have CR:=zH (fun w'=>rate_any c2 739 (by omega) (by decide) w');unfold newB;rw[hc,hc2,eB];obtain⟨rt,hrt⟩: ∃ z,trate c2 739=z:=⟨_,rfl⟩;rw[hrt]at CR ⊢;clear hc hc2 hrt;go_enter Tryz.func95,Tryz.ntmps95
 go_wp2_with fail
 refine(wmnew_any 10 _).mono ?_;rintro e w1 ⟨rfl,rfl⟩;go_wp2_with fail
 refine(rndnew_any _).mono ?_;rintro e w1 ⟨rfl,rfl⟩;go_wp2_with fail
 refine(ppnew_any _).mono ?_;rintro e w1 ⟨rfl,rfl⟩;go_wp2_with fail
 refine(new_any _).mono ?_;rintro e w1 ⟨rfl,rfl⟩;go_wp2_with fail
 refine(pnew_any _).mono ?_;rintro e w1 ⟨rfl,rfl⟩;go_wp2_with fail
 refine(polnew_any _).mono ?_;rintro e w1 ⟨rfl,rfl⟩;go_upto_region 3 with fail
 refine wp_named (fun W=>BbAt W B (newB0 m)∧Below w.heap.size w W) ⟨?_, ?_⟩ (fun W hW=> ?_)
 ·refine⟨?_, ?_, ?_, ?_, ?_, ?_, ?_⟩
  ·exact((((((At.mk1 _ _ (by simp[eB])).al _).al _).al _).al _).al _).al _
  ·exact(((((At.mk1 _ _ (by simp[eB])).al _).al _).al _).al _).al _
  ·exact((((At.mk1 _ _ (by simp[eB])).al _).al _).al _).al _
  ·exact(((At.mk1 _ _ (by simp[eB])).al _).al _).al _
  ·exact((At.mk1 _ _ (by simp[eB])).al _).al _
  ·exact(At.mk1 _ _ (by simp[eB])).al _
  ·exact At.mk1 _ _ (by simp[eB])
 ·exact(((((((Below.refl _ w).alloc (Nat.le_refl _) _).alloc (by simp) _).alloc (by simp;omega) _).alloc (by simp;omega) _).alloc (by simp;omega) _).alloc (by simp;omega) _).alloc (by simp;omega) _
 obtain⟨X,hB⟩:=hW;have c9:=X.m.ce 9;have f9:=X.m.free 9;have Y:=X.putm (s':={ newB0 m with cwnd:=c }) (Put.set (u:= .int .u64 (c:Nat)) X.m 9) rfl rfl rfl rfl rfl rfl rfl;have HY:=zH Y.1;have HB:=zH (hB.setCell (p:=⟨B+6,9,none⟩) (by show w.heap.size≤B+6;omega) (.int .u64 (c:Nat)));clear X hB Y;go_upto_region 4 with fail
 refine wp_named (fun W=>BbAt W B { newB0 m with cwnd:=c }∧Below w.heap.size w W) ⟨HY.out,HB.out⟩ (fun W4 hW=> ?_);obtain⟨X,hB⟩:=hW;clear HY HB c9 f9 ew em en;have c9:=X.m.ce 9;have HX:=zH X;have HB:=zH hB;clear X hB;go_wp2_with fail
 refine(CR.out _).mono ?_;rintro e w5 ⟨rfl,hB5⟩;have X:=HX.out.below hB5;have c8:=X.m.ce 8;have f8:=X.m.free 8;have Y:=X.putm (s':={ newB0 m with cwnd:=c,rate:=rt }) (Put.set (u:= .int .u64 (rt:Nat)) X.m 8) rfl rfl rfl rfl rfl rfl rfl;have HY:=zH Y.1;have HB2:=zH ((HB.out.trans (hB5.mono HB.out.size)).setCell (p:=⟨B+6,8,none⟩) (by show w.heap.size≤B+6;omega) (.int .u64 (rt:Nat)));clear X Y hB5;go_wp2_with fail
 go_ret
 refine⟨rfl,HY.out, ?_⟩;have:=HB2.out;rw[eB]at this;exact this
end
section
open Go.RowKit Go.Lib
structure SK where
 id:Nat
 mss:Nat
 most:Nat
 bf:BF
 pcs:List PC
 e:Nat
 sa:SA
 bb:BB
 out:Nat
 at_:Nat
def ska (k:SK) (pb pd ps B:Nat):Array Value:= #[.int .i64 k.id, .int .i64 k.mss, .int .i64 k.most, .pointer (some ⟨pb,0,none⟩), .pointer (some ⟨pd,0,none⟩), .pointer (some ⟨ps,0,none⟩), .pointer (some ⟨B+6,0,none⟩), .int .u64 k.out, .int .u64 k.at_]
structure SkIn (w:World) (g:Nat→Nat) (T b pb pd ps B:Nat) (k:SK):Prop where
 own:Of w g T b 124 (ska k pb pd ps B)
 bf:Of w g (T+1) pb 195 (buf k.bf)
 bd:BdAt w g (T+2) pd k.pcs k.e
 sa:Of w g (T+4) ps 224 (sam k.sa)
 bb:BbAt w B k.bb
 bt: ∀ i,i≤6→g (B+i)=T+5
theorem bdnew_any (w:World):
  Calls Tryz.prog 93 #[] w fun e w'=>e= .returned (.pointer (some ⟨w.heap.size,0,none⟩))∧w'=w.alloc (.cells #[.slice none 0 0, .int .u64 0] 220):=by
 go_enter Tryz.func93,Tryz.ntmps93
 go_wp2;go_ret
 exact⟨rfl,rfl⟩
section
variable {w w':World} {g g':Nat→Nat} {T b pb pd ps B lo hi:Nat} {k:SK}
theorem BbAt.chg {s:BB} (h:BbAt w B s) (c:Chg w w' g g' lo hi) (ht: ∀ i,i≤6→g (B+i)<lo∨hi≤g (B+i)):BbAt w' B s:=
 ⟨h.wm.chg c (ht 0 (by omega)),h.rn.chg c (ht 1 (by omega)),h.pp.chg c (ht 2 (by omega)),h.cy.chg c (ht 3 (by omega)),h.pr.chg c (ht 4 (by omega)),h.pl.chg c (ht 5 (by omega)),h.m.chg c (ht 6 (by omega))⟩
theorem SkIn.below (h:SkIn w g T b pb pd ps B k) (hb:Below w.heap.size w w'):SkIn w' g T b pb pd ps B k:=
 ⟨h.own.below hb,h.bf.below hb,h.bd.below hb,h.sa.below hb,h.bb.below hb,h.bt⟩
theorem SkIn.chg (h:SkIn w g T b pb pd ps B k) (c:Chg w w' g g' lo hi) (h1:T+6≤lo∨hi≤T):SkIn w' g' T b pb pd ps B k:=
 ⟨h.own.chg c (by omega),h.bf.chg c (by omega),h.bd.chg c (by omega),h.sa.chg c (by omega),h.bb.chg c (fun i hi'=>by rw[h.bt i hi'];omega),fun i hi'=>by
  have hlt:B+i<w.heap.size:=Nat.lt_of_le_of_lt (by omega) h.bb.m.lt;rw[c.old _ hlt];exact h.bt i hi'⟩
end
theorem skout_any (b pb pd ps B:Nat) (k:SK) (g:Nat→Nat) (T:Nat) (w:World) (h:SkIn w g T b pb pd ps B k):
  Calls Tryz.prog 40 #[.pointer (some ⟨b,0,none⟩)] w fun e w'=>e= .returned (.int .u64 k.out)∧w=w':=by
 have c7:=h.own.1.ce 7;clear h;go_enter Tryz.func40,Tryz.ntmps40
 go_wp2_with fail
 go_ret
 exact⟨rfl,rfl⟩
theorem skuns_any (b pb pd ps B:Nat) (k:SK) (hk:k.bf.ok) (g:Nat→Nat) (T:Nat) (w:World) (h:SkIn w g T b pb pd ps B k):
  Calls Tryz.prog 42 #[.pointer (some ⟨b,0,none⟩)] w fun e w'=>e= .returned (.int .u64 (k.bf.wr-k.bf.tk:Nat))∧Below w.heap.size w w':=by
 have c3:=h.own.1.ce 3;have CU:=zH (unsent_any pb k.bf hk w h.bf.1);clear h;go_enter Tryz.func42,Tryz.ntmps42
 go_wp2_with fail
 refine CU.out.mono ?_;rintro e w1 ⟨rfl,hD⟩;have HD:=zH hD;clear hD;go_wp2_with fail
 go_ret
 exact⟨rfl,HD.out.below⟩
end
section
open Go.RowKit Go.Lib
theorem Bbd.chg {w w':World} {g:Nat→Nat} {B T:Nat} (h:Bbd B w w') (hT:Tidy w g) (ht: ∀ i,i≤6→g (B+i)=T):Chg w w' g g T (T+1):=
 ⟨h.os,h.tape,h.output,h.size,fun b hb=>hT b (Nat.le_trans h.size hb),fun _ _=>rfl,fun b hb hn=>h.block b hb (by
  by_cases h1:b<B
  ·exact .inl h1
  ·by_cases h2:B+6<b
   ·exact .inr h2
   ·exfalso
    have:=ht (b-B) (by omega);rw[show B+(b-B)=b from by omega]at this;omega)⟩
theorem skfl_any (b pb pd ps B:Nat) (k:SK) (hl:k.pcs.length≤5000) (g:Nat→Nat) (T:Nat) (w:World) (h:SkIn w g T b pb pd ps B k):
  Calls Tryz.prog 41 #[.pointer (some ⟨b,0,none⟩)] w fun e w'=>e= .returned (.int .u64 (flSum k.pcs))∧Below w.heap.size w w':=by
 have c4:=h.own.1.ce 4;have CU:=zH (bdflight_any pd k.e k.pcs hl g (T+2) w h.bd);clear h;go_enter Tryz.func41,Tryz.ntmps41
 go_wp2_with fail
 refine CU.out.mono ?_;rintro e w1 ⟨rfl,hB⟩;have HB:=zH hB;clear hB;go_wp2_with fail
 go_ret
 exact⟨rfl,HB.out⟩
end
section
open Go.RowKit Go.Lib
theorem skmodel_any (b pb pd ps B:Nat) (k:SK) (g:Nat→Nat) (T:Nat) (w:World) (h:SkIn w g T b pb pd ps B k):
  Calls Tryz.prog 30 #[.pointer (some ⟨b,0,none⟩)] w fun e w'=>e= .returned (mdv k.bb)∧Below w.heap.size w w':=by
 obtain⟨N0,e0⟩: ∃ z,w.heap.size=z:=⟨_,rfl⟩;have hb:=h.own.1.lt;rw[e0]at hb;have c6:=h.own.1.ce 6;have CM:=zH (fun w' hB=>bstate_any B k.bb w' (h.bb.below (w':=w') hB));obtain⟨u,eu⟩: ∃ z,k.bb=z:=⟨_,rfl⟩;rw[eu]at CM ⊢;unfold mdv at CM ⊢;obtain⟨ubw,eubw⟩: ∃ z,u.bw=z:=⟨_,rfl⟩;rw[eubw]at CM ⊢;obtain⟨ugn,eugn⟩: ∃ z,u.gain=z:=⟨_,rfl⟩;rw[eugn]at CM ⊢;clear h eu eubw eugn;go_enter Tryz.func30,Tryz.ntmps30
 go_wp2_with fail
 refine(CM.out _ ((Below.refl _ w).alloc (Nat.le_refl _) _)).mono ?_;rintro e w1 ⟨rfl,hB⟩;have HZ:At w1 N0 35 #[.int .i64 0, .int .i64 0, .int .u64 0, .int .u64 0, .int .u64 0, .int .u64 0, .int .u64 0, .int .u64 0, .bool false, .bool false]:=by rw[←e0];exact(At.made w _ _).below hB (At.made w _ _).lt
 have hB2:=((Below.refl w.heap.size w).alloc (Nat.le_refl _) (.cells #[.int .i64 0, .int .i64 0, .int .u64 0, .int .u64 0, .int .u64 0, .int .u64 0, .int .u64 0, .int .u64 0, .bool false, .bool false] 35)).trans (hB.mono (by simp));have y0:=HZ.cell 0;have yf0:=HZ.free 0;have y1:=HZ.cell 1;have yf1:=HZ.free 1;have y2:=HZ.cell 2;have yf2:=HZ.free 2;have y3:=HZ.cell 3;have yf3:=HZ.free 3;have y4:=HZ.cell 4;have yf4:=HZ.free 4;have y5:=HZ.cell 5;have yf5:=HZ.free 5;have y6:=HZ.cell 6;have yf6:=HZ.free 6;have y7:=HZ.cell 7;have yf7:=HZ.free 7;have y8:=HZ.cell 8;have yf8:=HZ.free 8;have y9:=HZ.cell 9;have yf9:=HZ.free 9;simp only[List.getElem?_toArray,List.getElem?_cons_zero,List.getElem?_cons_succ]at y0 y1 y2 y3 y4 y5 y6 y7 y8 y9;have A1:=((((((((((HZ.set (u:= .int .i64 (u.mode:Nat)) 0).set (u:= .int .i64 (u.cp:Nat)) 1).set (u:= .int .u64 (u.rate:Nat)) 2).set (u:= .int .u64 (u.cwnd:Nat)) 3).set (u:= .int .u64 (ubw:Nat)) 4).set (u:= .int .u64 (u.pr.best:Nat)) 5).set (u:= .int .u64 (ugn:Nat)) 6).set (u:= .int .u64 (u.rn.n:Nat)) 7).set (u:= .bool u.pp.full) 8).set (u:= .bool u.pl.use) 9);have d0:=A1.cell 0;have d1:=A1.cell 1;have d2:=A1.cell 2;have d3:=A1.cell 3;have d4:=A1.cell 4;have d5:=A1.cell 5;have d6:=A1.cell 6;have d7:=A1.cell 7;have d8:=A1.cell 8;have d9:=A1.cell 9;simp only[List.setIfInBounds_toArray,List.set_cons_zero,List.set_cons_succ,List.getElem?_toArray,List.getElem?_cons_zero,List.getElem?_cons_succ]at d0 d1 d2 d3 d4 d5 d6 d7 d8 d9
 have G:=((((((((((grown_set w1 N0 0 (.int .i64 (u.mode:Nat))).trans (grown_set _ N0 1 (.int .i64 (u.cp:Nat)))).trans (grown_set _ N0 2 (.int .u64 (u.rate:Nat)))).trans (grown_set _ N0 3 (.int .u64 (u.cwnd:Nat)))).trans (grown_set _ N0 4 (.int .u64 (ubw:Nat)))).trans (grown_set _ N0 5 (.int .u64 (u.pr.best:Nat)))).trans (grown_set _ N0 6 (.int .u64 (ugn:Nat)))).trans (grown_set _ N0 7 (.int .u64 (u.rn.n:Nat)))).trans (grown_set _ N0 8 (.bool u.pp.full))).trans (grown_set _ N0 9 (.bool u.pl.use)));have HE:=zH (hB2.grown G hB2.size (fun k hk=>by cases hk;omega));have D0:=zH d0;have D1:=zH d1;have D2:=zH d2;have D3:=zH d3;have D4:=zH d4;have D5:=zH d5;have D6:=zH d6;have D7:=zH d7;have D8:=zH d8;have D9:=zH d9;clear HZ A1 G hB hB2 d0 d1 d2 d3 d4 d5 d6 d7 d8 d9;go_wp2_with fail
 refine q_named (fun W3=>(W3.cell? ⟨N0,0,none⟩=some (.int .i64 (u.mode:Nat))∧W3.cell? ⟨N0,1,none⟩=some (.int .i64 (u.cp:Nat))∧W3.cell? ⟨N0,2,none⟩=some (.int .u64 (u.rate:Nat))∧W3.cell? ⟨N0,3,none⟩=some (.int .u64 (u.cwnd:Nat))∧W3.cell? ⟨N0,4,none⟩=some (.int .u64 (ubw:Nat))∧W3.cell? ⟨N0,5,none⟩=some (.int .u64 (u.pr.best:Nat))∧W3.cell? ⟨N0,6,none⟩=some (.int .u64 (ugn:Nat))∧W3.cell? ⟨N0,7,none⟩=some (.int .u64 (u.rn.n:Nat))∧W3.cell? ⟨N0,8,none⟩=some (.bool u.pp.full)∧W3.cell? ⟨N0,9,none⟩=some (.bool u.pl.use))∧Below w.heap.size w W3) ⟨⟨D0.out,D1.out,D2.out,D3.out,D4.out,D5.out,D6.out,D7.out,D8.out,D9.out⟩,HE.out⟩ (fun W3 hW=> ?_);obtain⟨⟨g0,g1,g2,g3,g4,g5,g6,g7,g8,g9⟩,hBW⟩:=hW;clear D0 D1 D2 D3 D4 D5 D6 D7 D8 D9 HE;refine bodyPost_ret (v:= .agg #[.int .i64 (u.mode:Nat), .int .i64 (u.cp:Nat), .int .u64 (u.rate:Nat), .int .u64 (u.cwnd:Nat), .int .u64 (ubw:Nat), .int .u64 (u.pr.best:Nat), .int .u64 (ugn:Nat), .int .u64 (u.rn.n:Nat), .bool u.pp.full, .bool u.pl.use]) ?_ rfl ⟨rfl,hBW⟩;simp[results,Tryz.f30,go_sem,g0,g1,g2,g3,g4,g5,g6,g7,g8,g9]
end
section
open Go.RowKit Go.Lib
def SK.tso (k:SK):Nat:=tsoF k.bb.rate k.mss
theorem sktso_any (b pb pd ps B:Nat) (k:SK) (hr:k.bb.rate<18446744073709551616) (h1:100≤k.mss) (h2:k.mss≤9000) (g:Nat→Nat) (T:Nat) (w:World) (h:SkIn w g T b pb pd ps B k):
  Calls Tryz.prog 43 #[.pointer (some ⟨b,0,none⟩)] w fun e w'=>e= .returned (.int .i64 k.tso)∧Below w.heap.size w w':=by
 have c6:=h.own.1.ce 6;have c1:=h.own.1.ce 1;have CM:=zH (bstate_any B k.bb w.drew (h.bb.drn ⟨1,rfl⟩));have CZ:=zH (fun w'=>size_any k.bb.rate k.mss hr h1 h2 w');unfold SK.tso;have HH:=zH h;unfold mdv at CM;have hF: ∀ w,(Instr.field 35 (.agg #[.int .i64 (k.bb.mode:Nat), .int .i64 (k.bb.cp:Nat), .int .u64 (k.bb.rate:Nat), .int .u64 (k.bb.cwnd:Nat), .int .u64 (k.bb.bw:Nat), .int .u64 (k.bb.pr.best:Nat), .int .u64 (k.bb.gain:Nat), .int .u64 (k.bb.rn.n:Nat), .bool k.bb.pp.full, .bool k.bb.pl.use]) 2).run Tryz.prog w= .ok (.int .u64 (k.bb.rate:Nat)) w:=fun _=>by kernel_rfl
 clear h hr h1 h2;go_enter Tryz.func43,Tryz.ntmps43
 go_upto_region 3 with fail
 refine wp_region_held_drew (S:=fun wq=>wq.cell? ⟨b,6,none⟩=some (.pointer (some ⟨B+6,0,none⟩))∧wq.cell? ⟨b,1,none⟩=some (.int .i64 k.mss)) (by kernel_rfl) ⟨c6,c1⟩ (fun hHeld=> ?_);refine zt 0 ?_;refine zt 1 ?_;refine zt 2 ?_;refine zt 3 ?_;refine zt 6 ?_;refine zt 7 ?_;refine zt 8 ?_;refine zt 9 ?_;refine zc 4 (fun K hK=> ?_);go_simp;refine CM.out.mono ?_;rintro e w5 ⟨rfl,hB⟩;have N5:=(HH.out.below (Below.drew (Below.refl _ _))).below hB;refine hK.out _ _ ?_ (fun hHeld=> ?_);focus exact⟨N5.own.1.cell 6,N5.own.1.cell 1⟩
 clear hK K;refine zl ?_;refine zt 5 ?_;refine zc 10 (fun K hK=> ?_);go_simp;refine(CZ.out _).mono ?_;rintro e w6 ⟨rfl,rfl⟩;refine hK.out _ _ ?_ (fun hHeld=> ?_);focus exact hHeld
 clear hK K;refine zl ?_;refine zt 11 ?_;refine dnZ ?_;have HB:=zH hB;clear hB N5 hHeld;go_wp2_with fail
 go_ret
 exact⟨rfl,(Below.drew (Below.refl _ w)).trans (HB.out.mono (Nat.le_refl _))⟩
end
section
open Go.RowKit Go.Lib
theorem skdone_yes (b pb pd ps B:Nat) (k:SK) (n:Nat) (h1:1≤n) (h2:n≤k.out) (ho:k.out<9223372036854775808) (g:Nat→Nat) (T:Nat) (w:World) (hT:Tidy w g) (h:SkIn w g T b pb pd ps B k):
  Calls Tryz.prog 101 #[.pointer (some ⟨b,0,none⟩), .int .i64 n] w fun e w'=>e= .returned (.int .i64 0)∧Put w w' b 124 (ska { k with out:=k.out-n } pb pd ps B):=by
 have c7:=h.own.1.ce 7;have f7:=h.own.1.free 7;obtain⟨r,hr⟩: ∃ r,k.out-n=r:=⟨_,rfl⟩;have e1:decide ((n:Int)<1)=false:=decide_eq_false (by omega);have e2:IntKind.u64.wrap (n:Int)=(n:Int):=wrapu_of _ (by omega);have e3:decide ((k.out:Int)<n)=false:=decide_eq_false (by omega);have e4:decide (k.out<n)=false:=decide_eq_false (by omega);have e5:IntKind.u64.wrap ((k.out:Int)-n)=(r:Int):=by rw[show(k.out:Int)-n=(r:Int)from by omega];exact wrapu_of _ (by omega)
 have P:=Put.set (u:= .int .u64 (r:Nat)) h.own.1 7;rw[hr];have HP:=zH P;clear h P hr;go_enter Tryz.func101,Tryz.ntmps101
 go_wp2_with fail
 go_ret
 exact⟨rfl,HP.out⟩
end
section
open Go.RowKit Go.Lib
section
variable {w w':World} {g g':Nat→Nat} {T b pb pd ps B:Nat} {k:SK}
theorem SkIn.put_own {k':SK} (h:SkIn w g T b pb pd ps B k) (hT:Tidy w g) (p:Put w w' b 124 (ska k' pb pd ps B)) (e1:k'.bf=k.bf:=by rfl) (e2:k'.pcs=k.pcs:=by rfl) (e3:k'.e=k.e:=by rfl) (e4:k'.sa=k.sa:=by rfl) (e5:k'.bb=k.bb:=by rfl):SkIn w' g T b pb pd ps B k'∧Chg w w' g g T (T+1):=by
 have c:=(Chg.refl hT T (T+1)).put p (fun _=>by have:=h.own.2;omega);refine⟨⟨h.own.put p, ?_, ?_, ?_, ?_,h.bt⟩,c⟩
 ·rw[e1];exact h.bf.chg c (by omega)
 ·rw[e2,e3];exact h.bd.chg c (by omega)
 ·rw[e4];exact h.sa.chg c (by omega)
 ·rw[e5];exact h.bb.chg c (fun i hi=>by have:=h.bt i hi;omega)
theorem SkIn.put_bf {s:BF} (h:SkIn w g T b pb pd ps B k) (hT:Tidy w g) (p:Put w w' pb 195 (buf s)):SkIn w' g T b pb pd ps B { k with bf:=s }∧Chg w w' g g (T+1) (T+2):=by
 have c:=(Chg.refl hT (T+1) (T+2)).put p (fun _=>by have:=h.bf.2;omega);exact⟨⟨h.own.chg c (by omega),h.bf.put p,h.bd.chg c (by omega),h.sa.chg c (by omega),h.bb.chg c (fun i hi=>by have:=h.bt i hi;omega),h.bt⟩,c⟩
theorem SkIn.put_sa {s:SA} (h:SkIn w g T b pb pd ps B k) (hT:Tidy w g) (p:Put w w' ps 224 (sam s)):SkIn w' g T b pb pd ps B { k with sa:=s }∧Chg w w' g g (T+4) (T+5):=by
 have c:=(Chg.refl hT (T+4) (T+5)).put p (fun _=>by have:=h.sa.2;omega);exact⟨⟨h.own.chg c (by omega),h.bf.chg c (by omega),h.bd.chg c (by omega),h.sa.put p,h.bb.chg c (fun i hi=>by have:=h.bt i hi;omega),h.bt⟩,c⟩
theorem SkIn.put_bd {l:List PC} {e:Nat} (h:SkIn w g T b pb pd ps B k) (c:Chg w w' g g' (T+2) (T+4)) (d:BdAt w' g' (T+2) pd l e):SkIn w' g' T b pb pd ps B { k with pcs:=l,e:=e }:=
 ⟨h.own.chg c (by omega),h.bf.chg c (by omega),d,h.sa.chg c (by omega),h.bb.chg c (fun i hi=>by have:=h.bt i hi;omega),fun i hi=>by
  rw[c.old _ (Nat.lt_of_le_of_lt (show B+i≤B+6 by omega) h.bb.m.lt)];exact h.bt i hi⟩
theorem SkIn.put_bb {s:BB} (h:SkIn w g T b pb pd ps B k) (hT:Tidy w g) (d:BbAt w' B s) (c:Bbd B w w'):SkIn w' g T b pb pd ps B { k with bb:=s }∧Chg w w' g g (T+5) (T+6):=by
 have c:=c.chg hT h.bt;exact⟨⟨h.own.chg c (by omega),h.bf.chg c (by omega),h.bd.chg c (by omega),h.sa.chg c (by omega),d,h.bt⟩,c⟩
end
def SK.donE (k:SK) (n:Int):Nat:=if n<1∨(k.out:Int)<n then 1 else 0
def SK.donF (k:SK) (n:Int):SK:=if n<1∨(k.out:Int)<n then k else { k with out:=k.out-n.toNat }
theorem skdone_any (b pb pd ps B:Nat) (k:SK) (n:Int) (hn: -9223372036854775808≤n) (hn2:n<9223372036854775808) (ho:k.out<9223372036854775808) (g:Nat→Nat) (T:Nat) (w:World) (hT:Tidy w g) (h:SkIn w g T b pb pd ps B k):
  Calls Tryz.prog 101 #[.pointer (some ⟨b,0,none⟩), .int .i64 n] w fun e w'=>e= .returned (.int .i64 (k.donE n:Nat))∧Chg w w' g g T (T+6)∧SkIn w' g T b pb pd ps B (k.donF n):=by
 unfold SK.donE SK.donF;by_cases h1:n<1
 ·rw[if_pos (.inl h1),if_pos (.inl h1)]
  have HH:=zH h;have HC:=zH (Chg.refl hT T (T+6));clear h hT;go_enter Tryz.func101,Tryz.ntmps101
  go_wp2_with fail
  go_ret
  exact⟨rfl,HC.out,HH.out⟩
 ·obtain⟨m,rfl⟩:=Int.eq_ofNat_of_zero_le (show 0≤n by omega)
  by_cases h2:k.out<m
  ·rw[if_pos (.inr (by omega)),if_pos (.inr (by omega))]
   have c7:=h.own.1.ce 7;have e1:decide ((m:Int)<1)=false:=decide_eq_false (by omega);have e2:IntKind.u64.wrap (m:Int)=(m:Int):=wrapu_of _ (by omega);have e3:decide ((k.out:Int)<m)=true:=decide_eq_true (by omega);have e4:decide (k.out<m)=true:=decide_eq_true (by omega);have HH:=zH h;have HC:=zH (Chg.refl hT T (T+6));clear h hT;go_enter Tryz.func101,Tryz.ntmps101
   go_wp2_with fail
   go_ret
   exact⟨rfl,HC.out,HH.out⟩
  ·have hno: ¬((m:Int)<1∨(k.out:Int)<m):=by omega
   rw[if_neg hno,if_neg hno];refine(skdone_yes b pb pd ps B k m (by omega) (by omega) ho g T w hT h).mono ?_;rintro e w' ⟨rfl,p⟩;obtain⟨k1,k2⟩:=h.put_own (k':={ k with out:=k.out-m }) hT p;exact⟨rfl,k2.mono (Nat.le_refl _) (by omega),k1⟩
theorem skwrite_any (b pb pd ps B:Nat) (k:SK) (n:Int) (hn:n≤200000) (hn2: -9223372036854775808≤n) (hb:k.bf.ok) (g:Nat→Nat) (T:Nat) (w:World) (hT:Tidy w g) (h:SkIn w g T b pb pd ps B k):
  Calls Tryz.prog 98 #[.pointer (some ⟨b,0,none⟩), .int .i64 n] w fun e w'=>e= .returned (.int .i64 (bwrE k.bf n:Nat))∧Chg w w' g g T (T+6)∧SkIn w' g T b pb pd ps B { k with bf:=bwrF k.bf n }:=by
 have c3:=h.own.1.ce 3;have CW:=zH (bwr_any pb k.bf n hb hn hn2 w h.bf.1);have HH:=zH h;have HT:=zH hT;obtain⟨r,er⟩: ∃ r,bwrE k.bf n=r:=⟨_,rfl⟩;rw[er]at CW ⊢;clear h hT;go_enter Tryz.func98,Tryz.ntmps98
 go_wp2_with fail
 refine CW.out.mono ?_;rintro e w1 ⟨rfl,hP⟩;have HP:=zH hP;clear hP;go_wp2_with fail
 go_ret
 obtain⟨k1,k2⟩:=HH.out.put_bf HT.out HP.out;exact⟨rfl,k2.mono (by omega) (by omega),k1⟩
end
section
open Go.RowKit Go.Lib
theorem flW_nn (n:Int) (p:PC) (h:0≤n∧n<18446744073709551616):0≤flW n p∧flW n p<18446744073709551616:=by
 unfold flW;split
 ·rw[IntKind.wrap_u64];omega
 ·exact h
theorem flSum_nn (l:List PC):0≤flSum l∧flSum l<18446744073709551616:=by
 have: ∀(l:List PC) (n:Int),0≤n∧n<18446744073709551616→0≤l.foldl flW n∧l.foldl flW n<18446744073709551616:=by
  intro l;induction l with
  | nil=>exact fun n h=>h
  | cons p r ih=>exact fun n h=>ih _ (flW_nn n p h)
 exact this l 0 (by omega)
def SK.fl (k:SK):Nat:=(flSum k.pcs).toNat
theorem SK.fl_eq (k:SK):flSum k.pcs=(k.fl:Int):=by have:=flSum_nn k.pcs;unfold SK.fl;omega
theorem SK.fl_lt (k:SK):k.fl<18446744073709551616:=by have:=flSum_nn k.pcs;unfold SK.fl;omega
def SK.lim (k:SK):Nat:=tlimF k.bb.rate k.tso k.most
def SK.los (k:SK):Bool:=decide (lostIx k.pcs≠ -1)
def SK.uns (k:SK):Nat:=k.bf.wr-k.bf.tk
def SK.mayE (k:SK):Nat:=
 if k.los=false∧k.uns=0 then 7 else if ¬ k.fl<k.bb.cwnd∨ ¬ k.out<k.lim then 5 else if k.los=false∧4096≤k.pcs.length then 5 else 0
def SK.mayS (k:SK):SK:=if k.los=false∧k.uns=0∧k.fl<k.bb.cwnd then { k with sa:=limF k.sa k.fl }else k
theorem bdLost_any (b e:Nat) (l:List PC) (hl:l.length≤5000) (g:Nat→Nat) (T:Nat) (w:World) (hL:BdAt w g T b l e):
  Calls Tryz.prog 165 #[.pointer (some ⟨b,0,none⟩)] w fun e w'=>(∃ x y:Nat,e= .returned (.tuple #[.agg #[.int .u64 x, .int .u64 y], .bool (decide (lostIx l≠ -1))]))∧Below w.heap.size w w':=by
 rcases lostIx_cases l with⟨h,_⟩ | ⟨i,x,h,hx,_⟩
 ·refine(bdLost_none b e l hl g T w hL h).mono ?_
  rintro e w' ⟨rfl,hB⟩;exact⟨⟨0,0,by rw[h];rfl⟩,hB⟩
 ·refine(bdLost_some b e i x l hl g T w hL h hx).mono ?_
  rintro e w' ⟨rfl,hB⟩;refine⟨⟨x.frm,x.til, ?_⟩,hB⟩;have:lostIx l≠ -1:=by rw[h];omega
  rw[decide_eq_true this];rfl
def SA.ok2 (s:SA):Prop:=s.prior<18446744073709551616∧s.sending<18446744073709551616∧s.rtt<18446744073709551616∧s.mark<18446744073709551616
structure SK.ok (k:SK):Prop where
 id:k.id<8
 m1:100≤k.mss
 m2:k.mss≤9000
 c1:1≤k.most
 c2:k.most≤1073741824
 bf:k.bf.ok
 e:k.e=k.bf.tk
 len:k.pcs.length≤4096
 pc: ∀ p∈k.pcs,p.frm<p.til∧p.til≤p.frm+65536∧p.til≤k.e∧p.sent.ok∧p.sent.d<18446744073709551616
 sa:k.sa.ok
 sa2:k.sa.ok2
 bb:k.bb.ok
 out:k.out≤1073807360
 at_:k.at_<18446744073709551616
theorem tlimF_le (rate tso most:Nat) (h:tso≤65536) (h2:most≤1073741824):tlimF rate tso most≤1073741824:=by
 unfold tlimF;omega
theorem skmay_any (b pb pd ps B:Nat) (k:SK) (hk:k.ok) (g:Nat→Nat) (T:Nat) (w:World) (hT:Tidy w g) (h:SkIn w g T b pb pd ps B k):
  Calls Tryz.prog 135 #[.pointer (some ⟨b,0,none⟩)] w fun e w'=>e= .returned (.int .i64 (k.mayE:Nat))∧Chg w w' g g T (T+6)∧SkIn w' g T b pb pd ps B k.mayS:=by
 have hl:k.pcs.length≤5000:=by have:=hk.len;omega
 obtain⟨N0,e0⟩: ∃ z,w.heap.size=z:=⟨_,rfl⟩;have hbN:b<N0:=by rw[←e0];exact h.own.1.lt
 have c4:=h.own.1.ce 4;have CL:=zH (bdLost_any pd k.e k.pcs hl g (T+2) w h.bd);have CM:=zH (fun w' hB=>bstate_any B k.bb w' (h.bb.below (w':=w') hB));have CF:=zH (fun w' hB=>skfl_any b pb pd ps B k hl g T w' (h.below (w':=w') hB));have CU:=zH (fun w' hB=>unsent_any pb k.bf hk.bf w' (h.below (w':=w') hB).bf.1);have CN:=zH (fun w' hB=>bdlen_any pd k.e k.pcs g (T+2) w' (h.below (w':=w') hB).bd);have CT:=zH (fun w' hB=>sktso_any b pb pd ps B k hk.bb.rate hk.m1 hk.m2 g T w' (h.below (w':=w') hB));have t1:=tsoF_le k.bb.rate k.mss hk.m1 hk.m2;have t2:=tsoF_ge k.bb.rate k.mss hk.m1;have CQ:=zH (fun w'=>limit_tsq k.bb.rate k.tso k.most hk.bb.rate (by unfold SK.tso;omega) (by unfold SK.tso;omega) hk.c1 hk.c2 w');have CS:=zH (fun w' hB=>limit_any ps k.sa k.fl hk.sa k.fl_lt w' (h.below (w':=w') hB).sa.1);rw[k.fl_eq]at CF;have hmE:k.mayE=if k.los=false∧k.uns=0 then 7 else if ¬ k.fl<k.bb.cwnd∨ ¬ k.out<k.lim then 5 else if k.los=false∧4096≤k.pcs.length then 5 else 0:=rfl
 have hmS:k.mayS=if k.los=false∧k.uns=0∧k.fl<k.bb.cwnd then { k with sa:=limF k.sa k.fl }else k:=rfl
 have hos:k.out<18446744073709551616:=by have:=hk.out;omega
 have hn0:k.pcs.length≤4096:=hk.len;unfold SK.lim at hmE;unfold SK.los at hmE hmS;unfold SK.uns at hmE hmS;obtain⟨lo,elo⟩: ∃ z,decide (lostIx k.pcs≠ -1)=z:=⟨_,rfl⟩;rw[elo]at CL hmE hmS;obtain⟨un,eun⟩: ∃ z,k.bf.wr-k.bf.tk=z:=⟨_,rfl⟩;rw[eun]at CU hmE hmS;obtain⟨tz,etz⟩: ∃ z,k.tso=z:=⟨_,rfl⟩;rw[etz]at CT CQ hmE;obtain⟨lm,elm⟩: ∃ z,tlimF k.bb.rate tz k.most=z:=⟨_,rfl⟩;rw[elm]at CQ hmE;obtain⟨fl,efl⟩: ∃ z,k.fl=z:=⟨_,rfl⟩;rw[efl]at CF CS hmE hmS;unfold mdv at CM;obtain⟨bw,ebw⟩: ∃ z,k.bb.bw=z:=⟨_,rfl⟩;rw[ebw]at CM;obtain⟨gn,egn⟩: ∃ z,k.bb.gain=z:=⟨_,rfl⟩;rw[egn]at CM;have HH:=zH h;have HT:=zH hT;have HE:=zH hmE;have HS:=zH hmS;clear h hT hk elo eun etz elm efl ebw egn hmE hmS t1 t2 hl;obtain⟨op,eop⟩: ∃ z,decide (fl<k.bb.cwnd)=z:=⟨_,rfl⟩;have hop:decide ((fl:Int)<(k.bb.cwnd:Nat))=op:=by rw[←eop];simp only[Int.ofNat_lt]
 have HO:=zH eop;have CY:=zH (fun w'=>may_tsq k.out lm w');obtain⟨ol,eol⟩: ∃ z,decide (k.out<lm)=z:=⟨_,rfl⟩;rw[eol]at CY;have HL:=zH eol;have hop2:decide (fl<k.bb.cwnd)=op:=eop;clear eop eol;go_enter Tryz.func135,Tryz.ntmps135
 go_wp2_with fail
 refine CL.out.mono ?_;rintro e w1 ⟨⟨x,y,rfl⟩,hB1⟩;have c6:w1.cell? ⟨b,6,none⟩=some (.pointer (some ⟨B+6,0,none⟩)):=(HH.out.below hB1).own.1.cell 6;have hb1:b<w1.heap.size:=by have:=hB1.size;omega
 have HB1:=zH hB1;clear hB1;go_wp2_with fail
 refine(CM.out _ (HB1.out.alloc HB1.out.size _)).mono ?_;rintro e w2 ⟨rfl,hB2⟩;have HB2:=zH ((HB1.out.alloc HB1.out.size (.cells #[.int .u64 x, .int .u64 y] 64)).trans (hB2.mono (by have:=HB1.out.size;simp;omega)));clear hB2;go_upto_region 3 with fail
 obtain⟨N5,e5⟩: ∃ z,w2.heap.size=z:=⟨_,rfl⟩;rw[e5];have hN:N0≤N5:=by have:=HB2.out.size;omega
 refine wp_named (fun W=>At W N5 35 #[.int .i64 (k.bb.mode:Nat), .int .i64 (k.bb.cp:Nat), .int .u64 (k.bb.rate:Nat), .int .u64 (k.bb.cwnd:Nat), .int .u64 (bw:Nat), .int .u64 (k.bb.pr.best:Nat), .int .u64 (gn:Nat), .int .u64 (k.bb.rn.n:Nat), .bool k.bb.pp.full, .bool k.bb.pl.use]∧Below w.heap.size w W) ⟨by rw[←e5];exact At.made _ _ _,HB2.out.alloc HB2.out.size _⟩ (fun W hW=> ?_);obtain⟨AW,hBW⟩:=hW;have m3:=AW.ce 3;have HA:=zH AW;have HB:=zH hBW;clear AW hBW HB1 HB2 CM CL e5 c4 c6 hb1;refine wp_region_held_drew (S:=fun wq=>wq.cell? ⟨N5,3,none⟩=some (.int .u64 k.bb.cwnd)) (by kernel_rfl) m3 (fun hHeld=> ?_);refine zt 0 ?_;refine zt 2 ?_;refine zt 3 ?_;refine zc 1 (fun K hK=> ?_);go_simp;refine(CF.out _ HB.out.drew).mono ?_;rintro e w6 ⟨rfl,hB6⟩;refine hK.out _ _ ?_ (fun hHeld=> ?_);focus exact(HA.out.drew.below hB6 HA.out.drew.lt).cell 3
 clear hK K;refine zl ?_;refine zt 4 ?_;refine zt 5 ?_;refine dnZ ?_;have A6:=HA.out.drew.below hB6 HA.out.drew.lt;have HB6:=zH (HB.out.drew.trans (hB6.mono HB.out.size));have S6:=HH.out.below HB6.out;have c2:=S6.own.1.ce 2;have c3:=S6.own.1.ce 3;have c4:=S6.own.1.ce 4;have c5:=S6.own.1.ce 5;have c7:=S6.own.1.ce 7;have m2:=A6.ce 2;have HA6:=zH A6;have HF6:Hid (Chg w w6 g g T (T+6)):=zH ((Chg.refl HT.out T (T+6)).below (HB6.out.mono (Nat.le_refl _)));clear hHeld hB6 S6 A6 HA HB m3;cases lo with
 | true=>
  rw[if_neg (by simp)]at HE HS;go_upto_region 8 with fail
  refine wp_named (fun W=>Below w.heap.size w W∧Chg w W g g T (T+6)∧At W N5 35 #[.int .i64 (k.bb.mode:Nat), .int .i64 (k.bb.cp:Nat), .int .u64 (k.bb.rate:Nat), .int .u64 (k.bb.cwnd:Nat), .int .u64 (bw:Nat), .int .u64 (k.bb.pr.best:Nat), .int .u64 (gn:Nat), .int .u64 (k.bb.rn.n:Nat), .bool k.bb.pp.full, .bool k.bb.pl.use]) ⟨HB6.out,HF6.out,HA6.out⟩ (fun W hW=> ?_);obtain⟨hBW,hCW,hAW⟩:=hW;have S7:=HH.out.below hBW;have d2:=S7.own.1.ce 2;have d4:=S7.own.1.ce 4;have d7:=S7.own.1.ce 7;have n2:=hAW.ce 2;have HBW:=zH hBW;have HCW:=zH hCW;have HAW:=zH hAW;clear hBW hCW hAW S7 c2 c3 c4 c5 c7 m2 HB6 HF6 HA6;cases op with
  | false=>
   rw[if_pos (.inl (by have:=HO.out;simpa using this))]at HE;refine wp_region_held_drew (S:=fun wq=>True) (by kernel_rfl) trivial (fun hHeld=> ?_);refine zt 0 ?_;refine zt 1 ?_;refine zt 2 ?_;refine zn 3 ?_;refine zn 4 ?_;refine zn 5 ?_;refine zn 6 ?_;refine zn 7 ?_;refine zn 8 ?_;refine zn 9 ?_;refine zn 10 ?_;refine zn 11 ?_;refine zn 12 ?_;refine zn 13 ?_;refine zn 14 ?_;refine zn 15 ?_;refine zn 16 ?_;refine zn 17 ?_;refine zt 18 ?_;refine zt 19 ?_;refine dnZ ?_;go_wp2_with fail
   go_ret
   rw[HE.out,HS.out];exact⟨rfl,HCW.out.drew,HH.out.below HBW.out.drew⟩
  | true=>
   refine wp_region_held_drew (S:=fun wq=>wq.cell? ⟨b,2,none⟩=some (.int .i64 k.most)∧wq.cell? ⟨b,7,none⟩=some (.int .u64 k.out)∧wq.cell? ⟨N5,2,none⟩=some (.int .u64 k.bb.rate)) (by kernel_rfl) ⟨d2,d7,n2⟩ (fun hHeld=> ?_);refine zt 0 ?_;refine zt 1 ?_;refine zt 2 ?_;refine zt 3 ?_;refine zt 4 ?_;refine zt 5 ?_;refine zt 6 ?_;refine zt 7 ?_;refine zt 8 ?_;refine zt 9 ?_;refine zt 11 ?_;refine zt 12 ?_;refine zt 13 ?_;refine zt 14 ?_;refine zc 10 (fun K hK=> ?_);go_simp;refine(CT.out _ HBW.out.drew).mono ?_;rintro e w8 ⟨rfl,hB8⟩;have B8:=HBW.out.drew.trans (hB8.mono HBW.out.size);have S8:=HH.out.below B8;refine hK.out _ _ ?_ (fun hHeld=> ?_);focus exact⟨S8.own.1.cell 2,S8.own.1.cell 7,(HAW.out.drew.below hB8 HAW.out.drew.lt).cell 2⟩
   clear hK K;refine zl ?_;refine zc 15 (fun K hK=> ?_);go_simp;refine(CQ.out _).mono ?_;rintro e w9 ⟨rfl,rfl⟩;refine hK.out _ _ ?_ (fun hHeld=> ?_);focus exact hHeld
   clear hK K;refine zl ?_;refine zc 16 (fun K hK=> ?_);go_simp;refine(CY.out _).mono ?_;rintro e w9 ⟨rfl,rfl⟩;refine hK.out _ _ ?_ (fun hHeld=> ?_);focus exact hHeld
   clear hK K;refine zl ?_;refine zt 17 ?_;refine zt 18 ?_;refine zt 19 ?_;refine dnZ ?_;have k4:=S8.own.1.ce 4;have HB8:=zH B8;have HC8:=zH (HCW.out.drew.below hB8);clear hHeld hB8 S8 B8 HAW HBW HCW;cases ol with
   | false=>
    rw[if_pos (.inr (by have:=HL.out;simpa using this))]at HE;go_wp2_with fail
    go_ret
    rw[HE.out,HS.out];exact⟨rfl,HC8.out,HH.out.below HB8.out⟩
   | true=>
    rw[if_neg (by have h1:=HL.out;have h2:=HO.out;simp only[decide_eq_true_eq]at h1 h2;rintro(h | h);exact h h2;exact h h1)]at HE;rw[if_neg (by simp)]at HE;go_wp2_with fail
    go_ret
    rw[HE.out,HS.out];exact⟨rfl,HC8.out,HH.out.below HB8.out⟩
 | false=>
  by_cases hu:un=0
  ·subst hu
   rw[if_pos ⟨rfl,rfl⟩]at HE;cases op with
   | false=>
    rw[if_neg (by have:=HO.out;rintro⟨_,_,h⟩;rw[decide_eq_true h]at this;cases this)]at HS;go_wp2_with fail
    refine(CU.out _ HB6.out).mono ?_;rintro e w7 ⟨rfl,hD⟩;obtain⟨nd,rfl⟩:=hD;go_wp2_with fail
    go_ret
    rw[HE.out,HS.out];exact⟨rfl,HF6.out.drewN _,HH.out.below (belowN HB6.out _)⟩
   | true=>
    rw[if_pos ⟨rfl,rfl,of_decide_eq_true HO.out⟩]at HS;go_wp2_with fail
    refine(CU.out _ HB6.out).mono ?_;rintro e w7 ⟨rfl,hD⟩;obtain⟨nd,rfl⟩:=hD;go_wp2_with fail
    refine wp_named (fun W=>Below w.heap.size w W∧Chg w W g g T (T+6)) ⟨belowN HB6.out _,HF6.out.drewN _⟩ (fun W hW=> ?_);obtain⟨hBW,hCW⟩:=hW;have S7:=HH.out.below hBW;have c5:=S7.own.1.ce 5;have HBW:=zH hBW;have HCW:=zH hCW;clear hBW hCW S7;refine wp_region_held_drew (S:=fun wq=>wq.cell? ⟨b,5,none⟩=some (.pointer (some ⟨ps,0,none⟩))) (by kernel_rfl) c5 (fun hHeld=> ?_);refine zt 0 ?_;refine zt 1 ?_;refine zt 2 ?_;refine zt 3 ?_;refine zt 4 ?_;refine zc 5 (fun K hK=> ?_);go_simp;refine(CF.out _ HBW.out.drew).mono ?_;rintro e w8 ⟨rfl,hB8⟩;have D5:=(HH.out.below (HBW.out.drew.trans (hB8.mono HBW.out.size))).own.1.cell 5;refine hK.out _ _ ?_ (fun hHeld=> ?_);focus exact D5
    clear hK K;refine zl ?_;refine zc 6 (fun K hK=> ?_);go_simp;refine(CS.out _ (HBW.out.drew.trans (hB8.mono HBW.out.size))).mono ?_;rintro e w9 ⟨rfl,hP9⟩;refine hK.out _ _ ?_ (fun hHeld=> ?_);focus exact(hP9.cell hHeld (by have:=(HH.out.below (HBW.out.drew.trans (hB8.mono HBW.out.size)));have t1:=this.sa.2;have t2:=this.own.2;show b≠ps;rintro rfl;omega))
    clear hK K;refine zl ?_;refine dnZ ?_;have S8:=HH.out.below (HBW.out.drew.trans (hB8.mono HBW.out.size));have C8:=HCW.out.drew.below hB8;obtain⟨S9,C9⟩:=S8.put_sa C8.tidy hP9;have HS9:=zH S9;have HC9:=zH (C8.trans (C9.mono (by omega) (by omega)));clear S8 C8 S9 C9 hP9 hHeld hB8 D5;go_wp2_with fail
    go_ret
    rw[HE.out,HS.out];exact⟨rfl,HC9.out,HS9.out⟩
  ·rw[if_neg (fun h=>hu h.2)]at HE
   rw[if_neg (fun h=>hu h.2.1)]at HS;have hu':((un:Int)==0)=false:=by rw[beq_eq_false_iff_ne];omega
   go_wp2_with fail
   refine(CU.out _ HB6.out).mono ?_;rintro e w7 ⟨rfl,hD⟩;obtain⟨nd,rfl⟩:=hD;go_wp2_with fail
   go_upto_region 8 with fail
   refine wp_named (fun W=>Below w.heap.size w W∧Chg w W g g T (T+6)∧At W N5 35 #[.int .i64 (k.bb.mode:Nat), .int .i64 (k.bb.cp:Nat), .int .u64 (k.bb.rate:Nat), .int .u64 (k.bb.cwnd:Nat), .int .u64 (bw:Nat), .int .u64 (k.bb.pr.best:Nat), .int .u64 (gn:Nat), .int .u64 (k.bb.rn.n:Nat), .bool k.bb.pp.full, .bool k.bb.pl.use]) ⟨belowN HB6.out _,HF6.out.drewN _,HA6.out⟩ (fun W hW=> ?_);obtain⟨hBW,hCW,hAW⟩:=hW;have S7:=HH.out.below hBW;have d2:=S7.own.1.ce 2;have d4:=S7.own.1.ce 4;have d7:=S7.own.1.ce 7;have n2:=hAW.ce 2;have HBW:=zH hBW;have HCW:=zH hCW;have HAW:=zH hAW;clear hBW hCW hAW S7 c2 c3 c4 c5 c7 m2 HB6 HF6 HA6;cases op with
   | false=>
    rw[if_pos (.inl (by have:=HO.out;simpa using this))]at HE;refine wp_region_held_drew (S:=fun wq=>True) (by kernel_rfl) trivial (fun hHeld=> ?_);refine zt 0 ?_;refine zt 1 ?_;refine zt 2 ?_;refine zn 3 ?_;refine zn 4 ?_;refine zn 5 ?_;refine zn 6 ?_;refine zn 7 ?_;refine zn 8 ?_;refine zn 9 ?_;refine zn 10 ?_;refine zn 11 ?_;refine zn 12 ?_;refine zn 13 ?_;refine zn 14 ?_;refine zn 15 ?_;refine zn 16 ?_;refine zn 17 ?_;refine zt 18 ?_;refine zt 19 ?_;refine dnZ ?_;go_wp2_with fail
    go_ret
    rw[HE.out,HS.out];exact⟨rfl,HCW.out.drew,HH.out.below HBW.out.drew⟩
   | true=>
    refine wp_region_held_drew (S:=fun wq=>wq.cell? ⟨b,2,none⟩=some (.int .i64 k.most)∧wq.cell? ⟨b,7,none⟩=some (.int .u64 k.out)∧wq.cell? ⟨N5,2,none⟩=some (.int .u64 k.bb.rate)) (by kernel_rfl) ⟨d2,d7,n2⟩ (fun hHeld=> ?_);refine zt 0 ?_;refine zt 1 ?_;refine zt 2 ?_;refine zt 3 ?_;refine zt 4 ?_;refine zt 5 ?_;refine zt 6 ?_;refine zt 7 ?_;refine zt 8 ?_;refine zt 9 ?_;refine zt 11 ?_;refine zt 12 ?_;refine zt 13 ?_;refine zt 14 ?_;refine zc 10 (fun K hK=> ?_);go_simp;refine(CT.out _ HBW.out.drew).mono ?_;rintro e w8 ⟨rfl,hB8⟩;have B8:=HBW.out.drew.trans (hB8.mono HBW.out.size);have S8:=HH.out.below B8;refine hK.out _ _ ?_ (fun hHeld=> ?_);focus exact⟨S8.own.1.cell 2,S8.own.1.cell 7,(HAW.out.drew.below hB8 HAW.out.drew.lt).cell 2⟩
    clear hK K;refine zl ?_;refine zc 15 (fun K hK=> ?_);go_simp;refine(CQ.out _).mono ?_;rintro e w9 ⟨rfl,rfl⟩;refine hK.out _ _ ?_ (fun hHeld=> ?_);focus exact hHeld
    clear hK K;refine zl ?_;refine zc 16 (fun K hK=> ?_);go_simp;refine(CY.out _).mono ?_;rintro e w9 ⟨rfl,rfl⟩;refine hK.out _ _ ?_ (fun hHeld=> ?_);focus exact hHeld
    clear hK K;refine zl ?_;refine zt 17 ?_;refine zt 18 ?_;refine zt 19 ?_;refine dnZ ?_;have k4:=S8.own.1.ce 4;have HB8:=zH B8;have HC8:=zH (HCW.out.drew.below hB8);clear hHeld hB8 S8 B8 HAW HBW HCW;cases ol with
    | false=>
     rw[if_pos (.inr (by have:=HL.out;simpa using this))]at HE;go_wp2_with fail
     go_ret
     rw[HE.out,HS.out];exact⟨rfl,HC8.out,HH.out.below HB8.out⟩
    | true=>
     rw[if_neg (by have h1:=HL.out;have h2:=HO.out;simp only[decide_eq_true_eq]at h1 h2;rintro(h | h);exact h h2;exact h h1)]at HE;by_cases hx:4096≤k.pcs.length
     ·rw[if_pos (by simp[hx])]at HE
      have hx1:decide ((4096:Int)≤k.pcs.length)=true:=decide_eq_true (by omega);go_wp2_with fail
      refine(CN.out _ HB8.out).mono ?_;rintro e w9 ⟨rfl,rfl⟩;go_wp2_with fail
      go_ret
      rw[HE.out,HS.out];exact⟨rfl,HC8.out,HH.out.below HB8.out⟩
     ·rw[if_neg (fun h=>hx h.2)]at HE
      have hx1:decide ((4096:Int)≤k.pcs.length)=false:=decide_eq_false (by omega);go_wp2_with fail
      refine(CN.out _ HB8.out).mono ?_;rintro e w9 ⟨rfl,rfl⟩;go_wp2_with fail
      go_ret
      rw[HE.out,HS.out];exact⟨rfl,HC8.out,HH.out.below HB8.out⟩
end
section
open Go.RowKit Go.Lib
def agR (l:List PC):Nat×Nat:=match l[(lostIx l).toNat]? with | some x=>(x.frm,x.til) | none=>(0,0)
def agL (l:List PC) (y:ST):List PC:=match l[(lostIx l).toNat]? with | some x=>l.set (lostIx l).toNat { x with sent:=y,lost:=false } | none=>l
def SK.rg (k:SK):Nat×Nat:=if k.los=true then agR k.pcs else(k.bf.tk,k.bf.tk+min k.tso k.uns)
def SK.snt (k:SK) (now:Nat):ST:=sentV (sentF k.sa now k.fl) now
def SK.brd (k:SK) (now:Nat):SK:=
 if k.los=true then { k with sa:=sentF k.sa now k.fl,pcs:=agL k.pcs (k.snt now) }
 else { k with sa:=sentF k.sa now k.fl,bf:=btkF k.bf (min k.tso k.uns),pcs:=k.pcs++[⟨k.e,k.bf.tk+min k.tso k.uns,k.snt now,false,false⟩],e:=k.bf.tk+min k.tso k.uns }
def SK.emitX (k:SK) (now:Nat):SG:=⟨k.id,k.rg.1,k.rg.2-k.rg.1,max now k.at_,k.los⟩
def SK.emitF (k:SK) (now:Nat):SK:=
 { k.brd now with at_:=satAdd (max now k.at_) (delayOf ((k.rg.2-k.rg.1:Nat):Int) k.bb.rate),out:=k.out+(k.rg.2-k.rg.1) }
theorem set5 {w:World} {N:Nat} {t:TypeId} {a b c d e:Value} (h:At w N t #[a,b,c,d,e]) (v0 v1 v2 v3 v4:Value):
  Put w (((((w.setCell ⟨N,0,none⟩ v0).setCell ⟨N,1,none⟩ v1).setCell ⟨N,2,none⟩ v2).setCell ⟨N,3,none⟩ v3).setCell ⟨N,4,none⟩ v4) N t #[v0,v1,v2,v3,v4]:=by
 have A:=((((h.set (u:=v0) 0).set (u:=v1) 1).set (u:=v2) 2).set (u:=v3) 3).set (u:=v4) 4;simp only[List.setIfInBounds_toArray,List.set_cons_zero,List.set_cons_succ]at A;exact⟨A,((((grown_set w N 0 v0).trans (grown_set _ N 1 v1)).trans (grown_set _ N 2 v2)).trans (grown_set _ N 3 v3)).trans (grown_set _ N 4 v4)⟩
theorem SkIn.apart {w w':World} {g:Nat→Nat} {T b pb pd ps B N:Nat} {k:SK} (h:SkIn w g T b pb pd ps B k) (hT:Tidy w g) (hT0:0<T) (hN:g N=0) (hg:w.grownBy w' (some N)):SkIn w' g T b pb pd ps B k:=
 h.chg ((Chg.refl hT 0 1).by hg (fun q hq _=>by cases hq;omega)) (.inr hT0)
def sgz:Value:= .agg #[.int .i64 0, .int .u64 0, .int .i64 0, .int .u64 0, .bool false]
theorem skemit_no (b pb pd ps B now:Nat) (k:SK) (hk:k.ok) (hm:k.mayE≠0) (g:Nat→Nat) (T:Nat) (hT0:0<T) (w:World) (hT:Tidy w g) (h:SkIn w g T b pb pd ps B k):
  Calls Tryz.prog 102 #[.pointer (some ⟨b,0,none⟩), .int .u64 now] w fun e w'=>e= .returned (.tuple #[sgz, .int .i64 (k.mayE:Nat)])∧Chg w w' g g T (T+6)∧SkIn w' g T b pb pd ps B k.mayS:=by
 obtain⟨N0,e0⟩: ∃ z,w.heap.size=z:=⟨_,rfl⟩;have gN:g N0=0:=hT _ (by omega);have CM:=zH (skmay_any b pb pd ps B k hk g T (w.alloc (.cells #[.int .i64 0, .int .u64 0, .int .i64 0, .int .u64 0, .bool false] 48)) (hT.alloc _) (h.below ((Below.refl _ w).alloc (Nat.le_refl _) _)));obtain⟨r,er⟩: ∃ z,k.mayE=z:=⟨_,rfl⟩;rw[er]at CM hm ⊢;have hr:((r:Int)==0)=false:=by rw[beq_eq_false_iff_ne];omega
 have hr2:((r:Int)!=0)=true:=by rw[bne_iff_ne];omega
 have HC0:=zH ((Chg.refl hT T (T+6)).alloc (.cells #[.int .i64 0, .int .u64 0, .int .i64 0, .int .u64 0, .bool false] 48));clear h hT er hk;unfold sgz;go_enter Tryz.func102,Tryz.ntmps102
 go_wp2_with fail
 refine CM.out.mono ?_;rintro e w1 ⟨rfl,hC,hS⟩;have A1:At w1 N0 48 #[.int .i64 0, .int .u64 0, .int .i64 0, .int .u64 0, .bool false]:=(show At _ N0 48 _ by rw[←e0];exact At.made w _ _).chg hC (by omega);have y0:=A1.cell 0;have y1:=A1.cell 1;have y2:=A1.cell 2;have y3:=A1.cell 3;have y4:=A1.cell 4;have yf0:=A1.free 0;have yf1:=A1.free 1;have yf2:=A1.free 2;have yf3:=A1.free 3;have yf4:=A1.free 4;simp only[List.getElem?_toArray,List.getElem?_cons_zero,List.getElem?_cons_succ]at y0 y1 y2 y3 y4;have HC:=zH (HC0.out.trans hC);have HS:=zH hS;have HA:=zH A1;clear hC hS A1 CM HC0;go_wp2_with fail
 have P:=set5 HA.out (.int .i64 0) (.int .u64 0) (.int .i64 0) (.int .u64 0) (.bool false);have d0:=P.1.cell 0;have d1:=P.1.cell 1;have d2:=P.1.cell 2;have d3:=P.1.cell 3;have d4:=P.1.cell 4;simp only[List.getElem?_toArray,List.getElem?_cons_zero,List.getElem?_cons_succ]at d0 d1 d2 d3 d4;refine bodyPost_ret (v:= .tuple #[sgz, .int .i64 (r:Nat)]) ?_ rfl ⟨rfl, ?_, ?_⟩
 ·simp[results,Tryz.f102,go_sem,sgz,d0,d1,d2,d3,d4]
 ·exact HC.out.by P.2 (fun q hq hlt=>by cases hq;omega)
 ·exact HS.out.apart HC.out.tidy hT0 gN P.2
end
end Go.Proofs.YtojgokiobdpclaaGreat
