import Derived.Test.YtojgokiobdpclaaGreatP37
import Derived.Test.YtojgokiobdpclaaGreatP38
import Derived.Test.YtojgokiobdpclaaGreatP39
namespace Go.Proofs.YtojgokiobdpclaaGreat
set_option linter.unusedVariables false
set_option linter.unusedSimpArgs false
set_option maxRecDepth 8000
set_option maxHeartbeats 8000000
section
open Go.RowKit Go.Lib
structure OU where
 dep:List SG
 drop:List SG
 fates:List Nat
 dog:Nat
def OuIn (w:World) (g:Nat→Nat) (T bo:Nat) (vd:Value) (o:OU):Prop:=
 ∃ vx vf,Of w g T bo 41 #[vd,vx,vf, .int .u64 o.dog]∧Sli w g (T+1) 48 5 vx o.drop.length (o.drop.flatMap sgl)∧Sli w g (T+2) 3 1 vf o.fates.length (ints o.fates)
section
variable {w w':World} {g g':Nat→Nat} {T lo hi b bo pc pq pl bl bt:Nat} {sp fp:Nat→Option Nat} {m:MC} {vd:Value} {o:OU}
theorem OuIn.below (h:OuIn w g T bo vd o) (hb:Below w.heap.size w w'):OuIn w' g T bo vd o:=by
 obtain⟨vx,vf,h1,h2,h3⟩:=h;exact⟨vx,vf,h1.below hb,h2.below hb,h3.below hb⟩
theorem OuIn.chg (h:OuIn w g T bo vd o) (c:Chg w w' g g' lo hi) (h1:T+3≤lo∨hi≤T):OuIn w' g' T bo vd o:=by
 obtain⟨vx,vf,k1,k2,k3⟩:=h;exact⟨vx,vf,k1.chg c (by omega),k2.chg c (by omega),k3.chg c (by omega)⟩
theorem McIn.put_led {f:Nat→Int} (h:McIn w g T b pc sp pq pl fp bl bt m) (hT:Tidy w g) (p:Put w w' pl 117 (Go.Proofs.YtojgokiobdpclaaGreat.led f)):McIn w' g T b pc sp pq pl fp bl bt m∧Chg w w' g g (T+2) (T+3):=by
 obtain⟨f0,hl⟩:=h.led;have c:=(Chg.refl hT (T+2) (T+3)).put p (fun _=>by have:=hl.2;omega);exact⟨⟨h.own.chg c (by omega),h.clk.chg c (by omega),⟨f,hl.put p⟩,h.q.chg c (by omega),fun s hs=>(h.sk s hs).chg c (by omega)⟩,c⟩
end
theorem alloc_size (w:World) (o:Obj):(w.alloc o).heap.size=w.heap.size+1:=by simp
theorem ints_snoc' (l:List Nat) (k:Nat):ints (l++[k])=ints l++[.int .i64 (k:Nat)]:=by simp[ints]
theorem mcdrop_any (b bo:Nat) (x:SG) (hx:x.sock<8) (ft:Nat) (hft:ft<6) (pc:Nat) (sp:Nat→Option Nat) (pq pl:Nat) (fp:Nat→Option Nat) (bl bt:Nat) (m:MC) (vd:Value) (o:OU) (hl1:o.drop.length≤100000) (hl2:o.fates.length≤100000) (g:Nat→Nat) (T:Nat) (hT0:0<T) (w:World) (hT:Tidy w g) (h:McIn w g T b pc sp pq pl fp bl bt m) (ho:OuIn w g (T+76) bo vd o):
  Calls Tryz.prog 97 #[.pointer (some ⟨b,0,none⟩), .pointer (some ⟨bo,0,none⟩),sgv x, .int .i64 ft] w fun e w'=>e= .returned (.tuple #[])∧ ∃ g',Chg w w' g g' T (T+79)∧McIn w' g' T b pc sp pq pl fp bl bt m∧OuIn w' g' (T+76) bo vd { o with drop:=o.drop++[x],fates:=o.fates++[ft] }:=by
 obtain⟨N0,e0⟩: ∃ z,w.heap.size=z:=⟨_,rfl⟩;have gN:g N0=0:=hT _ (by omega);have CN:=zH (fun w' (h:McIn w' g T b pc sp pq pl fp bl bt m)=>lednote_any pl x.sock ft hx hft w' (by obtain⟨f,hf⟩:=h.led;exact⟨f,hf.1⟩));have HT:=zH hT;have HH:=zH h;have HO:=zH ho;clear h hT ho;unfold sgv;go_enter Tryz.func97,Tryz.ntmps97
 go_upto_region 1 with fail
 refine wp_named (fun W=>At W N0 48 (sga x)∧McIn W g T b pc sp pq pl fp bl bt m∧OuIn W g (T+76) bo vd o∧Chg w W g g T (T+79)) ⟨by rw[←e0];exact At.made _ _ _,HH.out.below ((Below.refl _ w).alloc (Nat.le_refl _) _),HO.out.below ((Below.refl _ w).alloc (Nat.le_refl _) _),(Chg.refl HT.out _ _).alloc _⟩ (fun W hW=> ?_);obtain⟨Q,X,O,C⟩:=hW;have c19:=X.own.1.ce 19;have q0:=Q.ce 0;have HQ:=zH Q;have HX:=zH X;have HOu:=zH O;have HC:=zH C;clear Q X O C HH HO HT;refine wp_region_held_drew (S:=fun wq=>wq.cell? ⟨b,19,none⟩=some (.pointer (some ⟨pl,0,none⟩))∧wq.cell? ⟨N0,0,none⟩=some (.int .i64 x.sock)) (by kernel_rfl) ⟨c19,q0⟩ (fun hHeld=> ?_);refine zt 0 ?_;refine zt 1 ?_;refine zt 2 ?_;refine zt 3 ?_;refine zt 4 ?_;refine zt 5 ?_;refine zt 6 ?_;refine zc 7 (fun K hK=> ?_);go_simp;refine(CN.out _ (HX.out.below (Below.refl _ _).drew)).mono ?_;rintro e w2 ⟨⟨z,rfl⟩,f,hP⟩;obtain⟨X,c⟩:=(HX.out.below (Below.refl _ _).drew).put_led HC.out.tidy.drew hP;have Q:=HQ.out.drew.chg c (by omega);have O:=(HOu.out.below (Below.refl _ _).drew).chg c (by omega);have C:=HC.out.drew.trans (c.mono (by omega) (by omega));refine hK.out _ _ ?_ (fun hHeld=> ?_);focus exact⟨X.own.1.cell 19,Q.cell 0⟩
 clear hK K;refine zl ?_;refine dnZ ?_;obtain⟨vx,vf,O1,O2,O3⟩:=O;obtain⟨ax,cx,rfl,_,_⟩:=O2.cap_;obtain⟨af,cf,rfl,_,_⟩:=O3.cap_;have y1:=O1.1.ce 1;have y2:=O1.1.ce 2;have q0:=Q.cell 0;have q1:=Q.cell 1;have q2:=Q.cell 2;have q3:=Q.cell 3;have q4:=Q.cell 4;simp only[sga,List.getElem?_toArray,List.getElem?_cons_zero,List.getElem?_cons_succ]at q0 q1 q2 q3 q4;have HX2:=zH X;have HC2:=zH C;have HQ2:=zH Q;have HO1:=zH O1;have HO2:=zH O2;have HO3:=zH O3;obtain⟨i0,HI⟩:=infoSG;obtain⟨i1,HJ⟩:=infoI;clear Q X C O1 O2 O3 hHeld hP c HQ HX HOu HC CN c19;go_upto_region 2 with fail
 refine wp_region_K 18 (fun wq=>wq.cell? ⟨bo,1,none⟩=some (.slice ax o.drop.length cx)∧wq.cell? ⟨bo,2,none⟩=some (.slice af o.fates.length cf)∧wq.cell? ⟨N0,0,none⟩=some (.int .i64 x.sock)∧wq.cell? ⟨N0,1,none⟩=some (.int .u64 x.frm)∧wq.cell? ⟨N0,2,none⟩=some (.int .i64 x.len)∧wq.cell? ⟨N0,3,none⟩=some (.int .u64 x.stamp)∧wq.cell? ⟨N0,4,none⟩=some (.bool x.again)) ⟨y1,y2,q0,q1,q2,q3,q4⟩ (fun hHeld=> ?_);have X:=HX2.out.below (Below.refl w2.heap.size w2).drew;have C:=HC2.out.drew;have Q:=HQ2.out.drew;have O1:=HO1.out.below (Below.refl w2.heap.size w2).drew;have O2:=HO2.out.drew;have O3:=HO3.out.drew;refine kpZ 0 (v:= ?_) rfl ?_ ?_ (by assumption);(rotate_left;focus (intro wx;go_simp;try with_reducible rfl))
 (try simp only[Act.put,List.setIfInBounds_toArray,List.set_cons_zero,List.set_cons_succ])
 refine kpZ 1 (v:= ?_) rfl ?_ ?_ (by assumption);(rotate_left;focus (intro wx;go_simp;try with_reducible rfl))
 (try simp only[Act.put,List.setIfInBounds_toArray,List.set_cons_zero,List.set_cons_succ])
 refine kpZ 2 (v:= ?_) rfl ?_ ?_ (by assumption);(rotate_left;focus (intro wx;go_simp;try with_reducible rfl))
 (try simp only[Act.put,List.setIfInBounds_toArray,List.set_cons_zero,List.set_cons_succ])
 refine kpZ 3 (v:= ?_) rfl ?_ ?_ (by assumption);(rotate_left;focus (intro wx;go_simp;try with_reducible rfl))
 (try simp only[Act.put,List.setIfInBounds_toArray,List.set_cons_zero,List.set_cons_succ])
 refine kpZ 4 (v:= ?_) rfl ?_ ?_ (by assumption);(rotate_left;focus (intro wx;go_simp;try with_reducible rfl))
 (try simp only[Act.put,List.setIfInBounds_toArray,List.set_cons_zero,List.set_cons_succ])
 refine klZ 5 (v:= ?_) rfl ?_ ?_ (by assumption);(rotate_left;focus (intro wx hSw;(try dsimp only at hSw);go_simp;try with_reducible rfl))
 (try simp only[Act.put,List.setIfInBounds_toArray,List.set_cons_zero,List.set_cons_succ])
 refine klZ 6 (v:= ?_) rfl ?_ ?_ (by assumption);(rotate_left;focus (intro wx hSw;(try dsimp only at hSw);go_simp;try with_reducible rfl))
 (try simp only[Act.put,List.setIfInBounds_toArray,List.set_cons_zero,List.set_cons_succ])
 refine kpZ 9 (v:= ?_) rfl ?_ ?_ (by assumption);(rotate_left;focus (intro wx;go_simp;try with_reducible rfl))
 (try simp only[Act.put,List.setIfInBounds_toArray,List.set_cons_zero,List.set_cons_succ])
 refine kpZ 10 (v:= ?_) rfl ?_ ?_ (by assumption);(rotate_left;focus (intro wx;go_simp;try with_reducible rfl))
 (try simp only[Act.put,List.setIfInBounds_toArray,List.set_cons_zero,List.set_cons_succ])
 refine kpZ 11 (v:= ?_) rfl ?_ ?_ (by assumption);(rotate_left;focus (intro wx;go_simp;try with_reducible rfl))
 (try simp only[Act.put,List.setIfInBounds_toArray,List.set_cons_zero,List.set_cons_succ])
 refine klZ 12 (v:= ?_) rfl ?_ ?_ (by assumption);(rotate_left;focus (intro wx hSw;(try dsimp only at hSw);go_simp;try with_reducible rfl))
 (try simp only[Act.put,List.setIfInBounds_toArray,List.set_cons_zero,List.set_cons_succ])
 refine kpZ 13 (v:= ?_) rfl ?_ ?_ (by assumption);(rotate_left;focus (intro wx;go_simp;try with_reducible rfl))
 (try simp only[Act.put,List.setIfInBounds_toArray,List.set_cons_zero,List.set_cons_succ])
 refine krZ [7,14] ?_;refine(kcZ 7 rfl (fun K hK=> ?_) (kcZ 14 rfl (fun K hK=> ?_) kzZ))
 ·go_simp
  refine hK.out _ _ ?_ (fun hHeld=> ?_);focus obtain⟨h0,h1,h2,h3,h4,h5,h6⟩:=hHeld;exact⟨(World.grownBy_alloc _ _ none).cell h0 (by simp),(World.grownBy_alloc _ _ none).cell h1 (by simp),(World.grownBy_alloc _ _ none).cell h2 (by simp),(World.grownBy_alloc _ _ none).cell h3 (by simp),(World.grownBy_alloc _ _ none).cell h4 (by simp),(World.grownBy_alloc _ _ none).cell h5 (by simp),(World.grownBy_alloc _ _ none).cell h6 (by simp)⟩
  clear hK K;have B7:=X.own.1.box 48 (sga x);have gB7:=C.tidy _ (Nat.le_refl _);(try simp only[alloc_size]at B7 gB7);(try simp only[drew_size]at B7 gB7);(try have B14:=B14.kept (World.grownBy_alloc _ (.cells (sga x) 48) none) (by simp));have X:=X.below ((Below.refl _ _).alloc (Nat.le_refl _) (.cells (sga x) 48));have C:=C.alloc (.cells (sga x) 48);have Q:=Q.kept (World.grownBy_alloc _ (.cells (sga x) 48) none) (by simp);have O1:=O1.alloc (.cells (sga x) 48);have O2:=O2.alloc (.cells (sga x) 48);have O3:=O3.alloc (.cells (sga x) 48);refine krZ [8,14] ?_;refine(kcZ 8 rfl (fun K hK=> ?_) (kcZ 14 rfl (fun K hK=> ?_) kzZ))
  ·refine step_append_sli _ rfl _ _ 38 rfl _ (T+76+1) 48 i0 _ 5 40 Tryz.underlying38 HI.out.1 HI.out.2.1 HI.out.2.2.1 HI.out.2.2.2 rfl (by decide) _ o.drop.length (o.drop.flatMap sgl) rfl O2 C.tidy _ 1 1 (sgl x) rfl rfl (World.news_of_block B7) (sgl_one _) (by decide) (by unfold maxLen;omega) (by omega) ?_;intro b8 o8 c8 w8 g8 S8 h8;have gQ:=(h8.old N0 Q.lt).trans gN;(try have gB14':=(h8.old _ B14.lt).trans gB14);have Q:=Q.chg h8 (by rw[gN];omega);(try have B14:=B14.chg h8 (by rw[gB14];omega));(try have gB14:=gB14');have X:=X.chg h8 (by omega);have C:=C.trans (h8.mono (by omega) (by omega));have O1:=O1.chg h8 (by omega);have O3:=O3.chg h8 (by omega)
   refine hK.out _ _ ?_ (fun hHeld=> ?_);focus exact⟨O1.1.cell 1,O1.1.cell 2,Q.cell 0,Q.cell 1,Q.cell 2,Q.cell 3,Q.cell 4⟩
   clear hK K;(try simp only[Act.put,List.setIfInBounds_toArray,List.set_cons_zero,List.set_cons_succ])
   refine krZ [14] ?_;refine(kcZ 14 rfl (fun K hK=> ?_) kzZ);go_simp;refine hK.out _ _ ?_ (fun hHeld=> ?_);focus obtain⟨h0,h1,h2,h3,h4,h5,h6⟩:=hHeld;exact⟨(World.grownBy_alloc _ _ none).cell h0 (by simp),(World.grownBy_alloc _ _ none).cell h1 (by simp),(World.grownBy_alloc _ _ none).cell h2 (by simp),(World.grownBy_alloc _ _ none).cell h3 (by simp),(World.grownBy_alloc _ _ none).cell h4 (by simp),(World.grownBy_alloc _ _ none).cell h5 (by simp),(World.grownBy_alloc _ _ none).cell h6 (by simp)⟩
   clear hK K;have B14:=X.own.1.box 3 #[.int .i64 ft];have gB14:=C.tidy _ (Nat.le_refl _);(try simp only[alloc_size]at B14 gB14);(try simp only[drew_size]at B14 gB14);(try have B7:=B7.kept (World.grownBy_alloc _ (.cells #[.int .i64 ft] 3) none) (by simp));have X:=X.below ((Below.refl _ _).alloc (Nat.le_refl _) (.cells #[.int .i64 ft] 3));have C:=C.alloc (.cells #[.int .i64 ft] 3);have Q:=Q.kept (World.grownBy_alloc _ (.cells #[.int .i64 ft] 3) none) (by simp);have O1:=O1.alloc (.cells #[.int .i64 ft] 3);have O2:=O2.alloc (.cells #[.int .i64 ft] 3);have O3:=O3.alloc (.cells #[.int .i64 ft] 3);(try have S8:=S8.alloc (.cells #[.int .i64 ft] 3));refine krZ [15] ?_;refine(kcZ 15 rfl (fun K hK=> ?_) kzZ);refine step_append_sli _ rfl _ _ 39 rfl _ (T+76+2) 3 i1 _ 1 8 Tryz.underlying39 HJ.out.1 HJ.out.2.1 HJ.out.2.2.1 HJ.out.2.2.2 rfl (by decide) _ o.fates.length (ints o.fates) rfl O3 C.tidy _ 1 1 [.int .i64 ft] rfl rfl (World.news_of_block B14) (by simp[Value.oneCell']) (by decide) (by unfold maxLen;omega) (by omega) ?_;intro b9 o9 c9 w9 g9 S9 h9;have gQ9:=(h9.old N0 Q.lt).trans gQ;have Q:=Q.chg h9 (by rw[gQ];omega);have X:=X.chg h9 (by omega);have C:=C.trans (h9.mono (by omega) (by omega));have O1:=O1.chg h9 (by omega);have S8:=S8.chg h9 (by omega);have d1:=O1.1.cell 1;have d2:=O1.1.cell 2;have f1:=O1.1.free 1;have f2:=O1.1.free 2;simp only[List.getElem?_toArray,List.getElem?_cons_zero,List.getElem?_cons_succ]at d1 d2
   refine hK.out _ _ ?_ (fun hHeld=> ?_);focus exact⟨O1.1.cell 1,O1.1.cell 2,Q.cell 0,Q.cell 1,Q.cell 2,Q.cell 3,Q.cell 4⟩
   clear hK K;(try simp only[Act.put,List.setIfInBounds_toArray,List.set_cons_zero,List.set_cons_succ])
   refine kpZ 16 (v:= ?_) rfl ?_ ?_ (by assumption);(rotate_left;focus (intro wx;go_simp;try with_reducible rfl))
   (try simp only[Act.put,List.setIfInBounds_toArray,List.set_cons_zero,List.set_cons_succ])
   refine kpZ 17 (v:= ?_) rfl ?_ ?_ (by assumption);(rotate_left;focus (intro wx;go_simp;try with_reducible rfl))
   (try simp only[Act.put,List.setIfInBounds_toArray,List.set_cons_zero,List.set_cons_succ])
   refine krZ [18] ?_;refine(kbZ 18 rfl (fun K hK=> ?_) kzZ);go_simp;refine hK.out _ _ ?_;clear hK K;(try simp only[Act.put,List.setIfInBounds_toArray,List.set_cons_zero,List.set_cons_succ])
   refine kqZ 19 (v:= ?_) rfl ?_ ?_;(rotate_left;focus (intro wx;go_simp;try with_reducible rfl))
   (try simp only[Act.put,List.setIfInBounds_toArray,List.set_cons_zero,List.set_cons_succ])
   refine kqZ 20 (v:= ?_) rfl ?_ ?_;(rotate_left;focus (intro wx;go_simp;try with_reducible rfl))
   (try simp only[Act.put,List.setIfInBounds_toArray,List.set_cons_zero,List.set_cons_succ])
   refine krZ [21] ?_;refine(kbZ 21 rfl (fun K hK=> ?_) kzZ);go_simp;refine hK.out _ _ ?_;clear hK K;(try simp only[Act.put,List.setIfInBounds_toArray,List.set_cons_zero,List.set_cons_succ])
   refine kdZ ?_;have A1:=(O1.1.set (u:= .slice (some ⟨b8,o8,none⟩) (o.drop.length+1:Nat) c8) 1).set (u:= .slice (some ⟨b9,o9,none⟩) (o.fates.length+1:Nat) c9) 2;simp only[List.setIfInBounds_toArray,List.set_cons_zero,List.set_cons_succ]at A1;have G1:=(grown_set w9 bo 1 (.slice (some ⟨b8,o8,none⟩) (o.drop.length+1:Nat) c8)).trans (grown_set _ bo 2 (.slice (some ⟨b9,o9,none⟩) (o.fates.length+1:Nat) c9));have CG:=(Chg.refl C.tidy (T+76) (T+77)).by G1 (fun q hq hlt=>by cases hq;have:=O1.2;omega)
   have HX9:=zH (X.chg CG (.inl (Nat.le_refl _)));have HC9:=zH (C.trans (CG.mono (by omega) (by omega)));have HS8:=zH (S8.chg CG (by omega));have HS9:=zH (S9.chg CG (by omega));have HA:=zH A1;have HG:=zH O1.2;clear A1 G1 CG X C S8 S9 O1 O2 O3 Q h8 h9 d1 d2 f1 f2;go_wp2_with fail
   go_end0
   refine⟨rfl,g9,HC9.out,HX9.out, .slice (some ⟨b8,o8,none⟩) (o.drop.length+1:Nat) c8, .slice (some ⟨b9,o9,none⟩) (o.fates.length+1:Nat) c9,⟨HA.out,HG.out⟩, ?_, ?_⟩
   ·have:=HS8.out
    rw[←flat_segs]at this;simp only[List.length_append,List.length_cons,List.length_nil];exact this
   ·have:=HS9.out
    rw[←ints_snoc']at this;simp only[List.length_append,List.length_cons,List.length_nil];exact this
  ·go_simp
   refine hK.out _ _ ?_ (fun hHeld=> ?_);focus obtain⟨h0,h1,h2,h3,h4,h5,h6⟩:=hHeld;exact⟨(World.grownBy_alloc _ _ none).cell h0 (by simp),(World.grownBy_alloc _ _ none).cell h1 (by simp),(World.grownBy_alloc _ _ none).cell h2 (by simp),(World.grownBy_alloc _ _ none).cell h3 (by simp),(World.grownBy_alloc _ _ none).cell h4 (by simp),(World.grownBy_alloc _ _ none).cell h5 (by simp),(World.grownBy_alloc _ _ none).cell h6 (by simp)⟩
   clear hK K;have B14:=X.own.1.box 3 #[.int .i64 ft];have gB14:=C.tidy _ (Nat.le_refl _);(try simp only[alloc_size]at B14 gB14);(try simp only[drew_size]at B14 gB14);(try have B7:=B7.kept (World.grownBy_alloc _ (.cells #[.int .i64 ft] 3) none) (by simp));have X:=X.below ((Below.refl _ _).alloc (Nat.le_refl _) (.cells #[.int .i64 ft] 3));have C:=C.alloc (.cells #[.int .i64 ft] 3);have Q:=Q.kept (World.grownBy_alloc _ (.cells #[.int .i64 ft] 3) none) (by simp);have O1:=O1.alloc (.cells #[.int .i64 ft] 3);have O2:=O2.alloc (.cells #[.int .i64 ft] 3);have O3:=O3.alloc (.cells #[.int .i64 ft] 3);(try have S8:=S8.alloc (.cells #[.int .i64 ft] 3));refine krZ [8] ?_;refine(kcZ 8 rfl (fun K hK=> ?_) kzZ);refine step_append_sli _ rfl _ _ 38 rfl _ (T+76+1) 48 i0 _ 5 40 Tryz.underlying38 HI.out.1 HI.out.2.1 HI.out.2.2.1 HI.out.2.2.2 rfl (by decide) _ o.drop.length (o.drop.flatMap sgl) rfl O2 C.tidy _ 1 1 (sgl x) rfl rfl (World.news_of_block B7) (sgl_one _) (by decide) (by unfold maxLen;omega) (by omega) ?_;intro b8 o8 c8 w8 g8 S8 h8;have gQ:=(h8.old N0 Q.lt).trans gN;(try have gB14':=(h8.old _ B14.lt).trans gB14);have Q:=Q.chg h8 (by rw[gN];omega);(try have B14:=B14.chg h8 (by rw[gB14];omega));(try have gB14:=gB14');have X:=X.chg h8 (by omega);have C:=C.trans (h8.mono (by omega) (by omega));have O1:=O1.chg h8 (by omega);have O3:=O3.chg h8 (by omega);refine hK.out _ _ ?_ (fun hHeld=> ?_);focus exact⟨O1.1.cell 1,O1.1.cell 2,Q.cell 0,Q.cell 1,Q.cell 2,Q.cell 3,Q.cell 4⟩
   clear hK K;(try simp only[Act.put,List.setIfInBounds_toArray,List.set_cons_zero,List.set_cons_succ])
   refine krZ [15] ?_;refine(kcZ 15 rfl (fun K hK=> ?_) kzZ);refine step_append_sli _ rfl _ _ 39 rfl _ (T+76+2) 3 i1 _ 1 8 Tryz.underlying39 HJ.out.1 HJ.out.2.1 HJ.out.2.2.1 HJ.out.2.2.2 rfl (by decide) _ o.fates.length (ints o.fates) rfl O3 C.tidy _ 1 1 [.int .i64 ft] rfl rfl (World.news_of_block B14) (by simp[Value.oneCell']) (by decide) (by unfold maxLen;omega) (by omega) ?_;intro b9 o9 c9 w9 g9 S9 h9;have gQ9:=(h9.old N0 Q.lt).trans gQ;have Q:=Q.chg h9 (by rw[gQ];omega);have X:=X.chg h9 (by omega);have C:=C.trans (h9.mono (by omega) (by omega));have O1:=O1.chg h9 (by omega);have S8:=S8.chg h9 (by omega);have d1:=O1.1.cell 1;have d2:=O1.1.cell 2;have f1:=O1.1.free 1;have f2:=O1.1.free 2;simp only[List.getElem?_toArray,List.getElem?_cons_zero,List.getElem?_cons_succ]at d1 d2;refine hK.out _ _ ?_ (fun hHeld=> ?_);focus exact⟨O1.1.cell 1,O1.1.cell 2,Q.cell 0,Q.cell 1,Q.cell 2,Q.cell 3,Q.cell 4⟩
   clear hK K;(try simp only[Act.put,List.setIfInBounds_toArray,List.set_cons_zero,List.set_cons_succ])
   refine kpZ 16 (v:= ?_) rfl ?_ ?_ (by assumption);(rotate_left;focus (intro wx;go_simp;try with_reducible rfl))
   (try simp only[Act.put,List.setIfInBounds_toArray,List.set_cons_zero,List.set_cons_succ])
   refine kpZ 17 (v:= ?_) rfl ?_ ?_ (by assumption);(rotate_left;focus (intro wx;go_simp;try with_reducible rfl))
   (try simp only[Act.put,List.setIfInBounds_toArray,List.set_cons_zero,List.set_cons_succ])
   refine krZ [18] ?_;refine(kbZ 18 rfl (fun K hK=> ?_) kzZ);go_simp;refine hK.out _ _ ?_;clear hK K;(try simp only[Act.put,List.setIfInBounds_toArray,List.set_cons_zero,List.set_cons_succ])
   refine kqZ 19 (v:= ?_) rfl ?_ ?_;(rotate_left;focus (intro wx;go_simp;try with_reducible rfl))
   (try simp only[Act.put,List.setIfInBounds_toArray,List.set_cons_zero,List.set_cons_succ])
   refine kqZ 20 (v:= ?_) rfl ?_ ?_;(rotate_left;focus (intro wx;go_simp;try with_reducible rfl))
   (try simp only[Act.put,List.setIfInBounds_toArray,List.set_cons_zero,List.set_cons_succ])
   refine krZ [21] ?_;refine(kbZ 21 rfl (fun K hK=> ?_) kzZ);go_simp;refine hK.out _ _ ?_;clear hK K;(try simp only[Act.put,List.setIfInBounds_toArray,List.set_cons_zero,List.set_cons_succ])
   refine kdZ ?_;have A1:=(O1.1.set (u:= .slice (some ⟨b8,o8,none⟩) (o.drop.length+1:Nat) c8) 1).set (u:= .slice (some ⟨b9,o9,none⟩) (o.fates.length+1:Nat) c9) 2;simp only[List.setIfInBounds_toArray,List.set_cons_zero,List.set_cons_succ]at A1;have G1:=(grown_set w9 bo 1 (.slice (some ⟨b8,o8,none⟩) (o.drop.length+1:Nat) c8)).trans (grown_set _ bo 2 (.slice (some ⟨b9,o9,none⟩) (o.fates.length+1:Nat) c9));have CG:=(Chg.refl C.tidy (T+76) (T+77)).by G1 (fun q hq hlt=>by cases hq;have:=O1.2;omega)
   have HX9:=zH (X.chg CG (.inl (Nat.le_refl _)));have HC9:=zH (C.trans (CG.mono (by omega) (by omega)));have HS8:=zH (S8.chg CG (by omega));have HS9:=zH (S9.chg CG (by omega));have HA:=zH A1;have HG:=zH O1.2;clear A1 G1 CG X C S8 S9 O1 O2 O3 Q h8 h9 d1 d2 f1 f2;go_wp2_with fail
   go_end0
   refine⟨rfl,g9,HC9.out,HX9.out, .slice (some ⟨b8,o8,none⟩) (o.drop.length+1:Nat) c8, .slice (some ⟨b9,o9,none⟩) (o.fates.length+1:Nat) c9,⟨HA.out,HG.out⟩, ?_, ?_⟩
   ·have:=HS8.out
    rw[←flat_segs]at this;simp only[List.length_append,List.length_cons,List.length_nil];exact this
   ·have:=HS9.out
    rw[←ints_snoc']at this;simp only[List.length_append,List.length_cons,List.length_nil];exact this
 ·go_simp
  refine hK.out _ _ ?_ (fun hHeld=> ?_);focus obtain⟨h0,h1,h2,h3,h4,h5,h6⟩:=hHeld;exact⟨(World.grownBy_alloc _ _ none).cell h0 (by simp),(World.grownBy_alloc _ _ none).cell h1 (by simp),(World.grownBy_alloc _ _ none).cell h2 (by simp),(World.grownBy_alloc _ _ none).cell h3 (by simp),(World.grownBy_alloc _ _ none).cell h4 (by simp),(World.grownBy_alloc _ _ none).cell h5 (by simp),(World.grownBy_alloc _ _ none).cell h6 (by simp)⟩
  clear hK K;have B14:=X.own.1.box 3 #[.int .i64 ft];have gB14:=C.tidy _ (Nat.le_refl _);(try simp only[alloc_size]at B14 gB14);(try simp only[drew_size]at B14 gB14);(try have B7:=B7.kept (World.grownBy_alloc _ (.cells #[.int .i64 ft] 3) none) (by simp));have X:=X.below ((Below.refl _ _).alloc (Nat.le_refl _) (.cells #[.int .i64 ft] 3));have C:=C.alloc (.cells #[.int .i64 ft] 3);have Q:=Q.kept (World.grownBy_alloc _ (.cells #[.int .i64 ft] 3) none) (by simp);have O1:=O1.alloc (.cells #[.int .i64 ft] 3);have O2:=O2.alloc (.cells #[.int .i64 ft] 3);have O3:=O3.alloc (.cells #[.int .i64 ft] 3);(try have S8:=S8.alloc (.cells #[.int .i64 ft] 3));refine krZ [7] ?_;refine(kcZ 7 rfl (fun K hK=> ?_) kzZ);go_simp;refine hK.out _ _ ?_ (fun hHeld=> ?_);focus obtain⟨h0,h1,h2,h3,h4,h5,h6⟩:=hHeld;exact⟨(World.grownBy_alloc _ _ none).cell h0 (by simp),(World.grownBy_alloc _ _ none).cell h1 (by simp),(World.grownBy_alloc _ _ none).cell h2 (by simp),(World.grownBy_alloc _ _ none).cell h3 (by simp),(World.grownBy_alloc _ _ none).cell h4 (by simp),(World.grownBy_alloc _ _ none).cell h5 (by simp),(World.grownBy_alloc _ _ none).cell h6 (by simp)⟩
  clear hK K;have B7:=X.own.1.box 48 (sga x);have gB7:=C.tidy _ (Nat.le_refl _);(try simp only[alloc_size]at B7 gB7);(try simp only[drew_size]at B7 gB7);(try have B14:=B14.kept (World.grownBy_alloc _ (.cells (sga x) 48) none) (by simp));have X:=X.below ((Below.refl _ _).alloc (Nat.le_refl _) (.cells (sga x) 48));have C:=C.alloc (.cells (sga x) 48);have Q:=Q.kept (World.grownBy_alloc _ (.cells (sga x) 48) none) (by simp);have O1:=O1.alloc (.cells (sga x) 48);have O2:=O2.alloc (.cells (sga x) 48);have O3:=O3.alloc (.cells (sga x) 48);refine krZ [8] ?_;refine(kcZ 8 rfl (fun K hK=> ?_) kzZ);refine step_append_sli _ rfl _ _ 38 rfl _ (T+76+1) 48 i0 _ 5 40 Tryz.underlying38 HI.out.1 HI.out.2.1 HI.out.2.2.1 HI.out.2.2.2 rfl (by decide) _ o.drop.length (o.drop.flatMap sgl) rfl O2 C.tidy _ 1 1 (sgl x) rfl rfl (World.news_of_block B7) (sgl_one _) (by decide) (by unfold maxLen;omega) (by omega) ?_;intro b8 o8 c8 w8 g8 S8 h8;have gQ:=(h8.old N0 Q.lt).trans gN;(try have gB14':=(h8.old _ B14.lt).trans gB14);have Q:=Q.chg h8 (by rw[gN];omega);(try have B14:=B14.chg h8 (by rw[gB14];omega));(try have gB14:=gB14');have X:=X.chg h8 (by omega);have C:=C.trans (h8.mono (by omega) (by omega));have O1:=O1.chg h8 (by omega);have O3:=O3.chg h8 (by omega);refine hK.out _ _ ?_ (fun hHeld=> ?_);focus exact⟨O1.1.cell 1,O1.1.cell 2,Q.cell 0,Q.cell 1,Q.cell 2,Q.cell 3,Q.cell 4⟩
  clear hK K;(try simp only[Act.put,List.setIfInBounds_toArray,List.set_cons_zero,List.set_cons_succ])
  refine krZ [15] ?_;refine(kcZ 15 rfl (fun K hK=> ?_) kzZ);refine step_append_sli _ rfl _ _ 39 rfl _ (T+76+2) 3 i1 _ 1 8 Tryz.underlying39 HJ.out.1 HJ.out.2.1 HJ.out.2.2.1 HJ.out.2.2.2 rfl (by decide) _ o.fates.length (ints o.fates) rfl O3 C.tidy _ 1 1 [.int .i64 ft] rfl rfl (World.news_of_block B14) (by simp[Value.oneCell']) (by decide) (by unfold maxLen;omega) (by omega) ?_;intro b9 o9 c9 w9 g9 S9 h9;have gQ9:=(h9.old N0 Q.lt).trans gQ;have Q:=Q.chg h9 (by rw[gQ];omega);have X:=X.chg h9 (by omega);have C:=C.trans (h9.mono (by omega) (by omega));have O1:=O1.chg h9 (by omega);have S8:=S8.chg h9 (by omega);have d1:=O1.1.cell 1;have d2:=O1.1.cell 2;have f1:=O1.1.free 1;have f2:=O1.1.free 2;simp only[List.getElem?_toArray,List.getElem?_cons_zero,List.getElem?_cons_succ]at d1 d2;refine hK.out _ _ ?_ (fun hHeld=> ?_);focus exact⟨O1.1.cell 1,O1.1.cell 2,Q.cell 0,Q.cell 1,Q.cell 2,Q.cell 3,Q.cell 4⟩
  clear hK K;(try simp only[Act.put,List.setIfInBounds_toArray,List.set_cons_zero,List.set_cons_succ])
  refine kpZ 16 (v:= ?_) rfl ?_ ?_ (by assumption);(rotate_left;focus (intro wx;go_simp;try with_reducible rfl))
  (try simp only[Act.put,List.setIfInBounds_toArray,List.set_cons_zero,List.set_cons_succ])
  refine kpZ 17 (v:= ?_) rfl ?_ ?_ (by assumption);(rotate_left;focus (intro wx;go_simp;try with_reducible rfl))
  (try simp only[Act.put,List.setIfInBounds_toArray,List.set_cons_zero,List.set_cons_succ])
  refine krZ [18] ?_;refine(kbZ 18 rfl (fun K hK=> ?_) kzZ);go_simp;refine hK.out _ _ ?_;clear hK K;(try simp only[Act.put,List.setIfInBounds_toArray,List.set_cons_zero,List.set_cons_succ])
  refine kqZ 19 (v:= ?_) rfl ?_ ?_;(rotate_left;focus (intro wx;go_simp;try with_reducible rfl))
  (try simp only[Act.put,List.setIfInBounds_toArray,List.set_cons_zero,List.set_cons_succ])
  refine kqZ 20 (v:= ?_) rfl ?_ ?_;(rotate_left;focus (intro wx;go_simp;try with_reducible rfl))
  (try simp only[Act.put,List.setIfInBounds_toArray,List.set_cons_zero,List.set_cons_succ])
  refine krZ [21] ?_;refine(kbZ 21 rfl (fun K hK=> ?_) kzZ);go_simp;refine hK.out _ _ ?_;clear hK K;(try simp only[Act.put,List.setIfInBounds_toArray,List.set_cons_zero,List.set_cons_succ])
  refine kdZ ?_;have A1:=(O1.1.set (u:= .slice (some ⟨b8,o8,none⟩) (o.drop.length+1:Nat) c8) 1).set (u:= .slice (some ⟨b9,o9,none⟩) (o.fates.length+1:Nat) c9) 2;simp only[List.setIfInBounds_toArray,List.set_cons_zero,List.set_cons_succ]at A1;have G1:=(grown_set w9 bo 1 (.slice (some ⟨b8,o8,none⟩) (o.drop.length+1:Nat) c8)).trans (grown_set _ bo 2 (.slice (some ⟨b9,o9,none⟩) (o.fates.length+1:Nat) c9));have CG:=(Chg.refl C.tidy (T+76) (T+77)).by G1 (fun q hq hlt=>by cases hq;have:=O1.2;omega)
  have HX9:=zH (X.chg CG (.inl (Nat.le_refl _)));have HC9:=zH (C.trans (CG.mono (by omega) (by omega)));have HS8:=zH (S8.chg CG (by omega));have HS9:=zH (S9.chg CG (by omega));have HA:=zH A1;have HG:=zH O1.2;clear A1 G1 CG X C S8 S9 O1 O2 O3 Q h8 h9 d1 d2 f1 f2;go_wp2_with fail
  go_end0
  refine⟨rfl,g9,HC9.out,HX9.out, .slice (some ⟨b8,o8,none⟩) (o.drop.length+1:Nat) c8, .slice (some ⟨b9,o9,none⟩) (o.fates.length+1:Nat) c9,⟨HA.out,HG.out⟩, ?_, ?_⟩
  ·have:=HS8.out
   rw[←flat_segs]at this;simp only[List.length_append,List.length_cons,List.length_nil];exact this
  ·have:=HS9.out
   rw[←ints_snoc']at this;simp only[List.length_append,List.length_cons,List.length_nil];exact this
end
section
open Go.RowKit Go.Lib
section
variable {w w':World} {g g':Nat→Nat} {T b pc pq pl bl bt:Nat} {sp fp fp':Nat→Option Nat} {m:MC}
theorem McIn.put_sk (h:McIn w g T b pc sp pq pl fp bl bt m) {s:Nat} (hs:s<8) {p:Nat} (hp:sp s=some p) {k':SK} {pb pd ps B:Nat} (c:Chg w w' g g' (T+28+6*s) (T+28+6*s+6)) (hk:SkIn w' g' (T+28+6*s) p pb pd ps B k'):McIn w' g' T b pc sp pq pl fp bl bt { m with sk:=putF m.sk s (some k') }:=
 ⟨h.own.chg c (by omega),h.clk.chg c (by omega),h.led.imp fun _ k=>k.chg c (by omega),h.q.chg c (by omega),fun j hj=>by
  by_cases e:j=s
  ·subst e
   show SkAt w' g' _ (sp j) (putF m.sk j (some k') j)
   rw[hp,putF_at];exact⟨pb,pd,ps,B,hk⟩
  ·show SkAt w' g' _ (sp j) (putF m.sk s (some k') j)
   rw[putF_ne _ _ e];exact(h.sk j hj).chg c (by omega)⟩
theorem McIn.put_q {q:FQ} (h:McIn w g T b pc sp pq pl fp bl bt m) (c:Chg w w' g g' (T+3) (T+3+25)) (hq:FqIn w' g' (T+3) pq fp' bl bt q):McIn w' g' T b pc sp pq pl fp' bl bt { m with q:=q }:=
 ⟨h.own.chg c (by omega),h.clk.chg c (by omega),h.led.imp fun _ k=>k.chg c (by omega),hq,fun j hj=>(h.sk j hj).chg c (by omega)⟩
theorem McIn.sock_ (h:McIn w g T b pc sp pq pl fp bl bt m) {s:Nat} (hs:s<8) {k:SK} (hk:m.sk s=some k): ∃ p pb pd ps B,sp s=some p∧SkIn w g (T+28+6*s) p pb pd ps B k:=by
 rcases(h.sk s hs).one with⟨_,e⟩ | ⟨a,x,e1,e2,pb,pd,ps,B,hx⟩
 ·rw[hk]at e;cases e
 ·rw[hk]at e2;cases e2
  exact⟨a,pb,pd,ps,B,e1,hx⟩
end
theorem inv_place {q:FQ} (h:q.inv) {s:Nat} (hn:q.fl s=none):placeL q.fresh q.old s=0:=by
 have key:s ∉ q.all:=fun hm=>by
  obtain⟨f,hf⟩:=h.there s hm;rw[hn]at hf;cases hf
 unfold FQ.all at key;simp only[List.mem_append,not_or]at key;exact place_zero.2 ⟨key.1.1,key.1.2⟩
theorem inv_seglen {q:FQ} (h:q.inv) {s:Nat} (hs:s<8) {f:FL} (hf:q.fl s=some f):f.segs.length≤512:=by
 have h1:=lens_le q.fl hs;have h2:=h.tot;have h3:=h.lim;unfold lens at h1;rw[hf]at h1;simp only at h1
 omega
def pumpN (now:Nat):Nat→SK→FQ→OU→Option (SK×FQ×OU)
 | 0,_,_,_=>none
 | n+1,k,q,o=>if k.mayE≠0 then some (k.mayS,q,o)
  else if(enqF q (k.emitX now) now).1=0 then pumpN now n (k.emitF now) (enqF q (k.emitX now) now).2 o
  else some ((k.emitF now).donF (k.emitX now).len,(enqF q (k.emitX now) now).2,{ o with drop:=o.drop++[k.emitX now],fates:=o.fates++[(enqF q (k.emitX now) now).1] })
structure PmI (w:World) (g0:Nat→Nat) (T b pc:Nat) (sp:Nat→Option Nat) (pq pl bl bt s bo:Nat) (vd:Value) (m:MC) (R:SK×FQ×OU) (n:Nat) (g:Nat→Nat) (fp:Nat→Option Nat) (k:SK) (q:FQ) (o:OU) (wr:World):Prop where
 c:Chg w wr g0 g T (T+79)
 in_:McIn wr g T b pc sp pq pl fp bl bt { m with sk:=putF m.sk s (some k),q:=q }
 ou:OuIn wr g (T+76) bo vd o
 r:pumpN m.now (n+1) k q o=some R
 ko:k.ok∧k.id=s
 qo:q.inv∧q.c=m.c
 ln:o.drop.length≤1000∧o.fates.length≤1000
theorem fate_le' (q:FQ) (x:SG) (now:Nat):(enqF q x now).1≤4:=by
 unfold enqF;split
 ·exact Nat.zero_le _
 ·exact fate_le _ _ _
theorem mcpump_any (b bo s:Nat) (hs:s<8) (pc:Nat) (sp:Nat→Option Nat) (pq pl:Nat) (fp:Nat→Option Nat) (bl bt:Nat) (m:MC) (hm:m.ok) (k:SK) (hk:m.sk s=some k) (vd:Value) (o:OU) (hl:o.drop.length≤1000∧o.fates.length≤1000) (n:Nat) (R:SK×FQ×OU) (hR:pumpN m.now (n+1) k m.q o=some R) (g:Nat→Nat) (T:Nat) (hT0:0<T) (w:World) (hT:Tidy w g) (h:McIn w g T b pc sp pq pl fp bl bt m) (ho:OuIn w g (T+76) bo vd o):
  Calls Tryz.prog 59 #[.pointer (some ⟨b,0,none⟩), .int .i64 s, .pointer (some ⟨bo,0,none⟩)] w fun e w'=>e= .returned (.tuple #[])∧ ∃ g' fp',Chg w w' g g' T (T+79)∧McIn w' g' T b pc sp pq pl fp' bl bt { m with sk:=putF m.sk s (some R.1),q:=R.2.1 }∧OuIn w' g' (T+76) bo vd R.2.2∧(R.1.ok∧R.1.id=s)∧R.2.1.inv∧R.2.1.c=m.c:=by
 obtain⟨p,pb,pd,ps,B,hp,_⟩:=h.sock_ hs hk;have cs:=h.sock hs;rw[hp]at cs;simp only[pval,Option.map_some]at cs;have hs8:(s:Int)<8:=by omega
 have hnow:m.now<18446744073709551616:=by have:=hm.now;omega
 have hI:PmI w g T b pc sp pq pl bl bt s bo vd m R n g fp k m.q o w:=⟨Chg.refl hT _ _,by rw[putF_same _ _ _ hk];exact h,ho,hR,hm.sk s k hs hk,⟨hm.q,hm.qc⟩,hl⟩;have HI:=zH hI;clear h ho hT hI hR hm hk hl;go_enter Tryz.func59,Tryz.ntmps59
 go_wp2_with fail
 go_step3
 go_wp2_with fail
 go_step3
 go_wp2_with fail
 go_loopg [8] n (fun gk _ wr=> ∃ g' fp' k' q' o',PmI w g T b pc sp pq pl bl bt s bo vd m R gk g' fp' k' q' o' wr)
 case atStart=>exact⟨_,_,_,_,_,HI.out⟩
 case round=>
  obtain⟨g',fp',k',q',o',hI⟩:=hrel;obtain⟨p2,pb,pd,ps,B,hp2,hx⟩:=hI.in_.sock_ hs (putF_at _ _ _);rw[hp]at hp2;cases hp2
  have CN:=zH (fun w' g' fp' k' q' (h:McIn w' g' T b pc sp pq pl fp' bl bt { m with sk:=putF m.sk s (some k'),q:=q' })=>mcnow_any b pc sp pq pl fp' bl bt _ g' T w' h);have hout:k'.out<9223372036854775808:=by have:=hI.ko.1.out;omega
  by_cases hm:k'.mayE=0
  ·have CE:=zH (skemit_yes p pb pd ps B m.now hnow k' hI.ko.1 hm g' (T+28+6*s) (by omega) wr hI.c.tidy hx)
   have hkE:=hI.ko.1.emitF_ hm hnow;have hxE:=SK.emitX_ok hI.ko.1 hm (now:=m.now) hnow;have hidE:(k'.emitF m.now).id=s:=(SK.brd_same k' m.now).1.trans hI.ko.2;have hlen:(k'.emitX m.now).len=k'.rg.2-k'.rg.1:=rfl;have hr:=hI.r;unfold pumpN at hr;rw[if_neg (by simp[hm])]at hr;obtain⟨x,ex⟩: ∃ z,k'.emitX m.now=z:=⟨_,rfl⟩;rw[ex]at CE hr hxE;obtain⟨k2,ek2⟩: ∃ z,k'.emitF m.now=z:=⟨_,rfl⟩;rw[ek2]at CE hr hkE hidE;have CQ:=zH (fun w' g2 (hT2:Tidy w' g2) (h:FqIn w' g2 (T+3) pq fp' bl bt q')=>fqenq_any pq m.now x hxE.s hxE.l1 hxE.l2 hnow fp' bl bt q' (by have:=hI.qo.1.cf.hz;omega) (fun s f hf=>(hI.qo.1.fl s f hf).si) (by have:=hI.qo.1.ok.len;omega) (by have:=hI.qo.1.ok.len;omega) (fun hn=>inv_place hI.qo.1 hn) (fun f hf=>by have:=inv_seglen hI.qo.1 hxE.s hf;omega) (by have:=hI.qo.1.lim;omega) g2 (T+3) (by omega) w' hT2 h);have hq2:=enqF_inv hI.qo.1 hxE m.now;have hqc:=enqF_c q' x m.now;have hfle:=fate_le' q' x m.now;obtain⟨⟨ft,q2⟩,eq2⟩: ∃ z,enqF q' x m.now=z:=⟨_,rfl⟩;rw[eq2]at CQ hr hq2 hqc hfle;simp only at CQ hr hq2 hqc hfle
   have HI2:=zH hI;have HR:=zH hr;have HKE:=zH (And.intro hkE hidE);have HXE:=zH hxE;have HQ2:=zH (And.intro hq2 hqc);have HCN:=CN;clear hI hr hkE hidE hxE hq2 hqc hx hm hlen hout;unfold sgv at CE;go_wp2_with fail
   refine(CN.out _ _ _ _ _ HI2.out.in_).mono ?_;rintro e w1 ⟨rfl,rfl⟩;go_wp2_with fail
   refine CE.out.mono ?_;rintro e w2 ⟨rfl,g2,hC,hS⟩;have X2:=HI2.out.in_.put_sk hs hp hC hS;dsimp only at X2
   rw[putF_twice]at X2;have HX2:=zH X2;have HC2:=zH (HI2.out.c.trans (hC.mono (by omega) (by omega)));have HO2:=zH (HI2.out.ou.chg hC (by omega));clear X2 hC hS CE;obtain⟨N,eN⟩: ∃ z,w2.heap.size=z:=⟨_,rfl⟩;go_upto_region 3 with fail
   refine wp_named (fun W=>At W N 48 (sga x)∧McIn W g2 T b pc sp pq pl fp' bl bt { m with sk:=putF m.sk s (some k2),q:=q' }∧OuIn W g2 (T+76) bo vd o'∧Chg w W g g2 T (T+79)) ⟨by rw[←eN];exact At.made w2 _ (sga x),HX2.out.below ((Below.refl _ _).alloc (Nat.le_refl _) _),HO2.out.below ((Below.refl _ _).alloc (Nat.le_refl _) _),HC2.out.alloc _⟩ (fun W hW=> ?_);(try rw[eN])
   have gN:g2 N=0:=HC2.out.tidy _ (by omega);clear HX2 HC2 HO2 eN;obtain⟨Q,X,O,C⟩:=hW;have c19:=X.own.1.ce 19;have CL:=zH (lednote_any pl s 0 hs (by omega) W (by obtain⟨f,hf⟩:=X.led;exact⟨f,hf.1⟩));have HQ:=zH Q;have HX:=zH X;have HO:=zH O;have HC:=zH C;clear Q X O C;go_wp2_with fail
   refine CL.out.mono ?_;rintro e w4 ⟨⟨z,rfl⟩,f,hP⟩;obtain⟨X,c⟩:=HX.out.put_led HC.out.tidy hP;have Q:=HQ.out.chg c (by omega);have O:=HO.out.chg c (by omega);have C:=HC.out.trans (c.mono (by omega) (by omega));have c18:=X.own.1.ce 18;obtain⟨q0,q1,q2',q3,q4,_⟩:=Q.c5;have HQ4:=zH Q;have HX4:=zH X;have HO4:=zH O;have HC4:=zH C;clear Q X O C hP c HQ HX HO HC CL c19;unfold sgv at CQ;go_upto_region 4 with fail
   refine wp_region_held_drew (S:=fun wq=>wq.cell? ⟨b,18,none⟩=some (.pointer (some ⟨pq,0,none⟩))∧wq.cell? ⟨N,0,none⟩=some (.int .i64 x.sock)∧wq.cell? ⟨N,1,none⟩=some (.int .u64 x.frm)∧wq.cell? ⟨N,2,none⟩=some (.int .i64 x.len)∧wq.cell? ⟨N,3,none⟩=some (.int .u64 x.stamp)∧wq.cell? ⟨N,4,none⟩=some (.bool x.again)) (by kernel_rfl) ⟨c18,q0,q1,q2',q3,q4⟩ (fun hHeld=> ?_);refine zt 0 ?_;refine zt 1 ?_;refine zt 2 ?_;refine zt 3 ?_;refine zt 4 ?_;refine zt 5 ?_;refine zc 6 (fun K hK=> ?_);go_simp;refine(CN.out _ _ _ _ _ (HX4.out.below (Below.refl _ _).drew)).mono ?_;rintro e w5 ⟨rfl,hw5⟩;subst hw5;refine hK.out _ _ ?_ (fun hHeld=> ?_);focus exact hHeld
   clear hK K;refine zl ?_;refine zc 7 (fun K hK=> ?_);go_simp;refine(CQ.out _ _ HC4.out.tidy.drew (HX4.out.below (Below.refl _ _).drew).q).mono ?_;rintro e w6 ⟨rfl,g6,fp6,h6,hq6⟩;have X:=(HX4.out.below (Below.refl _ _).drew).put_q h6 hq6;have Q:=HQ4.out.drew.chg h6 (by omega);have O:=(HO4.out.below (Below.refl _ _).drew).chg h6 (by omega);have C:=HC4.out.drew.trans (h6.mono (by omega) (by omega));have gN6:=(h6.old N HQ4.out.lt).trans gN;refine hK.out _ _ ?_ (fun hHeld=> ?_);focus exact⟨X.own.1.cell 18,Q.cell 0,Q.cell 1,Q.cell 2,Q.cell 3,Q.cell 4⟩
   clear hK K;refine zl ?_;refine zt 8 ?_;refine zt 9 ?_;refine zt 10 ?_;refine zt 11 ?_;refine zt 12 ?_;refine dnZ ?_;have HQ6:=zH Q;have HX6:=zH X;have HO6:=zH O;have HC6:=zH C;obtain⟨r0,r1,r2,r3,r4,_⟩:=Q.c5;clear Q X O C h6 hq6 hHeld HQ4 HX4 HO4 HC4 q0 q1 q2' q3 q4 c18;by_cases hf0:ft=0
   ·subst hf0
    have hr:=HR.out;rw[if_pos rfl]at hr;cases gk with
    | zero=>cases hr
    | succ j=>
     have hI6:PmI w g T b pc sp pq pl bl bt s bo vd m R j g6 fp6 k2 q2 o' w6:=⟨HC6.out,HX6.out,HO6.out,hr,HKE.out,⟨HQ2.out.1,HQ2.out.2.trans HI2.out.qo.2⟩,HI2.out.ln⟩;have HI6:=zH hI6;clear hI6 hr;go_wp2_with fail
     go_roundg j
     case measure=>exact Nat.lt_succ_self j
     case rel=>exact⟨_,_,_,_,_,HI6.out⟩
   ·have hr:=HR.out
    rw[if_neg hf0]at hr;have hf1:((ft:Int)==0)=false:=by rw[beq_eq_false_iff_ne];omega
    have CD:=zH (mcdrop_any b bo x HXE.out.s ft (by omega) pc sp pq pl fp6 bl bt { m with sk:=putF m.sk s (some k2),q:=q2 } vd o' (by have:=HI2.out.ln;omega) (by have:=HI2.out.ln;omega) g6 T hT0 w6 HC6.out.tidy HX6.out HO6.out);have HR2:=zH hr;clear hr hf0;unfold sgv at CD;go_wp2_with fail
    refine CD.out.mono ?_;rintro e w7 ⟨rfl,g7,h7,X,O⟩;have Q:=HQ6.out.chg h7 (by omega);obtain⟨p3,pb3,pd3,ps3,B3,hp3,hx3⟩:=X.sock_ hs (putF_at _ _ _);rw[hp]at hp3;cases hp3
    have CO:=zH (skdone_any p pb3 pd3 ps3 B3 k2 x.len (by omega) (by have:=HXE.out.l2;omega) (by have:=HKE.out.1.out;omega) g7 (T+28+6*s) w7 h7.tidy hx3);have d2:=Q.ce 2;have HX7:=zH X;have HC7:=zH (HC6.out.trans h7);have HO7:=zH O;clear X O Q h7 hx3 r0 r1 r2 r3 r4 CD;go_wp2_with fail
    refine CO.out.mono ?_;rintro e w8 ⟨rfl,h8,hS8⟩;have X:=HX7.out.put_sk hs hp h8 hS8;simp only[putF_twice]at X;have HX8:=zH X;have HC8:=zH (HC7.out.trans (h8.mono (by omega) (by omega)));have HO8:=zH (HO7.out.chg h8 (by omega));clear X h8 hS8 CO;go_wp2_with fail
    (try rw[Exit.noGoto_ret])
    (try rw[Exit.noGoto_normal])
    go_end0
    have e1:=HR2.out;cases e1
    exact⟨rfl,g7,fp6,HC8.out,HX8.out,HO8.out,⟨HKE.out.1.donF_ _,(SK.donF_same k2 _).1.trans HKE.out.2⟩,HQ2.out.1,HQ2.out.2.trans HI2.out.qo.2⟩
  ·have CE:=zH (skemit_no p pb pd ps B m.now k' hI.ko.1 hm g' (T+28+6*s) (by omega) wr hI.c.tidy hx)
   have hr:=hI.r;unfold pumpN at hr;rw[if_pos hm]at hr;cases hr
   obtain⟨r,er⟩: ∃ z,k'.mayE=z:=⟨_,rfl⟩;rw[er]at CE hm;have hr1:((r:Int)==0)=false:=by rw[beq_eq_false_iff_ne];omega
   have hr2:((r:Int)!=0)=true:=by rw[bne_iff_ne];omega
   unfold sgz at CE;have HI2:=zH hI;clear hI hx hm er;go_wp2_with fail
   refine(CN.out _ _ _ _ _ HI2.out.in_).mono ?_;rintro e w1 ⟨rfl,rfl⟩;go_wp2_with fail
   refine CE.out.mono ?_;rintro e w2 ⟨rfl,hC,hS⟩;have X2:=HI2.out.in_.put_sk hs hp hC hS;simp only[putF_twice]at X2;have HX2:=zH X2;have HC2:=zH (HI2.out.c.trans (hC.mono (by omega) (by omega)));have HO2:=zH (HI2.out.ou.chg hC (by omega));clear X2 hC hS CE;go_wp2_with fail
   (try rw[Exit.noGoto_ret])
   (try rw[Exit.noGoto_normal])
   go_end0
   exact⟨rfl,g',fp',HC2.out.alloc _,HX2.out.below ((Below.refl _ _).alloc (Nat.le_refl _) _),HO2.out.below ((Below.refl _ _).alloc (Nat.le_refl _) _),⟨HI2.out.ko.1.mayS_,(SK.mayS_same k').1.trans HI2.out.ko.2⟩,HI2.out.qo⟩
end
section
open Go.RowKit Go.Lib
theorem infoU: ∃ i0:TypeInfo,Hid (Tryz.prog.info? 22=some i0∧i0.zero=some (.int .u64 0)∧i0.size=1∧i0.bytes=8):=by
 obtain⟨i0,h1,h2,h3,h4⟩:=info_parts (show(Tryz.prog.info? 22).map (fun i=>(i.zero,i.size,i.bytes))=some (some (.int .u64 0),1,8) by kernel_rfl);exact⟨i0,zH ⟨h1,h2,h3,h4⟩⟩
def rto:Option SK→Nat
 | none=>18446744073709551615
 | some k=>k.bb.rate
def MC.rt (m:MC) (s:Nat):Nat:=if s<8 then rto (m.sk s)else 0
def rts (m:MC) (i:Nat):List Value:=(List.range i).map fun s=>Value.int .u64 (m.rt s:Nat)
theorem rts_snoc (m:MC) (i:Nat):rts m (i+1)=rts m i++[.int .u64 (m.rt i:Nat)]:=by simp[rts,List.range_succ]
theorem rts_at (m:MC) {i s:Nat} (h:s<i):(rts m i)[s]? =some (.int .u64 (m.rt s:Nat)):=by simp[rts,h]
def sks (sp:Nat→Option Nat):Value:= .agg #[pval (sp 0),pval (sp 1),pval (sp 2),pval (sp 3),pval (sp 4),pval (sp 5),pval (sp 6),pval (sp 7)]
theorem sks_index (sp:Nat→Option Nat) (i:Nat) (hi:i<8) (w:World):(Instr.index 81 (.agg #[pval (sp 0),pval (sp 1),pval (sp 2),pval (sp 3),pval (sp 4),pval (sp 5),pval (sp 6),pval (sp 7)]) (.int .i64 i)).run Tryz.prog w= .ok (pval (sp i)) w:=by
 have h:i=0∨i=1∨i=2∨i=3∨i=4∨i=5∨i=6∨i=7:=by omega
 rcases h with rfl | rfl | rfl | rfl | rfl | rfl | rfl | rfl
 all_goals (change _=_;kernel_rfl)
theorem mcrates_any (b:Nat) (pc:Nat) (sp:Nat→Option Nat) (pq pl:Nat) (fp:Nat→Option Nat) (bl bt:Nat) (m:MC) (g:Nat→Nat) (T:Nat) (w:World) (h:McIn w g T b pc sp pq pl fp bl bt m):
  Calls Tryz.prog 52 #[.pointer (some ⟨b,0,none⟩)] w fun e w'=> ∃ rb rc,e= .returned (.slice (some ⟨rb,0,none⟩) 8 rc)∧w.heap.size≤rb∧rb<w'.heap.size∧Below w.heap.size w w'∧ ∀ s,s<8→w'.cell? ⟨rb,s,none⟩=some (.int .u64 (m.rt s:Nat)):=by
 have c10:=h.sock (s:=0) (by omega);have c11:=h.sock (s:=1) (by omega);have c12:=h.sock (s:=2) (by omega);have c13:=h.sock (s:=3) (by omega);have c14:=h.sock (s:=4) (by omega);have c15:=h.sock (s:=5) (by omega);have c16:=h.sock (s:=6) (by omega);have c17:=h.sock (s:=7) (by omega);simp only[Nat.reduceAdd]at c10 c11 c12 c13 c14 c15 c16 c17;obtain⟨i0,HI⟩:=infoU;obtain⟨z,ez⟩: ∃ z,w.heap.size=z:=⟨_,rfl⟩;have HH:=zH h;clear h;go_enter Tryz.func52,Tryz.ntmps52
 go_wp2_with fail
 go_loopw [3,11] (fun v3 v11 wr=> ∃ i:Nat,v11= .int .i64 i∧i≤8∧wr.ownsRow z 22 1 v3 i (rts m i)∧Below z w wr) (fun _ v11 _=>match v11 with | .int _ y=>8-y.toNat | _=>0)
 case atStart=>exact⟨0,rfl,by omega,World.ownsRow_nil _ _ _ _,by rw[←ez];exact Below.refl _ _⟩
 case round=>
  obtain⟨i,rfl,hi,own,hB⟩:=hrel;obtain⟨a5,k5,rfl,m5⟩:=own_form own;by_cases h8:i=8
  ·subst h8
   have HO:=zH own;have HB:=zH hB;clear own hB;go_wp2_with fail
   go_ret
   rcases HO.out.2 with⟨e1,e2⟩ | ⟨rb,cap,cur,e1,r2,r3,r4,r5,r6⟩
   ·cases e1
   ·cases e1
    refine⟨rb,k5,rfl,by omega,by rw[Array.size_eq_length_toList]at*;exact(Array.getElem?_eq_some_iff.1 r3).1,by rw[ez];exact HB.out,fun s hs=> ?_⟩;rw[cell_of_row wr rb s cur _ _ r3,←Array.getElem?_toList];have h1:=rts_at m hs;rw[←r6.2,List.getElem?_take]at h1;rw[if_pos (by omega)]at h1;exact h1
  ·have hi8:i<8:=by omega
   have hix:=sks_index sp i hi8;have hi1:decide ((i:Int)<8)=true:=decide_eq_true (by omega);have hiw:wrap64 ((i:Int)+1)=((i+1:Nat):Int):=by unfold wrap64;omega
   rcases(HH.out.sk i hi8).one with⟨e1,e2⟩ | ⟨a,k,e1,e2,pb,pd,ps,B,hx⟩
   ·have hpv:pval (sp i)= .pointer none:=by rw[e1];rfl
    rw[hpv]at hix;have hrt:m.rt i=18446744073709551615:=by unfold MC.rt;rw[if_pos hi8,e2];rfl
    have HO:=zH own;have HB:=zH hB;have hzs:z≤wr.heap.size:=by rw[←ez];rw[←ez]at hB;exact hB.size
    clear own hB;go_wp2_with (at_builtin;refine wpList_append_lies _ rfl _ _ 127 rfl z 22 i0 (.int .u64 0) 1 8 Tryz.underlying127 HI.out.1 HI.out.2.1 HI.out.2.2.1 HI.out.2.2.2 rfl (by decide) _ i (rts m i) rfl (HO.out.alloc _) ⟨wr.heap.size,0,none⟩ 1 1 [.int .u64 18446744073709551615] rfl rfl (cell_one_new _ _ _) ?c1 (by decide) ?c2 ?c3 ?c4 _ rfl ?_)
    case c1=>simp[Value.oneCell']
    case c2=>unfold maxLen;omega
    case c3=>omega
    case c4=>first | omega | (simp;omega)
    intro g2 cap2 w2 ho hg hat hlt;have B2:Below z w w2:=(HB.out.alloc hzs _).grown hg (by simp;omega) (fun q hq=>(HO.out.lt q hq).1);have ho2:w2.ownsRow z 22 1 (.slice (some ⟨g2,0,none⟩) (i+1) cap2) (i+1) (rts m (i+1)):=by rw[rts_snoc,hrt];exact ho
    have HO2:=zH ho2;have HB2:=zH B2;clear ho hg hat B2 ho2;go_wp2_with fail
    go_roundw
    case rel=>exact⟨i+1,rfl,by omega,HO2.out,HB2.out⟩
    case measure=>simp;omega
   ·have hpv:pval (sp i)= .pointer (some ⟨a,0,none⟩):=by rw[e1];rfl
    rw[hpv]at hix;have hrt:m.rt i=k.bb.rate:=by unfold MC.rt;rw[if_pos hi8,e2];rfl
    have CM:=zH (skmodel_any a pb pd ps B k g (T+28+6*i) wr (hx.below (by rw[ez];exact hB)));unfold mdv at CM;have hF: ∀ w,(Instr.field 35 (.agg #[.int .i64 (k.bb.mode:Nat), .int .i64 (k.bb.cp:Nat), .int .u64 (k.bb.rate:Nat), .int .u64 (k.bb.cwnd:Nat), .int .u64 (k.bb.bw:Nat), .int .u64 (k.bb.pr.best:Nat), .int .u64 (k.bb.gain:Nat), .int .u64 (k.bb.rn.n:Nat), .bool k.bb.pp.full, .bool k.bb.pl.use]) 2).run Tryz.prog w= .ok (.int .u64 (k.bb.rate:Nat)) w:=fun _=>by kernel_rfl
    have HO:=zH own;have HB:=zH hB;have hzs:z≤wr.heap.size:=by rw[←ez];rw[←ez]at hB;exact hB.size
    clear own hB hx;go_wp2_with fail
    refine CM.out.mono ?_;rintro e w5 ⟨rfl,hB5⟩;have hzs5:z≤w5.heap.size:=Nat.le_trans hzs hB5.size;have HO5:=zH (own_below HO.out hB5);have HB5:=zH (HB.out.trans (hB5.mono hzs));clear hB5 CM;go_wp2_with (at_builtin;refine wpList_append_lies _ rfl _ _ 127 rfl z 22 i0 (.int .u64 0) 1 8 Tryz.underlying127 HI.out.1 HI.out.2.1 HI.out.2.2.1 HI.out.2.2.2 rfl (by decide) _ i (rts m i) rfl (HO5.out.alloc _) ⟨w5.heap.size,0,none⟩ 1 1 [.int .u64 (k.bb.rate:Nat)] rfl rfl (cell_one_new _ _ _) ?c1 (by decide) ?c2 ?c3 ?c4 _ rfl ?_)
    case c1=>simp[Value.oneCell']
    case c2=>unfold maxLen;omega
    case c3=>omega
    case c4=>first | omega | (simp;omega)
    intro g2 cap2 w2 ho hg hat hlt;have B2:Below z w w2:=(HB5.out.alloc hzs5 _).grown hg (by simp;omega) (fun q hq=>(HO5.out.lt q hq).1);have ho2:w2.ownsRow z 22 1 (.slice (some ⟨g2,0,none⟩) (i+1) cap2) (i+1) (rts m (i+1)):=by rw[rts_snoc,hrt];exact ho
    have HO2:=zH ho2;have HB2:=zH B2;clear ho hg hat B2 ho2;go_wp2_with fail
    go_roundw
    case rel=>exact⟨i+1,rfl,by omega,HO2.out,HB2.out⟩
    case measure=>simp;omega
end
section
open Go.RowKit Go.Lib
def sgN:Option SG→SG
 | none=>⟨0,0,0,0,false⟩
 | some x=>x
theorem sgo_eq (r:Option SG):sgo r= .tuple #[sgv (sgN r), .bool r.isSome]:=by cases r<;>rfl
section
variable {w w':World} {g:Nat→Nat} {T N b bo pc pq pl bl bt:Nat} {sp fp:Nat→Option Nat} {m:MC} {vd:Value} {o:OU}
theorem McIn.apart (h:McIn w g T b pc sp pq pl fp bl bt m) (hT:Tidy w g) (hT0:0<T) (hN:g N=0) (hg:w.grownBy w' (some N)):McIn w' g T b pc sp pq pl fp bl bt m:=
 h.chg ((Chg.refl hT 0 1).by hg (fun q hq _=>by cases hq;omega)) (.inr hT0)
theorem OuIn.apart (h:OuIn w g T bo vd o) (hT:Tidy w g) (hT0:0<T) (hN:g N=0) (hg:w.grownBy w' (some N)):OuIn w' g T bo vd o:=
 h.chg ((Chg.refl hT 0 1).by hg (fun q hq _=>by cases hq;omega)) (.inr hT0)
end
def DepAt (w:World) (g:Nat→Nat):Value→List SG→Prop
 | v,[]=>v= .slice none 0 0
 | v,[x]=> ∃ bd,v= .slice (some ⟨bd,0,none⟩) 1 1∧Of w g 0 bd 48 (sga x)
 | _,_=>False
def dogF (q:FQ) (d:Nat):Nat:=match q.waits with
 | []=>d
 | k::_=>max k.1 1
def pullO (R:Option SG×FQ) (o:OU):OU:=match R.1 with
 | some x=>{ o with dep:=[x] }
 | none=>{ o with dog:=dogF R.2 o.dog }
theorem mcpull_any (b bo:Nat) (pc:Nat) (sp:Nat→Option Nat) (pq pl:Nat) (fp:Nat→Option Nat) (bl bt:Nat) (m:MC) (hm:m.ok) (o:OU) (n:Nat) (R:Option SG×FQ) (hR:deqN m.now m.rt (n+1) (dueQ m.q m.now)=some R) (hx: ∀ x,R.1=some x→x.sock<8) (g:Nat→Nat) (T:Nat) (hT0:0<T) (w:World) (hT:Tidy w g) (h:McIn w g T b pc sp pq pl fp bl bt m) (hod:o.dep=[]) (ho:OuIn w g (T+76) bo (.slice none 0 0) o):
  Calls Tryz.prog 32 #[.pointer (some ⟨b,0,none⟩), .pointer (some ⟨bo,0,none⟩)] w fun e w'=>e= .returned (.tuple #[])∧ ∃ g' fp' vd,Chg w w' g g' T (T+79)∧McIn w' g' T b pc sp pq pl fp' bl bt { m with q:=R.2 }∧OuIn w' g' (T+76) bo vd (pullO R o)∧DepAt w' g' vd (pullO R o).dep∧R.2.inv:=by
 have hnow:m.now<18446744073709551616:=by have:=hm.now;omega
 have c18:=h.own.1.ce 18;have hrt: ∀ s,m.rt s<18446744073709551616:=fun s=>by
  unfold MC.rt;split
  ·rename_i h8
   cases hs:m.sk s with
   | none=>decide
   | some k=>exact(hm.sk s k h8 hs).1.bb.rate
  ·decide
 have CN:=zH (fun w' g' (h:McIn w' g' T b pc sp pq pl fp bl bt m)=>mcnow_any b pc sp pq pl fp bl bt m g' T w' h);have CR:=zH (fun w' g' (h:McIn w' g' T b pc sp pq pl fp bl bt m)=>mcrates_any b pc sp pq pl fp bl bt m g' T w' h);have CD:=zH (fun rb rc w' g' (hT':Tidy w' g') (h:McIn w' g' T b pc sp pq pl fp bl bt m) (hr:RatesAt w' g' (T+3) rb m.rt)=>fqdeq_any pq m.now rb rc m.rt hnow hrt fp bl bt m.q hm.q n R hR g' (T+3) (by omega) w' hT' h.q hr);rw[sgo_eq]at CD;have hys:R.1.isSome=true→(sgN R.1).sock<8:=fun hs=>by
  cases hr:R.1 with
  | none=>rw[hr]at hs;cases hs
  | some x=>exact hx x hr
 have hyd:(R.1.isSome=true→pullO R o={ o with dep:=[sgN R.1] })∧(R.1.isSome=false→pullO R o={ o with dog:=dogF R.2 o.dog }):=by
  unfold pullO;cases hr:R.1 with
  | none=>exact⟨(fun h=>by cases h),fun _=>rfl⟩
  | some x=>exact⟨fun _=>rfl,(fun h=>by cases h)⟩
 obtain⟨q2,eq2⟩: ∃ z,R.2=z:=⟨_,rfl⟩;rw[eq2]at CD hyd ⊢;obtain⟨y,ey⟩: ∃ z,sgN R.1=z:=⟨_,rfl⟩;rw[ey]at CD hys hyd;obtain⟨is,eis⟩: ∃ z,R.1.isSome=z:=⟨_,rfl⟩;rw[eis]at CD hys hyd;obtain⟨po,epo⟩: ∃ z,pullO R o=z:=⟨_,rfl⟩;rw[epo]at hyd ⊢;have HYD:=zH hyd;unfold sgv at CD;have HH:=zH h;have HT:=zH hT;have HO:=zH ho;clear h hT ho hR hx ey eis eq2 hrt hyd epo;go_enter Tryz.func32,Tryz.ntmps32
 go_upto_region 0 with fail
 go_cut [4,5] (fun v4 v5 wx=> ∃(N:Nat) (g':Nat→Nat) (fp':Nat→Option Nat),v4= .pointer (some ⟨N,0,none⟩)∧v5= .bool is∧At wx N 48 (sga y)∧g' N=0∧McIn wx g' T b pc sp pq pl fp' bl bt { m with q:=q2 }∧OuIn wx g' (T+76) bo (.slice none 0 0) o∧Chg w wx g g' T (T+79)∧q2.inv)
 case first=>
  have X:=HH.out.below (Below.refl w.heap.size w).drew;have C:=(Chg.refl HT.out T (T+79)).drew;have O:=HO.out.below (Below.refl w.heap.size w).drew;refine wp_region_held_drew (S:=fun wq=>wq.cell? ⟨b,18,none⟩=some (.pointer (some ⟨pq,0,none⟩))) (by kernel_rfl) c18 (fun hHeld=> ?_);refine zt 0 ?_;refine zt 1 ?_;refine zt 2 ?_;refine zt 3 ?_;refine zt 4 ?_;refine zt 6 ?_;refine rdZ [5,12] ?_;refine(cnZ 5 rfl (fun K hK=> ?_) (cnZ 12 rfl (fun K hK=> ?_) AllReadyH.nil))
  ·go_simp
   refine(CN.out _ _ X).mono ?_;rintro e w5 ⟨rfl,hw5⟩;subst hw5;refine hK.out _ _ ?_ (fun hHeld=> ?_);focus exact hHeld
   clear hK K;refine zl ?_;refine rdZ [7,12] ?_;refine(cnZ 7 rfl (fun K hK=> ?_) (cnZ 12 rfl (fun K hK=> ?_) AllReadyH.nil))
   ·go_simp
    refine(CR.out _ _ X).mono ?_;rintro e w6 ⟨rb,rc,rfl,hrb1,hrb2,hB6,hRC⟩;have gRB:=C.tidy rb hrb1;have X:=X.below hB6;have C:=C.below hB6;have O:=O.below hB6;(try have BX:=BX.below hB6 BX.lt);refine hK.out _ _ ?_ (fun hHeld=> ?_);focus exact X.own.1.cell 18
    clear hK K;refine zl ?_;refine rdZ [8,12] ?_;refine(cnZ 8 rfl (fun K hK=> ?_) (cnZ 12 rfl (fun K hK=> ?_) AllReadyH.nil))
    ·go_simp
     refine(CD.out rb rc _ _ C.tidy X ⟨by rw[gRB];omega,hrb2,hRC⟩).mono ?_;rintro e w7 ⟨rfl,g7,fp7,h7,hq7,hi7⟩;(try have BXl:=BX.lt);(try have BX:=BX.chg h7 (by rw[gX];omega));(try have gX:=(h7.old _ BXl).trans gX);(try obtain⟨y0,y1,y2,y3,y4,yf⟩:=BX.c5);have X:=X.put_q h7 hq7;have C:=C.trans (h7.mono (by omega) (by omega));have O:=O.chg h7 (by omega);refine hK.out _ _ ?_ (fun hHeld=> ?_);focus exact X.own.1.cell 18
     clear hK K;refine zl ?_;refine zt 9 ?_;refine zt 10 ?_;refine zt 11 ?_;refine zc 12 (fun K hK=> ?_);go_simp;refine hK.out _ _ ?_ (fun hHeld=> ?_);focus exact(World.grownBy_alloc _ _ none).cell hHeld (by simp)
     clear hK K;(try have hrb2:=Nat.lt_of_lt_of_le hrb2 (World.grownBy_alloc w6 (.cells sg0 48) none).size);(try have hRC:=fun s hs=>(World.grownBy_alloc w6 (.cells sg0 48) none).cell (hRC s hs) (by simp));have XA:=X;have CA:=C;have OA:=O;have BX:=X.own.1.box 48 sg0;have gX:=C.tidy _ (Nat.le_refl _);have sX:=C.size;(try simp only[drew_size]at BX gX sX);have X:=X.below ((Below.refl _ _).alloc (Nat.le_refl _) (.cells sg0 48));have C:=C.alloc (.cells sg0 48);have O:=O.below ((Below.refl _ _).alloc (Nat.le_refl _) (.cells sg0 48))
     refine zc 13 (fun K hK=> ?_);go_simp;refine hK.out _ _ ?_ (fun hHeld=> ?_);focus first | ((with_reducible show World.cell? (World.alloc _ _) _=_);exact(World.grownBy_alloc _ _ none).cell (XA.own.1.cell 18) (by simp)) | exact(X.apart C.tidy hT0 gX (set5 BX _ _ _ _ _).2).own.1.cell 18
     clear hK K;refine zl ?_;refine zt 14 ?_;refine dnZ ?_;go_wp2_with fail
     go_meet
     first
      | ((with_reducible have mark:World.cell? (World.alloc w7 _) _=_:=hHeld);exact⟨_,g7,fp7,rfl,rfl,XA.own.1.box _ _,gX,XA.below ((Below.refl w7.heap.size w7).alloc (Nat.le_refl _) _),OA.below ((Below.refl w7.heap.size w7).alloc (Nat.le_refl _) _),CA.alloc _,hi7⟩)
      | (have P:=set5 BX (.int .i64 y.sock) (.int .u64 y.frm) (.int .i64 y.len) (.int .u64 y.stamp) (.bool y.again);exact⟨_,g7,fp7,rfl,rfl,P.1,gX,X.apart C.tidy hT0 gX P.2,O.apart C.tidy (by omega) gX P.2,C.by P.2 (fun q hq hlt=>by cases hq;omega),hi7⟩)
    ·go_simp
     refine hK.out _ _ ?_ (fun hHeld=> ?_);focus exact(World.grownBy_alloc _ _ none).cell hHeld (by simp)
     clear hK K;(try have hrb2:=Nat.lt_of_lt_of_le hrb2 (World.grownBy_alloc w6 (.cells sg0 48) none).size);(try have hRC:=fun s hs=>(World.grownBy_alloc w6 (.cells sg0 48) none).cell (hRC s hs) (by simp));have XA:=X;have CA:=C;have OA:=O;have BX:=X.own.1.box 48 sg0;have gX:=C.tidy _ (Nat.le_refl _);have sX:=C.size;(try simp only[drew_size]at BX gX sX);have X:=X.below ((Below.refl _ _).alloc (Nat.le_refl _) (.cells sg0 48));have C:=C.alloc (.cells sg0 48);have O:=O.below ((Below.refl _ _).alloc (Nat.le_refl _) (.cells sg0 48))
     refine zc 8 (fun K hK=> ?_);go_simp;refine(CD.out rb rc _ _ C.tidy X ⟨by rw[gRB];omega,hrb2,hRC⟩).mono ?_;rintro e w7 ⟨rfl,g7,fp7,h7,hq7,hi7⟩;(try have BXl:=BX.lt);(try have BX:=BX.chg h7 (by rw[gX];omega));(try have gX:=(h7.old _ BXl).trans gX);(try obtain⟨y0,y1,y2,y3,y4,yf⟩:=BX.c5);have X:=X.put_q h7 hq7;have C:=C.trans (h7.mono (by omega) (by omega));have O:=O.chg h7 (by omega);refine hK.out _ _ ?_ (fun hHeld=> ?_);focus exact X.own.1.cell 18
     clear hK K;refine zl ?_;refine zt 9 ?_;refine zt 10 ?_;refine zt 11 ?_;refine zc 13 (fun K hK=> ?_);go_simp;refine hK.out _ _ ?_ (fun hHeld=> ?_);focus first | ((with_reducible show World.cell? (World.alloc _ _) _=_);exact(World.grownBy_alloc _ _ none).cell (XA.own.1.cell 18) (by simp)) | exact(X.apart C.tidy hT0 gX (set5 BX _ _ _ _ _).2).own.1.cell 18
     clear hK K;refine zl ?_;refine zt 14 ?_;refine dnZ ?_;go_wp2_with fail
     go_meet
     first
      | ((with_reducible have mark:World.cell? (World.alloc w7 _) _=_:=hHeld);exact⟨_,g7,fp7,rfl,rfl,XA.own.1.box _ _,gX,XA.below ((Below.refl w7.heap.size w7).alloc (Nat.le_refl _) _),OA.below ((Below.refl w7.heap.size w7).alloc (Nat.le_refl _) _),CA.alloc _,hi7⟩)
      | (have P:=set5 BX (.int .i64 y.sock) (.int .u64 y.frm) (.int .i64 y.len) (.int .u64 y.stamp) (.bool y.again);exact⟨_,g7,fp7,rfl,rfl,P.1,gX,X.apart C.tidy hT0 gX P.2,O.apart C.tidy (by omega) gX P.2,C.by P.2 (fun q hq hlt=>by cases hq;omega),hi7⟩)
   ·go_simp
    refine hK.out _ _ ?_ (fun hHeld=> ?_);focus exact(World.grownBy_alloc _ _ none).cell hHeld (by simp)
    clear hK K;(try have hrb2:=Nat.lt_of_lt_of_le hrb2 (World.grownBy_alloc w6 (.cells sg0 48) none).size);(try have hRC:=fun s hs=>(World.grownBy_alloc w6 (.cells sg0 48) none).cell (hRC s hs) (by simp));have XA:=X;have CA:=C;have OA:=O;have BX:=X.own.1.box 48 sg0;have gX:=C.tidy _ (Nat.le_refl _);have sX:=C.size;(try simp only[drew_size]at BX gX sX);have X:=X.below ((Below.refl _ _).alloc (Nat.le_refl _) (.cells sg0 48));have C:=C.alloc (.cells sg0 48);have O:=O.below ((Below.refl _ _).alloc (Nat.le_refl _) (.cells sg0 48))
    refine zc 7 (fun K hK=> ?_);go_simp;refine(CR.out _ _ X).mono ?_;rintro e w6 ⟨rb,rc,rfl,hrb1,hrb2,hB6,hRC⟩;have gRB:=C.tidy rb hrb1;have X:=X.below hB6;have C:=C.below hB6;have O:=O.below hB6;(try have BX:=BX.below hB6 BX.lt);refine hK.out _ _ ?_ (fun hHeld=> ?_);focus exact X.own.1.cell 18
    clear hK K;refine zl ?_;refine zc 8 (fun K hK=> ?_);go_simp;refine(CD.out rb rc _ _ C.tidy X ⟨by rw[gRB];omega,hrb2,hRC⟩).mono ?_;rintro e w7 ⟨rfl,g7,fp7,h7,hq7,hi7⟩;(try have BXl:=BX.lt);(try have BX:=BX.chg h7 (by rw[gX];omega));(try have gX:=(h7.old _ BXl).trans gX);(try obtain⟨y0,y1,y2,y3,y4,yf⟩:=BX.c5);have X:=X.put_q h7 hq7;have C:=C.trans (h7.mono (by omega) (by omega));have O:=O.chg h7 (by omega);refine hK.out _ _ ?_ (fun hHeld=> ?_);focus exact X.own.1.cell 18
    clear hK K;refine zl ?_;refine zt 9 ?_;refine zt 10 ?_;refine zt 11 ?_;refine zc 13 (fun K hK=> ?_);go_simp;refine hK.out _ _ ?_ (fun hHeld=> ?_);focus first | ((with_reducible show World.cell? (World.alloc _ _) _=_);exact(World.grownBy_alloc _ _ none).cell (XA.own.1.cell 18) (by simp)) | exact(X.apart C.tidy hT0 gX (set5 BX _ _ _ _ _).2).own.1.cell 18
    clear hK K;refine zl ?_;refine zt 14 ?_;refine dnZ ?_;go_wp2_with fail
    go_meet
    first
     | ((with_reducible have mark:World.cell? (World.alloc w7 _) _=_:=hHeld);exact⟨_,g7,fp7,rfl,rfl,XA.own.1.box _ _,gX,XA.below ((Below.refl w7.heap.size w7).alloc (Nat.le_refl _) _),OA.below ((Below.refl w7.heap.size w7).alloc (Nat.le_refl _) _),CA.alloc _,hi7⟩)
     | (have P:=set5 BX (.int .i64 y.sock) (.int .u64 y.frm) (.int .i64 y.len) (.int .u64 y.stamp) (.bool y.again);exact⟨_,g7,fp7,rfl,rfl,P.1,gX,X.apart C.tidy hT0 gX P.2,O.apart C.tidy (by omega) gX P.2,C.by P.2 (fun q hq hlt=>by cases hq;omega),hi7⟩)
  ·go_simp
   refine hK.out _ _ ?_ (fun hHeld=> ?_);focus exact(World.grownBy_alloc _ _ none).cell hHeld (by simp)
   clear hK K;(try have hrb2:=Nat.lt_of_lt_of_le hrb2 (World.grownBy_alloc w6 (.cells sg0 48) none).size);(try have hRC:=fun s hs=>(World.grownBy_alloc w6 (.cells sg0 48) none).cell (hRC s hs) (by simp));have XA:=X;have CA:=C;have OA:=O;have BX:=X.own.1.box 48 sg0;have gX:=C.tidy _ (Nat.le_refl _);have sX:=C.size;(try simp only[drew_size]at BX gX sX);have X:=X.below ((Below.refl _ _).alloc (Nat.le_refl _) (.cells sg0 48));have C:=C.alloc (.cells sg0 48);have O:=O.below ((Below.refl _ _).alloc (Nat.le_refl _) (.cells sg0 48))
   refine zc 5 (fun K hK=> ?_);go_simp;refine(CN.out _ _ X).mono ?_;rintro e w5 ⟨rfl,hw5⟩;subst hw5;refine hK.out _ _ ?_ (fun hHeld=> ?_);focus exact hHeld
   clear hK K;refine zl ?_;refine zc 7 (fun K hK=> ?_);go_simp;refine(CR.out _ _ X).mono ?_;rintro e w6 ⟨rb,rc,rfl,hrb1,hrb2,hB6,hRC⟩;have gRB:=C.tidy rb hrb1;have X:=X.below hB6;have C:=C.below hB6;have O:=O.below hB6;(try have BX:=BX.below hB6 BX.lt);refine hK.out _ _ ?_ (fun hHeld=> ?_);focus exact X.own.1.cell 18
   clear hK K;refine zl ?_;refine zc 8 (fun K hK=> ?_);go_simp;refine(CD.out rb rc _ _ C.tidy X ⟨by rw[gRB];omega,hrb2,hRC⟩).mono ?_;rintro e w7 ⟨rfl,g7,fp7,h7,hq7,hi7⟩;(try have BXl:=BX.lt);(try have BX:=BX.chg h7 (by rw[gX];omega));(try have gX:=(h7.old _ BXl).trans gX);(try obtain⟨y0,y1,y2,y3,y4,yf⟩:=BX.c5);have X:=X.put_q h7 hq7;have C:=C.trans (h7.mono (by omega) (by omega));have O:=O.chg h7 (by omega);refine hK.out _ _ ?_ (fun hHeld=> ?_);focus exact X.own.1.cell 18
   clear hK K;refine zl ?_;refine zt 9 ?_;refine zt 10 ?_;refine zt 11 ?_;refine zc 13 (fun K hK=> ?_);go_simp;refine hK.out _ _ ?_ (fun hHeld=> ?_);focus first | ((with_reducible show World.cell? (World.alloc _ _) _=_);exact(World.grownBy_alloc _ _ none).cell (XA.own.1.cell 18) (by simp)) | exact(X.apart C.tidy hT0 gX (set5 BX _ _ _ _ _).2).own.1.cell 18
   clear hK K;refine zl ?_;refine zt 14 ?_;refine dnZ ?_;go_wp2_with fail
   go_meet
   first
    | ((with_reducible have mark:World.cell? (World.alloc w7 _) _=_:=hHeld);exact⟨_,g7,fp7,rfl,rfl,XA.own.1.box _ _,gX,XA.below ((Below.refl w7.heap.size w7).alloc (Nat.le_refl _) _),OA.below ((Below.refl w7.heap.size w7).alloc (Nat.le_refl _) _),CA.alloc _,hi7⟩)
    | (have P:=set5 BX (.int .i64 y.sock) (.int .u64 y.frm) (.int .i64 y.len) (.int .u64 y.stamp) (.bool y.again);exact⟨_,g7,fp7,rfl,rfl,P.1,gX,X.apart C.tidy hT0 gX P.2,O.apart C.tidy (by omega) gX P.2,C.by P.2 (fun q hq hlt=>by cases hq;omega),hi7⟩)
 case rest=>
  obtain⟨N,g7,fp7,rfl,rfl,Q,gN,X,O,C,hi7⟩:=hcut;have HX:=zH X;have HC:=zH C;have HOu:=zH O;have HQ:=zH Q;have HI7:=zH hi7;have CL:=zH (fun hs w' g' (h:McIn w' g' T b pc sp pq pl fp7 bl bt { m with q:=q2 })=>lednote_any pl y.sock 1 hs (by omega) w' (by obtain⟨f,hf⟩:=h.led;exact⟨f,hf.1⟩));have CW:=zH (fun w' g' (h:McIn w' g' T b pc sp pq pl fp7 bl bt { m with q:=q2 })=>fqdog_any pq fp7 bl bt q2 g' (T+3) w' h.q);clear X C O Q CN CR CD HH HT HO hi7 c18;cases is with
  | true=>
   have HPO:=zH (HYD.out.1 rfl);have c19:=HX.out.own.1.ce 19;have q0:=HQ.out.ce 0;go_upto_region 2 with fail
   refine wp_region_held_drew (S:=fun wq=>wq.cell? ⟨b,19,none⟩=some (.pointer (some ⟨pl,0,none⟩))∧wq.cell? ⟨N,0,none⟩=some (.int .i64 y.sock)) (by kernel_rfl) ⟨c19,q0⟩ (fun hHeld=> ?_);refine zt 0 ?_;refine zt 1 ?_;refine zt 2 ?_;refine zt 3 ?_;refine zt 4 ?_;refine zt 5 ?_;refine zc 6 (fun K hK=> ?_);go_simp;refine(CL.out (hys rfl) _ _ (HX.out.below (Below.refl _ _).drew)).mono ?_;rintro e w8 ⟨⟨z,rfl⟩,f,hP⟩;obtain⟨X,c⟩:=(HX.out.below (Below.refl _ _).drew).put_led HC.out.tidy.drew hP;have Q:=HQ.out.drew.chg c (by omega);have O:=(HOu.out.below (Below.refl _ _).drew).chg c (by omega);have C:=HC.out.drew.trans (c.mono (by omega) (by omega));refine hK.out _ _ ?_ (fun hHeld=> ?_);focus exact⟨X.own.1.cell 19,Q.cell 0⟩
   clear hK K;refine zl ?_;refine dnZ ?_;obtain⟨vx,vf,O1,O2,O3⟩:=O;obtain⟨q0,q1,q2',q3,q4,_⟩:=Q.c5;have d0:=O1.1.ce 0;have f0:=O1.1.free 0;have hbo:=O1.1.lt;have P:=Put.set (u:= .slice (some ⟨w8.heap.size,0,none⟩) 1 1) O1.1 0;simp only[List.setIfInBounds_toArray,List.set_cons_zero]at P;have CG:=(Chg.refl C.tidy (T+76) (T+77)).by P.2 (fun q hq hlt=>by cases hq;have:=O1.2;omega)
   have gS:g7 w8.heap.size=0:=C.tidy _ (Nat.le_refl _);have hsz:(w8.setCell ⟨bo,0,none⟩ (.slice (some ⟨w8.heap.size,0,none⟩) 1 1)).heap.size=w8.heap.size:=by simp[World.setCell]
   have HX9:=zH (((X.chg CG (.inl (Nat.le_refl _))).below ((Below.refl _ _).alloc (Nat.le_refl _) (.cells (sga y) 48))));have HC9:=zH ((C.trans (CG.mono (by omega) (by omega))).alloc (.cells (sga y) 48));have hO9:OuIn (w8.setCell ⟨bo,0,none⟩ (.slice (some ⟨w8.heap.size,0,none⟩) 1 1)) g7 (T+76) bo (.slice (some ⟨w8.heap.size,0,none⟩) 1 1) { o with dep:=[y] }:=⟨vx,vf,⟨P.1,O1.2⟩,O2.chg CG (by omega),O3.chg CG (by omega)⟩;have HO9:=zH (hO9.below ((Below.refl _ _).alloc (Nat.le_refl _) (.cells (sga y) 48)));have hD9:Of ((w8.setCell ⟨bo,0,none⟩ (.slice (some ⟨w8.heap.size,0,none⟩) 1 1)).alloc (.cells (sga y) 48)) g7 0 w8.heap.size 48 (sga y):=⟨by have t:=At.made (w8.setCell ⟨bo,0,none⟩ (.slice (some ⟨w8.heap.size,0,none⟩) 1 1)) 48 (sga y);rw[hsz]at t;exact t,gS⟩;have HD9:=zH hD9;clear X C O1 O2 O3 Q P CG hO9 hD9 hP c hHeld HX HC HOu HQ;go_wp2_with fail
   refine bodyPost_ret (results_none rfl _ _ _) rfl ?_;rw[HPO.out];first | exact⟨rfl,g7,HC9.out,⟨fp7,HX9.out⟩,⟨_,HO9.out,⟨_,rfl,HD9.out⟩⟩,HI7.out⟩ | exact⟨rfl,g7,HC9.out,fp7,HX9.out,⟨_,HO9.out,⟨_,rfl,HD9.out⟩⟩,HI7.out⟩ | exact⟨rfl,g7,HC9.out,⟨fp7,HX9.out⟩,_,HO9.out,⟨_,rfl,HD9.out⟩,HI7.out⟩
  | false=>
   have HPO:=zH (HYD.out.2 rfl);cases hw:q2.waits with
   | nil=>
    rw[hw]at CW;have c18:=HX.out.own.1.ce 18;go_wp2_with fail
    refine(CW.out _ _ HX.out).mono ?_;rintro e w8 ⟨rfl,hB⟩;have HB:=zH hB;clear hB;go_wp2_with fail
    go_end0
    rw[HPO.out];have ed:dogF q2 o.dog=o.dog:=by unfold dogF;rw[hw]
    rw[ed];exact⟨rfl,g7,fp7,_,HC.out.below HB.out,HX.out.below HB.out,HOu.out.below HB.out,by rw[hod];exact rfl,HI7.out⟩
   | cons kk rr=>
    rw[hw]at CW;have c18:=HX.out.own.1.ce 18;obtain⟨mx,emx⟩: ∃ z,max kk.1 1=z:=⟨_,rfl⟩;have em:max (kk.1:Int) 1=(mx:Int):=by omega
    have HEM:=zH emx;clear emx;go_wp2_with fail
    refine(CW.out _ _ HX.out).mono ?_;rintro e w8 ⟨rfl,hB⟩;obtain⟨vx,vf,O1,O2,O3⟩:=HOu.out.below hB;have d3:=O1.1.ce 3;have f3:=O1.1.free 3;have C8:=HC.out.below hB;have P:=Put.set (u:= .int .u64 mx) O1.1 3;simp only[List.setIfInBounds_toArray,List.set_cons_zero,List.set_cons_succ]at P;have CG:=(Chg.refl C8.tidy (T+76) (T+77)).by P.2 (fun q hq hlt=>by cases hq;have:=O1.2;omega)
    have hO9:OuIn (w8.setCell ⟨bo,3,none⟩ (.int .u64 mx)) g7 (T+76) bo (.slice none 0 0) { o with dog:=mx }:=⟨vx,vf,⟨P.1,O1.2⟩,O2.chg CG (by omega),O3.chg CG (by omega)⟩;have HO9:=zH hO9;have HX9:=zH ((HX.out.below hB).chg CG (.inl (Nat.le_refl _)));have HC9:=zH (C8.trans (CG.mono (by omega) (by omega)));clear O1 O2 O3 C8 P CG hO9 hB;go_wp2_with fail
    go_end0
    rw[HPO.out];have ed:dogF q2 o.dog=mx:=by unfold dogF;rw[hw];exact HEM.out
    rw[ed];exact⟨rfl,g7,fp7,_,HC9.out,HX9.out,HO9.out,by rw[hod];exact rfl,HI7.out⟩
end
section
open Go.RowKit Go.Lib
theorem McIn.conf {w:World} {g:Nat→Nat} {T b pc pq pl bl bt:Nat} {sp fp:Nat→Option Nat} {m:MC} (h:McIn w g T b pc sp pq pl fp bl bt m) (hT:Tidy w g) (c:CF):
  McIn (((((((((w.setCell ⟨b,0,none⟩ (.int .i64 (c.quantum:Nat))).setCell ⟨b,1,none⟩ (.int .i64 (c.first:Nat))).setCell ⟨b,2,none⟩ (.int .i64 (c.limit:Nat))).setCell ⟨b,3,none⟩ (.int .i64 (c.flowLimit:Nat))).setCell ⟨b,4,none⟩ (.int .u64 (c.horizon:Nat))).setCell ⟨b,5,none⟩ (.int .u64 (c.maxRate:Nat))).setCell ⟨b,6,none⟩ (.bool c.drop)).setCell ⟨b,7,none⟩ (.int .i64 (c.cap:Nat))).setCell ⟨b,8,none⟩ (.int .i64 (c.mss:Nat))) g T b pc sp pq pl fp bl bt { m with c:=c }∧Chg w (((((((((w.setCell ⟨b,0,none⟩ (.int .i64 (c.quantum:Nat))).setCell ⟨b,1,none⟩ (.int .i64 (c.first:Nat))).setCell ⟨b,2,none⟩ (.int .i64 (c.limit:Nat))).setCell ⟨b,3,none⟩ (.int .i64 (c.flowLimit:Nat))).setCell ⟨b,4,none⟩ (.int .u64 (c.horizon:Nat))).setCell ⟨b,5,none⟩ (.int .u64 (c.maxRate:Nat))).setCell ⟨b,6,none⟩ (.bool c.drop)).setCell ⟨b,7,none⟩ (.int .i64 (c.cap:Nat))).setCell ⟨b,8,none⟩ (.int .i64 (c.mss:Nat))) g g T (T+1):=by
 have A:=(((((((((h.own.1.set (u:= .int .i64 (c.quantum:Nat)) 0).set (u:= .int .i64 (c.first:Nat)) 1).set (u:= .int .i64 (c.limit:Nat)) 2).set (u:= .int .i64 (c.flowLimit:Nat)) 3).set (u:= .int .u64 (c.horizon:Nat)) 4).set (u:= .int .u64 (c.maxRate:Nat)) 5).set (u:= .bool c.drop) 6).set (u:= .int .i64 (c.cap:Nat)) 7).set (u:= .int .i64 (c.mss:Nat)) 8);simp only[mca,List.setIfInBounds_toArray,List.set_cons_zero,List.set_cons_succ]at A;have G:=(((((((((grown_set w b 0 (.int .i64 (c.quantum:Nat))).trans (grown_set _ b 1 (.int .i64 (c.first:Nat)))).trans (grown_set _ b 2 (.int .i64 (c.limit:Nat)))).trans (grown_set _ b 3 (.int .i64 (c.flowLimit:Nat)))).trans (grown_set _ b 4 (.int .u64 (c.horizon:Nat)))).trans (grown_set _ b 5 (.int .u64 (c.maxRate:Nat)))).trans (grown_set _ b 6 (.bool c.drop))).trans (grown_set _ b 7 (.int .i64 (c.cap:Nat)))).trans (grown_set _ b 8 (.int .i64 (c.mss:Nat))));have C:=(Chg.refl hT T (T+1)).by G (fun q hq hlt=>by cases hq;have:=h.own.2;omega)
 exact⟨⟨⟨A,h.own.2⟩,h.clk.chg C (by omega),h.led.imp fun _ k=>k.chg C (by omega),h.q.chg C (by omega),fun s hs=>(h.sk s hs).chg C (by omega)⟩,C⟩
def MC.set_ (m:MC) (c:CR):MC:=if c.may=true then { m with c:=c.cf,q:={ m.q with c:=c.cf } }else m
theorem mcset_any (b:Nat) (c:CR) (hmr:c.maxRate<18446744073709551616) (pc:Nat) (sp:Nat→Option Nat) (pq pl:Nat) (fp:Nat→Option Nat) (bl bt:Nat) (m:MC) (g:Nat→Nat) (T:Nat) (hT0:0<T) (w:World) (hT:Tidy w g) (h:McIn w g T b pc sp pq pl fp bl bt m):
  Calls Tryz.prog 33 #[.pointer (some ⟨b,0,none⟩),crv c] w fun e w'=>e= .returned (.int .i64 (if c.may=true then 0 else 13))∧Chg w w' g g T (T+28)∧McIn w' g T b pc sp pq pl fp bl bt (m.set_ c):=by
 obtain⟨N0,e0⟩: ∃ z,w.heap.size=z:=⟨_,rfl⟩;have gN:g N0=0:=hT _ (by omega);have CS:=zH (fun w' (hT':Tidy w' g) (h:McIn w' g T b pc sp pq pl fp bl bt m)=>fqset_any pq c hmr fp bl bt m.q g (T+3) (by omega) w' hT' h.q);have hcf:c.may=true→(c.quantum=c.cf.quantum∧c.first=c.cf.first∧c.limit=c.cf.limit∧c.flowLimit=c.cf.flowLimit∧c.cap=c.cf.cap∧c.mss=c.cf.mss)∧c.horizon=c.cf.horizon∧c.maxRate=c.cf.maxRate∧c.drop=c.cf.drop:=fun hm=>⟨(CR.may_ok hm hmr).2,rfl,rfl,rfl⟩
 unfold MC.set_;obtain⟨my,emy⟩: ∃ z,c.may=z:=⟨_,rfl⟩;rw[emy]at CS hcf ⊢;have HCF:=zH hcf;have HT:=zH hT;have HH:=zH h;clear h hT hcf hmr emy;unfold crv at CS ⊢;go_enter Tryz.func33,Tryz.ntmps33
 go_upto_region 1 with fail
 refine wp_named (fun W=>At W N0 24 #[.int .i64 c.quantum, .int .i64 c.first, .int .i64 c.limit, .int .i64 c.flowLimit, .int .u64 (c.horizon:Nat), .int .u64 (c.maxRate:Nat), .bool c.drop, .int .i64 c.cap, .int .i64 c.mss]∧McIn W g T b pc sp pq pl fp bl bt m∧Chg w W g g T (T+28)) ⟨by rw[←e0];exact At.made _ _ _,HH.out.below ((Below.refl _ w).alloc (Nat.le_refl _) _),(Chg.refl HT.out _ _).alloc _⟩ (fun W hW=> ?_);obtain⟨Q,X,C⟩:=hW;have c18:=X.own.1.ce 18;have q0:=Q.ce 0;have q1:=Q.ce 1;have q2:=Q.ce 2;have q3:=Q.ce 3;have q4:=Q.ce 4;have q5:=Q.ce 5;have q6:=Q.ce 6;have q7:=Q.ce 7;have q8:=Q.ce 8;have HQ:=zH Q;have HX:=zH X;have HC:=zH C;clear Q X C HH HT;refine wp_region_held_drew (S:=fun wq=>wq.cell? ⟨b,18,none⟩=some (.pointer (some ⟨pq,0,none⟩))∧wq.cell? ⟨N0,0,none⟩=some (.int .i64 c.quantum)∧wq.cell? ⟨N0,1,none⟩=some (.int .i64 c.first)∧wq.cell? ⟨N0,2,none⟩=some (.int .i64 c.limit)∧wq.cell? ⟨N0,3,none⟩=some (.int .i64 c.flowLimit)∧wq.cell? ⟨N0,4,none⟩=some (.int .u64 (c.horizon:Nat))∧wq.cell? ⟨N0,5,none⟩=some (.int .u64 (c.maxRate:Nat))∧wq.cell? ⟨N0,6,none⟩=some (.bool c.drop)∧wq.cell? ⟨N0,7,none⟩=some (.int .i64 c.cap)∧wq.cell? ⟨N0,8,none⟩=some (.int .i64 c.mss)) (by kernel_rfl) ⟨c18,q0,q1,q2,q3,q4,q5,q6,q7,q8⟩ (fun hHeld=> ?_);refine zt 0 ?_;refine zt 1 ?_;refine zt 2 ?_;refine zt 3 ?_;refine zt 4 ?_;refine zc 5 (fun K hK=> ?_)
 go_simp;refine(CS.out _ HC.out.tidy.drew (HX.out.below (Below.refl _ _).drew)).mono ?_;rintro e w2 ⟨rfl,h2,hq2⟩;have X:=(HX.out.below (Below.refl _ _).drew).put_q h2 hq2;have Q:=HQ.out.drew.chg h2 (by omega);have C:=HC.out.drew.trans (h2.mono (by omega) (by omega));refine hK.out _ _ ?_ (fun hHeld=> ?_);focus exact⟨X.own.1.cell 18,Q.cell 0,Q.cell 1,Q.cell 2,Q.cell 3,Q.cell 4,Q.cell 5,Q.cell 6,Q.cell 7,Q.cell 8⟩
 clear hK K;refine zl ?_;refine zt 6 ?_;refine dnZ ?_;have HX2:=zH X;have HQ2:=zH Q;have HC2:=zH C;clear X Q C h2 hq2 hHeld HX HQ HC CS c18 q0 q1 q2 q3 q4 q5 q6 q7 q8;cases my with
 | false=>
  simp only[Bool.false_eq_true,if_false]at HX2 ⊢;go_wp2_with fail
  go_ret
  exact⟨rfl,HC2.out,HX2.out⟩
 | true=>
  simp only[if_true]at HX2 ⊢;obtain⟨⟨k1,k2,k3,k4,k5,k6⟩,k7,k8,k9⟩:=HCF.out rfl;rw[k1,k2,k3,k4,k5,k6,k7,k8,k9]at HQ2;clear k1 k2 k3 k4 k5 k6 k7 k8 k9 HCF;have q0:=HQ2.out.ce 0;have q1:=HQ2.out.ce 1;have q2:=HQ2.out.ce 2;have q3:=HQ2.out.ce 3;have q4:=HQ2.out.ce 4;have q5:=HQ2.out.ce 5;have q6:=HQ2.out.ce 6;have q7:=HQ2.out.ce 7;have q8:=HQ2.out.ce 8;obtain⟨y0,y1,y2,y3,y4,y5,y6,y7,y8,yf⟩:w2.cell? ⟨b,0,none⟩=some (.int .i64 (m.c.quantum:Nat))∧w2.cell? ⟨b,1,none⟩=some (.int .i64 (m.c.first:Nat))∧w2.cell? ⟨b,2,none⟩=some (.int .i64 (m.c.limit:Nat))∧w2.cell? ⟨b,3,none⟩=some (.int .i64 (m.c.flowLimit:Nat))∧w2.cell? ⟨b,4,none⟩=some (.int .u64 (m.c.horizon:Nat))∧w2.cell? ⟨b,5,none⟩=some (.int .u64 (m.c.maxRate:Nat))∧w2.cell? ⟨b,6,none⟩=some (.bool m.c.drop)∧w2.cell? ⟨b,7,none⟩=some (.int .i64 (m.c.cap:Nat))∧w2.cell? ⟨b,8,none⟩=some (.int .i64 (m.c.mss:Nat))∧ ∀ i,w2.frozen? ⟨b,i,none⟩=false:=⟨HX2.out.own.1.cell 0,HX2.out.own.1.cell 1,HX2.out.own.1.cell 2,HX2.out.own.1.cell 3,HX2.out.own.1.cell 4,HX2.out.own.1.cell 5,HX2.out.own.1.cell 6,HX2.out.own.1.cell 7,HX2.out.own.1.cell 8,fun i=>HX2.out.own.1.free i⟩;have P:=HX2.out.conf HC2.out.tidy c.cf;have HP:=zH P;clear P;go_wp2_with fail
  go_ret
  exact⟨rfl,HC2.out.trans (HP.out.2.mono (Nat.le_refl _) (by omega)),HP.out.1⟩
end
section
open Go.RowKit Go.Lib
theorem mca_put (c:CF) (pc:Nat) (sp:Nat→Option Nat) (pq pl s:Nat) (hs:s<8) (v:Option Nat):(mca c pc sp pq pl).setIfInBounds (10+s) (pval v)=mca c pc (putF sp s v) pq pl:=by
 match s,hs with
 | 0,_=>rfl
 | 1,_=>rfl
 | 2,_=>rfl
 | 3,_=>rfl
 | 4,_=>rfl
 | 5,_=>rfl
 | 6,_=>rfl
 | 7,_=>rfl
section
variable {w w':World} {g g':Nat→Nat} {T b pc pq pl bl bt:Nat} {sp fp:Nat→Option Nat} {m:MC}
theorem McIn.ptr_ (h:McIn w g T b pc sp pq pl fp bl bt m) (hT:Tidy w g) {s:Nat} (hs:s<8) (v:Option Nat) (x:Option SK) (hx:SkAt w g (T+28+6*s) v x):McIn (w.setCell ⟨b,10+s,none⟩ (pval v)) g T b pc (putF sp s v) pq pl fp bl bt { m with sk:=putF m.sk s x }∧Chg w (w.setCell ⟨b,10+s,none⟩ (pval v)) g g T (T+1):=by
 have P:=Put.set (u:=pval v) h.own.1 (10+s);rw[mca_put _ _ _ _ _ s hs]at P;have c:=(Chg.refl hT T (T+1)).put P (fun _=>by have:=h.own.2;omega);refine⟨⟨h.own.put P,h.clk.chg c (by omega),h.led.imp fun _ k=>k.chg c (by omega),h.q.chg c (by omega),fun j hj=> ?_⟩,c⟩;by_cases e:j=s
 ·subst e
  show SkAt _ g _ (putF sp j v j) (putF m.sk j x j)
  rw[putF_at,putF_at];exact hx.chg c (by omega)
 ·show SkAt _ g _ (putF sp s v j) (putF m.sk s x j)
  rw[putF_ne _ _ e,putF_ne _ _ e];exact(h.sk j hj).chg c (by omega)
end
def closeO (q:FQ) (s:Nat):FQ:=match q.fl s with
 | none=>q
 | some f=>closeQ q s f
theorem closeO_inv {q:FQ} (h:q.inv) {s:Nat} (hs:s<8):(closeO q s).inv:=by
 unfold closeO;cases hf:q.fl s with
 | none=>exact h
 | some f=>exact closeQ_inv h hs hf
theorem closeO_c (q:FQ) (s:Nat):(closeO q s).c=q.c:=by
 unfold closeO;cases hf:q.fl s<;>rfl
theorem fqclose_any (b s:Nat) (hs:s<8) (fp:Nat→Option Nat) (bl bt:Nat) (q:FQ) (hi:q.inv) (g:Nat→Nat) (T:Nat) (hT0:0<T) (w:World) (hT:Tidy w g) (h:FqIn w g T b fp bl bt q):
  Calls Tryz.prog 96 #[.pointer (some ⟨b,0,none⟩), .int .i64 s] w fun e w'=> ∃ v',e= .returned v'∧ ∃ g' fp',Chg w w' g g' T (T+25)∧FqIn w' g' T b fp' bl bt (closeO q s)∧Sli w' g' 0 48 5 v' (flSegs (q.fl s)).length ((flSegs (q.fl s)).flatMap sgl):=by
 unfold closeO;cases hf:q.fl s with
 | none=>
  refine(fqclose_none b s hs fp bl bt q hf g T w h).mono ?_;rintro e w' ⟨rfl,rfl⟩;exact⟨_,rfl,g,fp,Chg.refl hT _ _,h,Sli.nil _ _ _ _ _⟩
 | some f=>exact fqclose_some b s hs fp bl bt q hi f hf g T hT0 w hT h
theorem sli_seg {w:World} {g:Nat→Nat} {i:Nat} {a:Option Addr} {n c:Nat} {l:List SG} (h:Sli w g i 48 5 (.slice a n c) n (l.flatMap sgl)) (hl:l.length=n) {j:Nat} {x:SG} (hx:l[j]? =some x): ∃ bb off,a=some ⟨bb,off,none⟩∧ ∀ q,q<5→w.cell? ⟨bb,off+j*5+q,none⟩=(sgl x)[q]? :=by
 have hj:=(List.getElem?_eq_some_iff.1 hx).1;rcases h.form with⟨_,e,_⟩ | ⟨bb,off,cap,e,_⟩
 ·omega
 ·cases e
  refine⟨bb,off,rfl,fun q hq=> ?_⟩;rw[Nat.add_assoc,h.cells (j*5+q) (by omega)];exact flat_at sgl_len hx q hq
theorem mcshut_any (b bo s:Nat) (hs:s<8) (pc:Nat) (sp:Nat→Option Nat) (pq pl:Nat) (fp:Nat→Option Nat) (bl bt:Nat) (m:MC) (hm:m.ok) (vd:Value) (o:OU) (hl:o.drop.length≤1000∧o.fates.length≤1000) (g:Nat→Nat) (T:Nat) (hT0:0<T) (w:World) (hT:Tidy w g) (h:McIn w g T b pc sp pq pl fp bl bt m) (ho:OuIn w g (T+76) bo vd o):
  Calls Tryz.prog 57 #[.pointer (some ⟨b,0,none⟩), .int .i64 s, .pointer (some ⟨bo,0,none⟩)] w fun e w'=>e= .returned (.tuple #[])∧ ∃ g' sp' fp',Chg w w' g g' T (T+79)∧McIn w' g' T b pc sp' pq pl fp' bl bt { m with sk:=putF m.sk s none,q:=closeO m.q s }∧OuIn w' g' (T+76) bo vd { o with drop:=o.drop++flSegs (m.q.fl s),fates:=o.fates++List.replicate (flSegs (m.q.fl s)).length 5 }:=by
 have cs:=h.sock hs;have hs8:(s:Int)<8:=by omega
 have fs:=h.own.1.free (10+s);have P:=h.ptr_ hT hs none none trivial;have c18:=P.1.own.1.ce 18;have CC:=zH (fqclose_any pq s hs fp bl bt m.q hm.q g (T+3) (by omega) _ P.2.tidy P.1.q);have hsg: ∀ x∈flSegs (m.q.fl s),x.sock<8:=by
  cases hf:m.q.fl s with
  | none=>intro x hx;cases hx
  | some f=>exact fun x hx=>((hm.q.fl s f hf).sg x hx).s
 have hsl:(flSegs (m.q.fl s)).length≤512:=by
  cases hf:m.q.fl s with
  | none=>exact Nat.zero_le _
  | some f=>exact inv_seglen hm.q hs hf
 have HP:=zH P;have HO:=zH (ho.chg P.2 (by omega));obtain⟨sl,esl⟩: ∃ z,flSegs (m.q.fl s)=z:=⟨_,rfl⟩;rw[esl]at CC hsg hsl ⊢;obtain⟨q2,eq2⟩: ∃ z,closeO m.q s=z:=⟨_,rfl⟩;rw[eq2]at CC ⊢;obtain⟨n,en⟩: ∃ z,sl.length=z:=⟨_,rfl⟩;rw[en]at CC hsl ⊢;obtain⟨vp,evp⟩: ∃ z,pval (sp s)=z:=⟨_,rfl⟩;have HEN:=zH en;simp only[pval,Option.map_none]at c18 CC HP HO;clear h hT ho P esl eq2 en evp hm;go_enter Tryz.func57,Tryz.ntmps57
 go_wp2_with fail
 refine CC.out.mono ?_;rintro e w1 ⟨v',rfl,g1,fp1,h1,hq1,hS1⟩;have X:=HP.out.1.put_q h1 hq1;have C:=HP.out.2.mono (hi':=T+79) (lo':=T) (Nat.le_refl _) (by omega) |>.trans (h1.mono (by omega) (by omega))
 have O:=HO.out.chg h1 (by omega);obtain⟨a1,k1,rfl,_,_⟩:=hS1.cap_;have HX:=zH X;have HC:=zH C;have HOu:=zH O;have HS:=zH hS1;clear X C O h1 hq1 hS1 CC HP HO c18;go_wp2_with fail
 go_loopw [20] (fun v20 wr=> ∃(i:Nat) (g':Nat→Nat),v20= .int .i64 i∧i≤n∧McIn wr g' T b pc (putF sp s none) pq pl fp1 bl bt { m with sk:=putF m.sk s none,q:=q2 }∧OuIn wr g' (T+76) bo vd { o with drop:=o.drop++sl.take i,fates:=o.fates++List.replicate i 5 }∧Chg w wr g g' T (T+79)∧Sli wr g' 0 48 5 (.slice a1 n k1) n (sl.flatMap sgl)) (fun v20 _=>match v20 with | .int _ y=>n-y.toNat | _=>0)
 case atStart=>exact⟨0,g1,rfl,Nat.zero_le _,HX.out,by simpa using HOu.out,HC.out,HS.out⟩
 case round=>
  obtain⟨i,g',rfl,hi,X,O,C,S⟩:=hrel;by_cases hin:i=n
  ·subst hin
   rw[List.take_of_length_le (by have:=HEN.out;omega)]at O;have HX2:=zH X;have HO2:=zH O;have HC2:=zH C;clear X O C S;go_wp2_with fail
   go_end0
   first | exact⟨rfl,g',_,fp1,HC2.out,HX2.out,HO2.out⟩ | exact⟨rfl,g',HC2.out,⟨_,fp1,HX2.out⟩,HO2.out⟩
  ·have hi1:decide ((i:Int)<n)=true:=decide_eq_true (by omega)
   have hi2:decide (i<n)=true:=decide_eq_true (by omega);obtain⟨x,hx⟩: ∃ x,sl[i]? =some x:=⟨_,List.getElem?_eq_getElem (by have:=HEN.out;omega)⟩;obtain⟨bb,off,rfl,hc⟩:=sli_seg S HEN.out hx;have r0:=hc 0 (by omega);have r1:=hc 1 (by omega);have r2:=hc 2 (by omega);have r3:=hc 3 (by omega);have r4:=hc 4 (by omega);simp only[sgl,List.getElem?_cons_zero,List.getElem?_cons_succ,Nat.add_zero]at r0 r1 r2 r3 r4;have hlx:(o.drop++sl.take i).length≤100000:=by have:=hl.1;have:=HEN.out;simp;omega
   have hlf:(o.fates++List.replicate i 5).length≤100000:=by have:=hl.2;simp;omega
   have CD:=zH (fun w' g2 hT' h ho=>mcdrop_any b bo x (hsg x (List.mem_of_getElem? hx)) 5 (by omega) pc (putF sp s none) pq pl fp1 bl bt { m with sk:=putF m.sk s none,q:=q2 } vd { o with drop:=o.drop++sl.take i,fates:=o.fates++List.replicate i 5 } hlx hlf g2 T hT0 w' hT' h ho);unfold sgv at CD;have htk:sl.take (i+1)=sl.take i++[x]:=by rw[List.take_add_one,hx];rfl
   have HTK:=zH htk;have hiw:wrap64 ((i:Int)+1)=((i+1:Nat):Int):=by unfold wrap64;omega
   have HX2:=zH X;have HO2:=zH O;have HC2:=zH C;have HS2:=zH S;clear X O C S hc htk hlx hlf hx;go_wp2_with fail
   refine(CD.out _ _ (HC2.out.tidy.alloc _) (HX2.out.below ((Below.refl _ _).alloc (Nat.le_refl _) _)) (HO2.out.below ((Below.refl _ _).alloc (Nat.le_refl _) _))).mono ?_;rintro e w5 ⟨rfl,g5,h5,X5,O5⟩;have hO5:OuIn w5 g5 (T+76) bo vd { o with drop:=o.drop++sl.take (i+1),fates:=o.fates++List.replicate (i+1) 5 }:=by
    rw[HTK.out,List.replicate_succ',←List.append_assoc,←List.append_assoc];exact O5
   have HX5:=zH X5;have HO5:=zH hO5;have HC5:=zH ((HC2.out.alloc _).trans h5);have HS5:=zH ((HS2.out.alloc _).chg h5 (by omega));clear X5 hO5 O5 h5 HX2 HO2 HC2 HS2 CD;go_wp2_with fail
   go_roundw
   case rel=>exact⟨i+1,g5,rfl,by omega,HX5.out,HO5.out,HC5.out,HS5.out⟩
   case measure=>simp;omega
end
section
open Go.RowKit Go.Lib
structure DD where
 kind:Int
 sock:Int
 len:Int
 upto:Nat
 at_:Nat
 sks:List (Nat×Nat)
 cr:CR
def ddv (d:DD) (v:Value):Value:= .agg #[.int .i64 d.kind, .int .i64 d.sock, .int .i64 d.len, .int .u64 d.upto, .int .u64 d.at_,v, .int .i64 d.cr.quantum, .int .i64 d.cr.first, .int .i64 d.cr.limit, .int .i64 d.cr.flowLimit, .int .u64 d.cr.horizon, .int .u64 d.cr.maxRate, .bool d.cr.drop, .int .i64 d.cr.cap, .int .i64 d.cr.mss]
def ddc (d:DD) (v:Value):Array Value:= #[.int .i64 d.kind, .int .i64 d.sock, .int .i64 d.len, .int .u64 d.upto, .int .u64 d.at_,v, .int .i64 d.cr.quantum, .int .i64 d.cr.first, .int .i64 d.cr.limit, .int .i64 d.cr.flowLimit, .int .u64 d.cr.horizon, .int .u64 d.cr.maxRate, .bool d.cr.drop, .int .i64 d.cr.cap, .int .i64 d.cr.mss]
structure DD.ok (d:DD):Prop where
 l1: -9223372036854775808≤d.len
 l2:d.len≤200000
 up:d.upto<18446744073709551616
 at_:d.at_<18446744073709551616
 sk:d.sks.length≤6
 mr:d.cr.maxRate<18446744073709551616
def tldE (k:SK) (d:DD) (now:Nat):Nat:=if d.kind=2 then bwrE k.bf d.len else if d.kind=3 then k.ackE d.upto d.sks else if d.kind=4 then 0 else k.donE d.len
def tldF (k:SK) (d:DD) (now:Nat):SK:=if d.kind=2 then { k with bf:=bwrF k.bf d.len }else if d.kind=3 then k.ack now d.upto d.sks else if d.kind=4 then k.lose now else k.donF d.len
theorem backF_wr (s:BF) (u:Nat):(backF s u).wr=s.wr:=by unfold backF;split<;>rfl
theorem SK.ack_same (k:SK) (now upto:Nat) (sk:List (Nat×Nat)):(k.ack now upto sk).id=k.id∧(k.ack now upto sk).bf.wr=k.bf.wr∧(k.ack now upto sk).mss=k.mss∧(k.ack now upto sk).most=k.most∧(k.ack now upto sk).out=k.out∧(k.ack now upto sk).at_=k.at_:=by
 unfold SK.ack;split
 ·exact⟨rfl,backF_wr _ _,rfl,rfl,rfl,rfl⟩
 ·exact⟨rfl,rfl,rfl,rfl,rfl,rfl⟩
theorem bwrF_wr (s:BF) (n:Int) (h:n≤200000):(bwrF s n).wr≤s.wr+200000:=by
 unfold bwrF;split
 ·show s.wr+n.toNat≤_;omega
 ·omega
theorem tldF_same (k:SK) (d:DD) (hd:d.ok) (now:Nat):(tldF k d now).id=k.id∧(tldF k d now).bf.wr≤k.bf.wr+200000∧(tldF k d now).mss=k.mss∧(tldF k d now).most=k.most∧(tldF k d now).out≤k.out:=by
 unfold tldF;split
 ·exact⟨rfl,bwrF_wr _ _ hd.l2,rfl,rfl,Nat.le_refl _⟩
 ·split
  ·obtain⟨h1,h2,h3,h4,h5,_⟩:=SK.ack_same k now d.upto d.sks
   exact⟨h1,by rw[h2];omega,h3,h4,by rw[h5];exact Nat.le_refl _⟩
  ·split
   ·exact⟨rfl,by show k.bf.wr≤_;omega,rfl,rfl,Nat.le_refl _⟩
   ·obtain⟨h1,h2,_,_,h5,h6,h7,_⟩:=SK.donF_same k d.len
    exact⟨h1,by rw[h7];omega,h5,h6,h2⟩
theorem tldF_ok {k:SK} (h:k.ok) {d:DD} (hd:d.ok) (hw:k.bf.wr+200000≤1000000000000) {now:Nat} (hn:now<18446744073709551616):(tldF k d now).ok:=by
 have hl2:=hd.l2;unfold tldF;split
 ·exact h.write_ (by omega)
 ·split
  ·exact h.ack_ hn _ _
  ·split
   ·exact h.lose_ hn
   ·exact h.donF_ _
theorem told_any (p pb pd ps B now:Nat) (hnow:now<18446744073709551616) (k:SK) (hk:k.ok) (d:DD) (hd:d.ok) (v:Value) (g:Nat→Nat) (T:Nat) (hT0:0<T) (w:World) (hT:Tidy w g) (hr:Rd w v 2 d.sks.length (d.sks.flatMap rgl)) (h:SkIn w g T p pb pd ps B k):
  Calls Tryz.prog 58 #[.pointer (some ⟨p,0,none⟩),ddv d v, .int .u64 now] w fun e w'=>e= .returned (.int .i64 (tldE k d now:Nat))∧ ∃ g',Chg w w' g g' T (T+6)∧SkIn w' g' T p pb pd ps B (tldF k d now):=by
 obtain⟨av,kv,rfl⟩:=hr.cap_;have hout:k.out<9223372036854775808:=by have:=hk.out;omega
 have hA:=(Chg.refl hT T (T+6)).alloc (.cells (ddc d (.slice av d.sks.length kv)) 46);have hx:=h.below ((Below.refl _ w).alloc (Nat.le_refl _) (.cells (ddc d (.slice av d.sks.length kv)) 46));have hr2:=hr.below ((Below.refl _ w).alloc (Nat.le_refl _) (.cells (ddc d (.slice av d.sks.length kv)) 46));have C2:=zH (skwrite_any p pb pd ps B k d.len hd.l2 hd.l1 hk.bf g T _ hA.tidy hx);have C3:=zH (skack_any p pb pd ps B now d.upto hnow hd.up k hk _ d.sks (by have:=hd.sk;omega) g T hT0 _ hA.tidy hr2 hx);have C4:=zH (sklose_any p pb pd ps B now hnow k hk g T _ hA.tidy hx);have C7:=zH (skdone_any p pb pd ps B k d.len hd.l1 (by have:=hd.l2;omega) hout g T _ hA.tidy hx);have HA:=zH hA;obtain⟨nk,enk⟩: ∃ z,d.sks.length=z:=⟨_,rfl⟩;unfold ddv;unfold ddc at C2 C3 C4 C7 HA;rw[enk]at C2 C3 C4 C7 HA ⊢;clear h hT hr hA hx hr2 hk enk;unfold tldE tldF;by_cases h2:d.kind=2
 ·rw[if_pos h2,if_pos h2]
  have e2:(d.kind==2)=true:=by rw[beq_iff_eq];exact h2
  obtain⟨r,er⟩: ∃ z,bwrE k.bf d.len=z:=⟨_,rfl⟩;rw[er]at C2 ⊢;clear er h2 C3 C4 C7;go_enter Tryz.func58,Tryz.ntmps58
  go_wp2_with fail
  refine C2.out.mono ?_;rintro e w1 ⟨rfl,hC,hS⟩;have HC:=zH (HA.out.trans hC);have HS:=zH hS;clear hC hS C2;go_wp2_with fail
  go_ret
  exact⟨rfl,g,HC.out,HS.out⟩
 ·rw[if_neg h2,if_neg h2]
  have e2:(d.kind==2)=false:=by rw[beq_eq_false_iff_ne];exact h2
  by_cases h3:d.kind=3
  ·rw[if_pos h3,if_pos h3]
   have e3:(d.kind==3)=true:=by rw[beq_iff_eq];exact h3
   obtain⟨r,er⟩: ∃ z,k.ackE d.upto d.sks=z:=⟨_,rfl⟩;rw[er]at C3 ⊢;clear er h2 h3 C2 C4 C7;go_enter Tryz.func58,Tryz.ntmps58
   go_wp2_with fail
   refine C3.out.mono ?_;rintro e w1 ⟨rfl,g1,hC,hS⟩;have HC:=zH (HA.out.trans hC);have HS:=zH hS;clear hC hS C3;go_wp2_with fail
   go_ret
   exact⟨rfl,g1,HC.out,HS.out⟩
  ·rw[if_neg h3,if_neg h3]
   have e3:(d.kind==3)=false:=by rw[beq_eq_false_iff_ne];exact h3
   by_cases h4:d.kind=4
   ·rw[if_pos h4,if_pos h4]
    have e4:(d.kind==4)=true:=by rw[beq_iff_eq];exact h4
    clear h2 h3 h4 C2 C3 C7;go_enter Tryz.func58,Tryz.ntmps58
    go_wp2_with fail
    refine C4.out.mono ?_;rintro e w1 ⟨rfl,hC,hS⟩;have HC:=zH (HA.out.trans hC);have HS:=zH hS;clear hC hS C4;go_wp2_with fail
    go_ret
    exact⟨rfl,g,HC.out,HS.out⟩
   ·rw[if_neg h4,if_neg h4]
    have e4:(d.kind==4)=false:=by rw[beq_eq_false_iff_ne];exact h4
    obtain⟨r,er⟩: ∃ z,k.donE d.len=z:=⟨_,rfl⟩;rw[er]at C7 ⊢;clear er h2 h3 h4 C2 C3 C4;go_enter Tryz.func58,Tryz.ntmps58
    go_wp2_with fail
    refine C7.out.mono ?_;rintro e w1 ⟨rfl,hC,hS⟩;have HC:=zH (HA.out.trans hC);have HS:=zH hS;clear hC hS C7;go_wp2_with fail
    go_ret
    exact⟨rfl,g,HC.out,HS.out⟩
end
section
open Go.RowKit Go.Lib
theorem pumpN_some (now:Nat) (hn:now<18446744073709551616): ∀(n:Nat) (k:SK) (q:FQ) (o:OU),k.ok→q.inv→513≤n+q.n→ ∃ R,pumpN now (n+1) k q o=some R
 | n,k,q,o,hk,hq,hl=>by
  unfold pumpN;by_cases hm:k.mayE=0
  ·rw[if_neg (by simp[hm])]
   by_cases hf:(enqF q (k.emitX now) now).1=0
   ·rw[if_pos hf]
    obtain⟨h1,h2⟩:=enqF_n hf;have hx:=SK.emitX_ok hk hm hn;have hq2:=enqF_inv hq hx now;cases n with
    | zero=>have:=hq.lim;omega
    | succ j=>exact pumpN_some now hn j _ _ _ (hk.emitF_ hm hn) hq2 (by omega)
   ·rw[if_neg hf];exact⟨_,rfl⟩
  ·rw[if_pos hm];exact⟨_,rfl⟩
def pumpR (now:Nat) (k:SK) (q:FQ) (o:OU):SK×FQ×OU:=(pumpN now 600 k q o).getD (k,q,o)
theorem pumpR_eq {now:Nat} (hn:now<18446744073709551616) {k:SK} {q:FQ} (o:OU) (hk:k.ok) (hq:q.inv):pumpN now 600 k q o=some (pumpR now k q o):=by
 obtain⟨R,hR⟩:=pumpN_some now hn 599 k q o hk hq (by omega);unfold pumpR;rw[hR];rfl
theorem pumpN_ind {P:SK→FQ→OU→Prop} {now:Nat} (hn:now<18446744073709551616)
  (h1: ∀ k q o,k.ok→q.inv→P k q o→k.mayE=0→(enqF q (k.emitX now) now).1=0→P (k.emitF now) (enqF q (k.emitX now) now).2 o)
  (h2: ∀ k q o,k.ok→q.inv→P k q o→k.mayE=0→(enqF q (k.emitX now) now).1≠0→P ((k.emitF now).donF (k.emitX now).len) (enqF q (k.emitX now) now).2 { o with drop:=o.drop++[k.emitX now],fates:=o.fates++[(enqF q (k.emitX now) now).1] })
  (h3: ∀ k q o,k.ok→q.inv→P k q o→k.mayE≠0→P k.mayS q o):
  ∀(n:Nat) (k:SK) (q:FQ) (o:OU) (R:SK×FQ×OU),k.ok→q.inv→P k q o→pumpN now n k q o=some R→R.1.ok∧R.2.1.inv∧P R.1 R.2.1 R.2.2
 | 0,_,_,_,_,_,_,_,h=>by cases h
 | n+1,k,q,o,R,hk,hq,hP,h=>by
  unfold pumpN at h;by_cases hm:k.mayE=0
  ·rw[if_neg (by simp[hm])]at h
   have hx:=SK.emitX_ok hk hm hn;have hq2:=enqF_inv hq hx now;by_cases hf:(enqF q (k.emitX now) now).1=0
   ·rw[if_pos hf]at h
    exact pumpN_ind hn h1 h2 h3 n _ _ _ _ (hk.emitF_ hm hn) hq2 (h1 k q o hk hq hP hm hf) h
   ·rw[if_neg hf]at h
    cases h
    exact⟨(hk.emitF_ hm hn).donF_ _,hq2,h2 k q o hk hq hP hm hf⟩
  ·rw[if_pos hm]at h
   cases h
   exact⟨hk.mayS_,hq,h3 k q o hk hq hP hm⟩
theorem pumpR_ind {P:SK→FQ→OU→Prop} {now:Nat} (hn:now<18446744073709551616)
  (h1: ∀ k q o,k.ok→q.inv→P k q o→k.mayE=0→(enqF q (k.emitX now) now).1=0→P (k.emitF now) (enqF q (k.emitX now) now).2 o)
  (h2: ∀ k q o,k.ok→q.inv→P k q o→k.mayE=0→(enqF q (k.emitX now) now).1≠0→P ((k.emitF now).donF (k.emitX now).len) (enqF q (k.emitX now) now).2 { o with drop:=o.drop++[k.emitX now],fates:=o.fates++[(enqF q (k.emitX now) now).1] })
  (h3: ∀ k q o,k.ok→q.inv→P k q o→k.mayE≠0→P k.mayS q o) {k:SK} {q:FQ} {o:OU} (hk:k.ok) (hq:q.inv) (hP:P k q o):
  (pumpR now k q o).1.ok∧(pumpR now k q o).2.1.inv∧P (pumpR now k q o).1 (pumpR now k q o).2.1 (pumpR now k q o).2.2:=
 pumpN_ind hn h1 h2 h3 600 k q o _ hk hq hP (pumpR_eq hn o hk hq)
theorem SK.emitF_same (k:SK) (now:Nat):(k.emitF now).id=k.id∧(k.emitF now).bb=k.bb∧(k.emitF now).mss=k.mss∧(k.emitF now).most=k.most∧(k.emitF now).bf.wr=k.bf.wr∧(k.emitF now).bf.ba=k.bf.ba:=by
 obtain⟨h1,h2,h3,h4,h5,h6,h7,h8⟩:=SK.brd_same k now;exact⟨h1,h4,h5,h6,h7,h8⟩
theorem pumpR_same {now:Nat} (hn:now<18446744073709551616) {k:SK} {q:FQ} (o:OU) (hk:k.ok) (hq:q.inv):
  (pumpR now k q o).1.id=k.id∧(pumpR now k q o).1.bb=k.bb∧(pumpR now k q o).1.mss=k.mss∧(pumpR now k q o).1.most=k.most∧(pumpR now k q o).1.bf.wr=k.bf.wr∧(pumpR now k q o).2.1.c=q.c:=by
 refine(pumpR_ind (P:=fun k' q' _=>k'.id=k.id∧k'.bb=k.bb∧k'.mss=k.mss∧k'.most=k.most∧k'.bf.wr=k.bf.wr∧q'.c=q.c) hn ?_ ?_ ?_ hk hq ⟨rfl,rfl,rfl,rfl,rfl,rfl⟩ (o:=o)).2.2
 ·rintro k' q' o' _ _ ⟨a1,a2,a3,a4,a5,a6⟩ _ _
  obtain⟨b1,b2,b3,b4,b5,_⟩:=SK.emitF_same k' now;exact⟨b1.trans a1,b2.trans a2,b3.trans a3,b4.trans a4,b5.trans a5,(enqF_c _ _ _).trans a6⟩
 ·rintro k' q' o' _ _ ⟨a1,a2,a3,a4,a5,a6⟩ _ _
  obtain⟨b1,b2,b3,b4,b5,_⟩:=SK.emitF_same k' now;obtain⟨c1,_,_,c4,c5,c6,c7,_⟩:=SK.donF_same (k'.emitF now) (k'.emitX now).len;exact⟨c1.trans (b1.trans a1),c4.trans (b2.trans a2),c5.trans (b3.trans a3),c6.trans (b4.trans a4),by rw[c7];exact b5.trans a5,(enqF_c _ _ _).trans a6⟩
 ·rintro k' q' o' _ _ ⟨a1,a2,a3,a4,a5,a6⟩ _
  obtain⟨b1,_,_,b4,b5,b6,b7,_⟩:=SK.mayS_same k';exact⟨b1.trans a1,b4.trans a2,b5.trans a3,b6.trans a4,by rw[b7];exact a5,a6⟩
theorem tldF_err {k:SK} {d:DD} {now:Nat} (h:tldE k d now≠0):tldF k d now=k:=by
 unfold tldE at h;unfold tldF;split
 ·rename_i h2
  rw[if_pos h2]at h;have:bwrF k.bf d.len=k.bf:=by unfold bwrF;rw[if_neg h]
  rw[this]
 ·rename_i h2
  rw[if_neg h2]at h;split
  ·rename_i h3
   rw[if_pos h3]at h;unfold SK.ackE at h;unfold SK.ack;split
   ·rename_i hm;rw[if_pos hm]at h;exact absurd rfl h
   ·rfl
  ·rename_i h3
   rw[if_neg h3]at h;split
   ·rename_i h4;rw[if_pos h4]at h;exact absurd rfl h
   ·rename_i h4
    rw[if_neg h4]at h;unfold SK.donE at h;unfold SK.donF;split
    ·rfl
    ·rename_i h5;rw[if_neg h5]at h;exact absurd rfl h
def ou0:OU:=⟨[],[],[],0⟩
def oneS (m:MC) (d:DD) (s:Nat):Option SK→Nat×MC×OU
 | none=>if d.kind=1 then(0,{ m with sk:=putF m.sk s (some (newK s m.c)) },ou0)else(10,m,ou0)
 | some k=>
  if d.kind=1 then(9,m,ou0)
  else if d.kind=9 then(0,{ m with sk:=putF m.sk s none,q:=closeO m.q s },⟨[],flSegs (m.q.fl s),List.replicate (flSegs (m.q.fl s)).length 5,0⟩)
  else if tldE k d m.now=0 then(0,{ m with sk:=putF m.sk s (some (pumpR m.now (tldF k d m.now) m.q ou0).1),q:=(pumpR m.now (tldF k d m.now) m.q ou0).2.1 },(pumpR m.now (tldF k d m.now) m.q ou0).2.2)
  else(tldE k d m.now,m,ou0)
def oneF (m:MC) (d:DD):Nat×MC×OU:=
 if decide (0≤d.sock)&&decide (d.sock<8)then oneS m d d.sock.toNat (m.sk d.sock.toNat)else(8,m,ou0)
end
section
open Go.RowKit Go.Lib
theorem z64:0<18446744073709551616:=by decide
theorem newB_ok {m:Nat} (h1:100≤m) (h2:m≤9000):(newB m).ok:=by
 have hw:(⟨10,0,0,0,0,0,0,0⟩:WM).ok:=⟨by decide,z64,z64,z64,z64,z64,z64,z64⟩;have hr:(⟨0,0⟩:RN).ok:=⟨z64,z64⟩;have hp:(⟨0,0,false⟩:QS).ok:=⟨z64,by decide,fun _=>by decide⟩;exact⟨hw,hr,hp,(by decide:0<8),z64,⟨z64,z64⟩,pol0_inv,⟨h1,h2⟩,(by decide:0<4),trate_lt _ _,by show 10*m<_;omega,z64,z64⟩
theorem newK_ok {s:Nat} (hs:s<8) {c:CF} (hc:c.ok):(newK s c).ok:=by
 have hb:(⟨0,0,0,1073741824⟩:BF).ok:=⟨Nat.le_refl _,Nat.le_refl _,(by decide:0≤1073741824),(by decide:0≤1000000000000),Nat.le_refl _⟩;have hp: ∀ p∈([]:List PC),p.frm<p.til∧p.til≤p.frm+65536∧p.til≤0∧p.sent.ok∧p.sent.d<18446744073709551616:=fun p hp=>(by cases hp)
 exact⟨hs,hc.m1,hc.m2,hc.c1,hc.c2,hb,rfl,(by decide:0≤4096),hp,sam0_ok,⟨z64,z64,z64,z64⟩,newB_ok hc.m1 hc.m2,(by decide:0≤1073807360),z64⟩
structure MC.okn (m:MC) (n:Nat):Prop where
 ok:m.ok
 wr: ∀ s k,s<8→m.sk s=some k→k.bf.wr≤200000*n
theorem MC.okn.mono {m:MC} {n n':Nat} (h:m.okn n) (hn:n≤n'):m.okn n':=⟨h.ok,fun s k hs hk=>Nat.le_trans (h.wr s k hs hk) (by omega)⟩
theorem okn_put {m:MC} {n:Nat} (h:m.okn n) {s:Nat} {k:SK} {q:FQ} (hk:k.ok) (hid:k.id=s) (hw:k.bf.wr≤200000*n) (hq:q.inv) (hc:q.c=m.c):({ m with sk:=putF m.sk s (some k),q:=q }:MC).okn n:=by
 refine⟨⟨h.ok.c,hc,h.ok.now,hq,fun j k' hj hk'=> ?_⟩,fun j k' hj hk'=> ?_⟩
 ·have hk2:putF m.sk s (some k) j=some k':=hk'
  by_cases e:j=s
  ·subst e;rw[putF_at]at hk2;cases hk2;exact⟨hk,hid⟩
  ·rw[putF_ne _ _ e]at hk2;exact h.ok.sk j k' hj hk2
 ·have hk2:putF m.sk s (some k) j=some k':=hk'
  by_cases e:j=s
  ·subst e;rw[putF_at]at hk2;cases hk2;exact hw
  ·rw[putF_ne _ _ e]at hk2;exact h.wr j k' hj hk2
theorem okn_del {m:MC} {n:Nat} (h:m.okn n) (s:Nat) {q:FQ} (hq:q.inv) (hc:q.c=m.c):({ m with sk:=putF m.sk s none,q:=q }:MC).okn n:=by
 refine⟨⟨h.ok.c,hc,h.ok.now,hq,fun j k' hj hk'=> ?_⟩,fun j k' hj hk'=> ?_⟩
 ·have hk2:putF m.sk s none j=some k':=hk'
  by_cases e:j=s
  ·subst e;rw[putF_at]at hk2;cases hk2
  ·rw[putF_ne _ _ e]at hk2;exact h.ok.sk j k' hj hk2
 ·have hk2:putF m.sk s none j=some k':=hk'
  by_cases e:j=s
  ·subst e;rw[putF_at]at hk2;cases hk2
  ·rw[putF_ne _ _ e]at hk2;exact h.wr j k' hj hk2
theorem oneF_ok {m:MC} {n:Nat} (h:m.okn n) (hn:n<1000000) {d:DD} (hd:d.ok):(oneF m d).2.1.okn (n+1):=by
 have hnow:m.now<18446744073709551616:=by have:=h.ok.now;omega
 have h1:=h.mono (Nat.le_succ n);unfold oneF;split
 ·rename_i hs
  rw[Bool.and_eq_true,decide_eq_true_eq,decide_eq_true_eq]at hs;have hs8:d.sock.toNat<8:=by omega
  cases hk:m.sk d.sock.toNat with
  | none=>
   simp only[oneS];split
   ·exact okn_put h1 (newK_ok hs8 h.ok.c) rfl (Nat.zero_le _) h.ok.q h.ok.qc
   ·exact h1
  | some k=>
   obtain⟨k1,k2⟩:=h.ok.sk _ k hs8 hk;have kw:=h.wr _ k hs8 hk;simp only[oneS];split
   ·exact h1
   ·split
    ·exact okn_del h1 _ (closeO_inv h.ok.q hs8) ((closeO_c _ _).trans h.ok.qc)
    ·split
     ·obtain⟨t1,t2,t3,t4,t5⟩:=tldF_same k d hd m.now
      have hto:=tldF_ok k1 hd (by omega) hnow;obtain⟨p1,p2,p3,p4,p5,p6⟩:=pumpR_same hnow ou0 hto h.ok.q;obtain⟨r1,r2,_⟩:=pumpR_ind (P:=fun _ _ _=>True) (o:=ou0) hnow (fun _ _ _ _ _ _ _ _=>trivial) (fun _ _ _ _ _ _ _ _=>trivial) (fun _ _ _ _ _ _ _=>trivial) hto h.ok.q trivial;exact okn_put h1 r1 (p1.trans (t1.trans k2)) (by rw[p5];omega) r2 (p6.trans h.ok.qc)
     ·exact h1
 ·exact h1
end
end Go.Proofs.YtojgokiobdpclaaGreat
