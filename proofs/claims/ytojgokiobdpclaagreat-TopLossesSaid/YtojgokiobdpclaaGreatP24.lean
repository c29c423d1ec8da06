import Derived.Test.YtojgokiobdpclaaGreatP22
namespace Go.Proofs.YtojgokiobdpclaaGreat
set_option linter.unusedVariables false
set_option linter.unusedSimpArgs false
set_option maxRecDepth 8000
set_option maxHeartbeats 8000000
section
open Go.RowKit Go.Lib
def BB.modes1 (s:BB) (x:SM):BB:=if s.mode=1∧0<s.pr.best∧x.flight≤s.bdp 256 then s.cruise x.now else s
def BB.modes (s:BB) (x:SM):BB:=if s.mode=0∧s.pp.full=true then BB.modes1 { s with mode:=1 } x else s.modes1 x
structure MdS (w wq:World) (B n0:Nat) (s1:BB) (x:SM):Prop where
 c7:wq.cell? ⟨B+6,7,none⟩=some (.int .i64 (s1.mode:Nat))
 c4:wq.cell? ⟨B+6,4,none⟩=some (.pointer (some ⟨B+4,0,none⟩))
 cf:wq.cell? ⟨n0,7,none⟩=some (.int .u64 x.flight)
 b:BbAt wq B s1
 d:Bbd B w wq
 a:At wq n0 266 (smc x)
theorem MdS.mk' {w wq:World} {B n0:Nat} {s1:BB} {x:SM} (b:BbAt wq B s1) (d:Bbd B w wq) (a:At wq n0 266 (smc x)):MdS w wq B n0 s1 x:=⟨b.m.cell 7,b.m.cell 4,a.cell 7,b,d,a⟩
theorem MdS.below {w wq wr:World} {B n0:Nat} {s1:BB} {x:SM} (h:MdS w wq B n0 s1 x) (hB:Below wq.heap.size wq wr):MdS w wr B n0 s1 x:= .mk' (h.b.below hB) (h.d.below hB) (h.a.below hB h.a.lt)
theorem bmodes_any (B:Nat) (s:BB) (hs:s.ok) (x:SM) (hx:x.big) (w:World) (h:BbAt w B s):
  Calls Tryz.prog 192 #[.pointer (some ⟨B+6,0,none⟩),smp x] w fun e w'=>(∃ v,e= .returned v)∧BbAt w' B (s.modes x)∧Bbd B w w':=by
 obtain⟨n0,e0⟩: ∃ z,w.heap.size=z:=⟨_,rfl⟩;have hm:=h.m.lt;rw[e0]at hm;have M0:Hid (MdS w (w.alloc (.cells (smc x) 266)) B n0 s x):=zH (.mk' (h.below ((Below.refl _ w).alloc (Nat.le_refl _) _)) (Bbd.of_below ((Below.refl _ w).alloc (Nat.le_refl _) _)) (by rw[←e0];exact At.made w _ _));have CF:=zH (fun w' (hM:MdS w w' B n0 s x)=>full_any (B+2) s.pp w' hM.b.pp);unfold BB.modes smp;have HS:=zH hs;have HS1:=HS;clear h hs;by_cases h0:s.mode=0
 ·cases hf:s.pp.full with
  | true=>
   rw[if_pos ⟨h0,rfl⟩];rw[hf]at CF;have hmd0:=h0;obtain⟨s1,es1⟩: ∃ z:BB,{ s with mode:=1 }=z:=⟨_,rfl⟩;have hmd:s1.mode=1:=by rw[←es1]
   have HS1:Hid s1.ok:=zH (by rw[←es1];have:=HS.out;exact⟨this.wm,this.rn,this.pp,this.cp,this.cs,this.pr,this.pl,this.mss,by show 1<4;omega,this.rate,this.cwnd,this.was,this.upto⟩);have hr:(({ s with mode:=1 }:BB).modes1 x)=s1.modes1 x:=by rw[es1]
   rw[hr];clear hf hr;by_cases hb:s1.pr.best=0
   ·rw[show s1.modes1 x=s1 from by unfold BB.modes1;rw[if_neg (by rintro⟨_,h,_⟩;omega)]]
    have hb':decide (0<(s1.pr.best:Int))=false:=decide_eq_false (by omega);have hb2:decide (0<s1.pr.best)=false:=decide_eq_false (by omega);go_enter Tryz.func192,Tryz.ntmps192
    go_wp2_with fail
    go_step3
    go_wp2_with fail
    go_step3
    go_wp2_with fail
    refine wp_named (fun W=>MdS w W B n0 s x) M0.out (fun W hM=> ?_);refine wp_loop_rounds 2 ?_;rw[rounds_succ];have d7:=hM.c7;rw[hmd0]at d7;have HM:=zH hM;have q2:=hM.b.m.ce 2;have qf7:=hM.b.m.free 7;clear hM;go_wp2_with fail
    refine(CF.out _ HM.out).mono ?_;rintro e w3 ⟨rfl,rfl⟩;have PU:Put W (W.setCell ⟨B+6,7,none⟩ (.int .i64 1)) (B+6) 163 (bbc B s1):=by rw[←es1];exact Put.set (u:= .int .i64 1) HM.out.b.m 7
    have X:=HM.out.b.putm (s':=s1) PU (by rw[←es1]) (by rw[←es1]) (by rw[←es1]) (by rw[←es1]) (by rw[←es1]) (by rw[←es1]) (by rw[←es1]);have HX:=zH (MdS.mk' X.1 (HM.out.d.trans X.2) (HM.out.a.far (p:=⟨B+6,7,none⟩) (u:= .int .i64 1) (by show n0≠B+6;omega)));clear X HM PU;go_wp2_with fail
    rw[rounds_succ];refine wp_named (fun W=>MdS w W B n0 s1 x) HX.out (fun W hM=> ?_);have d7:=hM.c7;rw[hmd]at d7;have HM:=zH hM;clear hM HX;go_wp2_with fail
    have d7:=HM.out.c7;rw[hmd]at d7;have d4:=HM.out.c4;have df:=HM.out.cf;refine wp_region_held_drew (S:=fun wq=>(wq.cell? ⟨B+6,7,none⟩=some (.int .i64 1)∧wq.cell? ⟨B+6,4,none⟩=some (.pointer (some ⟨B+4,0,none⟩))∧wq.cell? ⟨n0,7,none⟩=some (.int .u64 x.flight))∧Hid (MdS w wq B n0 s1 x)) (by kernel_rfl) ⟨⟨d7,d4,df⟩,zH (HM.out.below (Below.drew (Below.refl _ _)))⟩ (fun hHeld=> ?_);clear d7 d4 df HM;refine zt 0 ?_;refine zt 1 ?_;refine zt 2 ?_;refine zt 3 ?_;refine zt 4 ?_;refine zt 5 ?_;refine zt 6 ?_;refine zt 7 ?_;refine zt 8 ?_;refine zt 9 ?_;refine zc 10 (fun K hK=> ?_);go_simp;refine(best_any (B+4) s1.pr _ hHeld.2.out.b.pr).mono ?_;rintro e w5 ⟨rfl,rfl⟩;refine hK.out _ _ ?_ (fun hHeld=> ?_);focus exact hHeld
    clear hK K;refine zl ?_;refine zt 11 ?_;refine zt 12 ?_;refine zt 13 ?_;refine zn 14 ?_;refine zn 15 ?_;refine zn 16 ?_;refine zn 17 ?_;refine zn 18 ?_;refine zt 19 ?_;refine zt 20 ?_;refine dnZ ?_;have MF:=hHeld.2;clear hHeld;go_wp2_with fail
    (try rw[Exit.noGoto_normal])
    go_end0
    exact⟨⟨_,rfl⟩,MF.out.b,MF.out.d⟩
   ·have hb':decide (0<(s1.pr.best:Int))=true:=decide_eq_true (by omega)
    have hb2:decide (0<s1.pr.best)=true:=decide_eq_true (by omega);by_cases hf:x.flight≤s1.bdp 256
    ·rw[show s1.modes1 x=s1.cruise x.now from by unfold BB.modes1;rw[if_pos ⟨hmd,by omega,hf⟩]]
     have hf':decide ((x.flight:Int)≤(s1.bdp 256:Nat))=true:=decide_eq_true (by omega);have hf2:decide (x.flight≤s1.bdp 256)=true:=decide_eq_true hf;clear hf hb;go_enter Tryz.func192,Tryz.ntmps192
     go_wp2_with fail
     go_step3
     go_wp2_with fail
     go_step3
     go_wp2_with fail
     refine wp_named (fun W=>MdS w W B n0 s x) M0.out (fun W hM=> ?_);refine wp_loop_rounds 2 ?_;rw[rounds_succ];have d7:=hM.c7;rw[hmd0]at d7;have HM:=zH hM;have q2:=hM.b.m.ce 2;have qf7:=hM.b.m.free 7;clear hM;go_wp2_with fail
     refine(CF.out _ HM.out).mono ?_;rintro e w3 ⟨rfl,rfl⟩;have PU:Put W (W.setCell ⟨B+6,7,none⟩ (.int .i64 1)) (B+6) 163 (bbc B s1):=by rw[←es1];exact Put.set (u:= .int .i64 1) HM.out.b.m 7
     have X:=HM.out.b.putm (s':=s1) PU (by rw[←es1]) (by rw[←es1]) (by rw[←es1]) (by rw[←es1]) (by rw[←es1]) (by rw[←es1]) (by rw[←es1]);have HX:=zH (MdS.mk' X.1 (HM.out.d.trans X.2) (HM.out.a.far (p:=⟨B+6,7,none⟩) (u:= .int .i64 1) (by show n0≠B+6;omega)));clear X HM PU;go_wp2_with fail
     rw[rounds_succ];refine wp_named (fun W=>MdS w W B n0 s1 x) HX.out (fun W hM=> ?_);have d7:=hM.c7;rw[hmd]at d7;have HM:=zH hM;clear hM HX;go_wp2_with fail
     have d7:=HM.out.c7;rw[hmd]at d7;have d4:=HM.out.c4;have df:=HM.out.cf;refine wp_region_held_drew (S:=fun wq=>(wq.cell? ⟨B+6,7,none⟩=some (.int .i64 1)∧wq.cell? ⟨B+6,4,none⟩=some (.pointer (some ⟨B+4,0,none⟩))∧wq.cell? ⟨n0,7,none⟩=some (.int .u64 x.flight))∧Hid (MdS w wq B n0 s1 x)) (by kernel_rfl) ⟨⟨d7,d4,df⟩,zH (HM.out.below (Below.drew (Below.refl _ _)))⟩ (fun hHeld=> ?_);clear d7 d4 df HM;refine zt 0 ?_;refine zt 1 ?_;refine zt 2 ?_;refine zt 3 ?_;refine zt 4 ?_;refine zt 5 ?_;refine zt 6 ?_;refine zt 7 ?_;refine zt 8 ?_;refine zt 9 ?_;refine zc 10 (fun K hK=> ?_);go_simp;refine(best_any (B+4) s1.pr _ hHeld.2.out.b.pr).mono ?_;rintro e w5 ⟨rfl,rfl⟩;refine hK.out _ _ ?_ (fun hHeld=> ?_);focus exact hHeld
     clear hK K;refine zl ?_;refine zt 11 ?_;refine zt 12 ?_;refine zt 13 ?_;refine zt 14 ?_;refine zt 15 ?_;refine zt 16 ?_;refine zc 17 (fun K hK=> ?_);go_simp;refine(bbdp_any B s1 HS1.out 256 (by decide) _ hHeld.2.out.b).mono ?_;rintro e w6 ⟨rfl,hB6⟩;have M6:=hHeld.2.out.below hB6;refine hK.out _ _ ?_ (fun hHeld=> ?_);focus exact⟨⟨by have:=M6.c7;rw[hmd]at this;exact this,M6.c4,M6.cf⟩,zH M6⟩
     clear hK K;refine zl ?_;refine zt 18 ?_;refine zt 19 ?_;refine zt 20 ?_;refine dnZ ?_;have MF:=hHeld.2;clear hHeld;have cn:=MF.out.a.cell 0;simp only[smc,List.getElem?_toArray,List.getElem?_cons_zero]at cn;go_wp2_with fail
     refine(bcruise_any B s1 x.now _ MF.out.b).mono ?_;rintro e w8 ⟨rfl,X1,X2⟩;have HX1:=zH X1;have HX2:=zH (MF.out.d.trans X2);clear X1 X2;go_wp2_with fail
     (try rw[Exit.noGoto_normal])
     go_end0
     exact⟨⟨_,rfl⟩,HX1.out,HX2.out⟩
    ·rw[show s1.modes1 x=s1 from by unfold BB.modes1;rw[if_neg (by rintro⟨_,_,h⟩;exact hf h)]]
     have hf':decide ((x.flight:Int)≤(s1.bdp 256:Nat))=false:=decide_eq_false (by omega);have hf2:decide (x.flight≤s1.bdp 256)=false:=decide_eq_false hf;clear hf hb;go_enter Tryz.func192,Tryz.ntmps192
     go_wp2_with fail
     go_step3
     go_wp2_with fail
     go_step3
     go_wp2_with fail
     refine wp_named (fun W=>MdS w W B n0 s x) M0.out (fun W hM=> ?_);refine wp_loop_rounds 2 ?_;rw[rounds_succ];have d7:=hM.c7;rw[hmd0]at d7;have HM:=zH hM;have q2:=hM.b.m.ce 2;have qf7:=hM.b.m.free 7;clear hM;go_wp2_with fail
     refine(CF.out _ HM.out).mono ?_;rintro e w3 ⟨rfl,rfl⟩;have PU:Put W (W.setCell ⟨B+6,7,none⟩ (.int .i64 1)) (B+6) 163 (bbc B s1):=by rw[←es1];exact Put.set (u:= .int .i64 1) HM.out.b.m 7
     have X:=HM.out.b.putm (s':=s1) PU (by rw[←es1]) (by rw[←es1]) (by rw[←es1]) (by rw[←es1]) (by rw[←es1]) (by rw[←es1]) (by rw[←es1]);have HX:=zH (MdS.mk' X.1 (HM.out.d.trans X.2) (HM.out.a.far (p:=⟨B+6,7,none⟩) (u:= .int .i64 1) (by show n0≠B+6;omega)));clear X HM PU;go_wp2_with fail
     rw[rounds_succ];refine wp_named (fun W=>MdS w W B n0 s1 x) HX.out (fun W hM=> ?_);have d7:=hM.c7;rw[hmd]at d7;have HM:=zH hM;clear hM HX;go_wp2_with fail
     have d7:=HM.out.c7;rw[hmd]at d7;have d4:=HM.out.c4;have df:=HM.out.cf;refine wp_region_held_drew (S:=fun wq=>(wq.cell? ⟨B+6,7,none⟩=some (.int .i64 1)∧wq.cell? ⟨B+6,4,none⟩=some (.pointer (some ⟨B+4,0,none⟩))∧wq.cell? ⟨n0,7,none⟩=some (.int .u64 x.flight))∧Hid (MdS w wq B n0 s1 x)) (by kernel_rfl) ⟨⟨d7,d4,df⟩,zH (HM.out.below (Below.drew (Below.refl _ _)))⟩ (fun hHeld=> ?_);clear d7 d4 df HM;refine zt 0 ?_;refine zt 1 ?_;refine zt 2 ?_;refine zt 3 ?_;refine zt 4 ?_;refine zt 5 ?_;refine zt 6 ?_;refine zt 7 ?_;refine zt 8 ?_;refine zt 9 ?_;refine zc 10 (fun K hK=> ?_);go_simp;refine(best_any (B+4) s1.pr _ hHeld.2.out.b.pr).mono ?_;rintro e w5 ⟨rfl,rfl⟩;refine hK.out _ _ ?_ (fun hHeld=> ?_);focus exact hHeld
     clear hK K;refine zl ?_;refine zt 11 ?_;refine zt 12 ?_;refine zt 13 ?_;refine zt 14 ?_;refine zt 15 ?_;refine zt 16 ?_;refine zc 17 (fun K hK=> ?_);go_simp;refine(bbdp_any B s1 HS1.out 256 (by decide) _ hHeld.2.out.b).mono ?_;rintro e w6 ⟨rfl,hB6⟩;have M6:=hHeld.2.out.below hB6;refine hK.out _ _ ?_ (fun hHeld=> ?_);focus exact⟨⟨by have:=M6.c7;rw[hmd]at this;exact this,M6.c4,M6.cf⟩,zH M6⟩
     clear hK K;refine zl ?_;refine zt 18 ?_;refine zt 19 ?_;refine zt 20 ?_;refine dnZ ?_;have MF:=hHeld.2;clear hHeld;go_wp2_with fail
     (try rw[Exit.noGoto_normal])
     go_end0
     exact⟨⟨_,rfl⟩,MF.out.b,MF.out.d⟩
  | false=>
   rw[if_neg (by rintro⟨_,h⟩;cases h)];rw[show s.modes1 x=s from by unfold BB.modes1;rw[if_neg (by rintro⟨h,_⟩;omega)]];rw[hf]at CF;have hmd:=h0;clear hf;go_enter Tryz.func192,Tryz.ntmps192
   go_wp2_with fail
   go_step3
   go_wp2_with fail
   go_step3
   go_wp2_with fail
   refine wp_named (fun W=>MdS w W B n0 s x) M0.out (fun W hM=> ?_);refine wp_loop_rounds 1 ?_;rw[rounds_succ];have d7:=hM.c7;rw[hmd]at d7;have HM:=zH hM;have q2:=hM.b.m.ce 2;have qf7:=hM.b.m.free 7;clear hM;go_wp2_with fail
   refine(CF.out _ HM.out).mono ?_;rintro e w3 ⟨rfl,rfl⟩;have d4:=HM.out.c4;have df:=HM.out.cf;go_wp2_with fail
   refine wp_region_held_drew (S:=fun wq=>(wq.cell? ⟨B+6,7,none⟩=some (.int .i64 0)∧wq.cell? ⟨B+6,4,none⟩=some (.pointer (some ⟨B+4,0,none⟩))∧wq.cell? ⟨n0,7,none⟩=some (.int .u64 x.flight))∧Hid (MdS w wq B n0 s x)) (by kernel_rfl) ⟨⟨d7,d4,df⟩,zH (HM.out.below (Below.drew (Below.refl _ _)))⟩ (fun hHeld=> ?_);clear d7 d4 df HM;refine zt 0 ?_;refine zt 1 ?_;refine zt 2 ?_;refine zt 3 ?_;refine zt 4 ?_;refine zt 5 ?_;refine zn 6 ?_;refine zn 7 ?_;refine zn 8 ?_;refine zn 9 ?_;refine zn 10 ?_;refine zn 11 ?_;refine zt 12 ?_;refine zt 13 ?_;refine zn 14 ?_;refine zn 15 ?_;refine zn 16 ?_;refine zn 17 ?_;refine zn 18 ?_;refine zt 19 ?_;refine zt 20 ?_;refine dnZ ?_;have MF:=hHeld.2;clear hHeld;go_wp2_with fail
   (try rw[Exit.noGoto_normal])
   go_end0
   exact⟨⟨_,rfl⟩,MF.out.b,MF.out.d⟩
 ·rw[if_neg (fun h=>h0 h.1)]
  by_cases h1:s.mode=1
  ·have hmd:=h1
   by_cases hb:s.pr.best=0
   ·rw[show s.modes1 x=s from by unfold BB.modes1;rw[if_neg (by rintro⟨_,h,_⟩;omega)]]
    have hb':decide (0<(s.pr.best:Int))=false:=decide_eq_false (by omega);have hb2:decide (0<s.pr.best)=false:=decide_eq_false (by omega);go_enter Tryz.func192,Tryz.ntmps192
    go_wp2_with fail
    go_step3
    go_wp2_with fail
    go_step3
    go_wp2_with fail
    refine wp_named (fun W=>MdS w W B n0 s x) M0.out (fun W hM=> ?_);refine wp_loop_rounds 1 ?_;rw[rounds_succ];have d7:=hM.c7;rw[hmd]at d7;have HM:=zH hM;have q2:=hM.b.m.ce 2;have qf7:=hM.b.m.free 7;clear hM;go_wp2_with fail
    have d7:=HM.out.c7;rw[hmd]at d7;have d4:=HM.out.c4;have df:=HM.out.cf;refine wp_region_held_drew (S:=fun wq=>(wq.cell? ⟨B+6,7,none⟩=some (.int .i64 1)∧wq.cell? ⟨B+6,4,none⟩=some (.pointer (some ⟨B+4,0,none⟩))∧wq.cell? ⟨n0,7,none⟩=some (.int .u64 x.flight))∧Hid (MdS w wq B n0 s x)) (by kernel_rfl) ⟨⟨d7,d4,df⟩,zH (HM.out.below (Below.drew (Below.refl _ _)))⟩ (fun hHeld=> ?_);clear d7 d4 df HM;refine zt 0 ?_;refine zt 1 ?_;refine zt 2 ?_;refine zt 3 ?_;refine zt 4 ?_;refine zt 5 ?_;refine zt 6 ?_;refine zt 7 ?_;refine zt 8 ?_;refine zt 9 ?_;refine zc 10 (fun K hK=> ?_);go_simp;refine(best_any (B+4) s.pr _ hHeld.2.out.b.pr).mono ?_;rintro e w5 ⟨rfl,rfl⟩;refine hK.out _ _ ?_ (fun hHeld=> ?_);focus exact hHeld
    clear hK K;refine zl ?_;refine zt 11 ?_;refine zt 12 ?_;refine zt 13 ?_;refine zn 14 ?_;refine zn 15 ?_;refine zn 16 ?_;refine zn 17 ?_;refine zn 18 ?_;refine zt 19 ?_;refine zt 20 ?_;refine dnZ ?_;have MF:=hHeld.2;clear hHeld;go_wp2_with fail
    (try rw[Exit.noGoto_normal])
    go_end0
    exact⟨⟨_,rfl⟩,MF.out.b,MF.out.d⟩
   ·have hb':decide (0<(s.pr.best:Int))=true:=decide_eq_true (by omega)
    have hb2:decide (0<s.pr.best)=true:=decide_eq_true (by omega);by_cases hf:x.flight≤s.bdp 256
    ·rw[show s.modes1 x=s.cruise x.now from by unfold BB.modes1;rw[if_pos ⟨hmd,by omega,hf⟩]]
     have hf':decide ((x.flight:Int)≤(s.bdp 256:Nat))=true:=decide_eq_true (by omega);have hf2:decide (x.flight≤s.bdp 256)=true:=decide_eq_true hf;clear hf hb;go_enter Tryz.func192,Tryz.ntmps192
     go_wp2_with fail
     go_step3
     go_wp2_with fail
     go_step3
     go_wp2_with fail
     refine wp_named (fun W=>MdS w W B n0 s x) M0.out (fun W hM=> ?_);refine wp_loop_rounds 1 ?_;rw[rounds_succ];have d7:=hM.c7;rw[hmd]at d7;have HM:=zH hM;have q2:=hM.b.m.ce 2;have qf7:=hM.b.m.free 7;clear hM;go_wp2_with fail
     have d7:=HM.out.c7;rw[hmd]at d7;have d4:=HM.out.c4;have df:=HM.out.cf;refine wp_region_held_drew (S:=fun wq=>(wq.cell? ⟨B+6,7,none⟩=some (.int .i64 1)∧wq.cell? ⟨B+6,4,none⟩=some (.pointer (some ⟨B+4,0,none⟩))∧wq.cell? ⟨n0,7,none⟩=some (.int .u64 x.flight))∧Hid (MdS w wq B n0 s x)) (by kernel_rfl) ⟨⟨d7,d4,df⟩,zH (HM.out.below (Below.drew (Below.refl _ _)))⟩ (fun hHeld=> ?_);clear d7 d4 df HM;refine zt 0 ?_;refine zt 1 ?_;refine zt 2 ?_;refine zt 3 ?_;refine zt 4 ?_;refine zt 5 ?_;refine zt 6 ?_;refine zt 7 ?_;refine zt 8 ?_;refine zt 9 ?_;refine zc 10 (fun K hK=> ?_);go_simp;refine(best_any (B+4) s.pr _ hHeld.2.out.b.pr).mono ?_;rintro e w5 ⟨rfl,rfl⟩;refine hK.out _ _ ?_ (fun hHeld=> ?_);focus exact hHeld
     clear hK K;refine zl ?_;refine zt 11 ?_;refine zt 12 ?_;refine zt 13 ?_;refine zt 14 ?_;refine zt 15 ?_;refine zt 16 ?_;refine zc 17 (fun K hK=> ?_);go_simp;refine(bbdp_any B s HS1.out 256 (by decide) _ hHeld.2.out.b).mono ?_;rintro e w6 ⟨rfl,hB6⟩;have M6:=hHeld.2.out.below hB6;refine hK.out _ _ ?_ (fun hHeld=> ?_);focus exact⟨⟨by have:=M6.c7;rw[hmd]at this;exact this,M6.c4,M6.cf⟩,zH M6⟩
     clear hK K;refine zl ?_;refine zt 18 ?_;refine zt 19 ?_;refine zt 20 ?_;refine dnZ ?_;have MF:=hHeld.2;clear hHeld;have cn:=MF.out.a.cell 0;simp only[smc,List.getElem?_toArray,List.getElem?_cons_zero]at cn;go_wp2_with fail
     refine(bcruise_any B s x.now _ MF.out.b).mono ?_;rintro e w8 ⟨rfl,X1,X2⟩;have HX1:=zH X1;have HX2:=zH (MF.out.d.trans X2);clear X1 X2;go_wp2_with fail
     (try rw[Exit.noGoto_normal])
     go_end0
     exact⟨⟨_,rfl⟩,HX1.out,HX2.out⟩
    ·rw[show s.modes1 x=s from by unfold BB.modes1;rw[if_neg (by rintro⟨_,_,h⟩;exact hf h)]]
     have hf':decide ((x.flight:Int)≤(s.bdp 256:Nat))=false:=decide_eq_false (by omega);have hf2:decide (x.flight≤s.bdp 256)=false:=decide_eq_false hf;clear hf hb;go_enter Tryz.func192,Tryz.ntmps192
     go_wp2_with fail
     go_step3
     go_wp2_with fail
     go_step3
     go_wp2_with fail
     refine wp_named (fun W=>MdS w W B n0 s x) M0.out (fun W hM=> ?_);refine wp_loop_rounds 1 ?_;rw[rounds_succ];have d7:=hM.c7;rw[hmd]at d7;have HM:=zH hM;have q2:=hM.b.m.ce 2;have qf7:=hM.b.m.free 7;clear hM;go_wp2_with fail
     have d7:=HM.out.c7;rw[hmd]at d7;have d4:=HM.out.c4;have df:=HM.out.cf;refine wp_region_held_drew (S:=fun wq=>(wq.cell? ⟨B+6,7,none⟩=some (.int .i64 1)∧wq.cell? ⟨B+6,4,none⟩=some (.pointer (some ⟨B+4,0,none⟩))∧wq.cell? ⟨n0,7,none⟩=some (.int .u64 x.flight))∧Hid (MdS w wq B n0 s x)) (by kernel_rfl) ⟨⟨d7,d4,df⟩,zH (HM.out.below (Below.drew (Below.refl _ _)))⟩ (fun hHeld=> ?_);clear d7 d4 df HM;refine zt 0 ?_;refine zt 1 ?_;refine zt 2 ?_;refine zt 3 ?_;refine zt 4 ?_;refine zt 5 ?_;refine zt 6 ?_;refine zt 7 ?_;refine zt 8 ?_;refine zt 9 ?_;refine zc 10 (fun K hK=> ?_);go_simp;refine(best_any (B+4) s.pr _ hHeld.2.out.b.pr).mono ?_;rintro e w5 ⟨rfl,rfl⟩;refine hK.out _ _ ?_ (fun hHeld=> ?_);focus exact hHeld
     clear hK K;refine zl ?_;refine zt 11 ?_;refine zt 12 ?_;refine zt 13 ?_;refine zt 14 ?_;refine zt 15 ?_;refine zt 16 ?_;refine zc 17 (fun K hK=> ?_);go_simp;refine(bbdp_any B s HS1.out 256 (by decide) _ hHeld.2.out.b).mono ?_;rintro e w6 ⟨rfl,hB6⟩;have M6:=hHeld.2.out.below hB6;refine hK.out _ _ ?_ (fun hHeld=> ?_);focus exact⟨⟨by have:=M6.c7;rw[hmd]at this;exact this,M6.c4,M6.cf⟩,zH M6⟩
     clear hK K;refine zl ?_;refine zt 18 ?_;refine zt 19 ?_;refine zt 20 ?_;refine dnZ ?_;have MF:=hHeld.2;clear hHeld;go_wp2_with fail
     (try rw[Exit.noGoto_normal])
     go_end0
     exact⟨⟨_,rfl⟩,MF.out.b,MF.out.d⟩
  ·rw[show s.modes1 x=s from by unfold BB.modes1;rw[if_neg (fun h=>h1 h.1)]]
   obtain⟨md,hmd⟩: ∃ z,s.mode=z:=⟨_,rfl⟩;have q0:((md:Int)==0)=false:=by rw[beq_eq_false_iff_ne];omega
   have q1:((md:Int)==1)=false:=by rw[beq_eq_false_iff_ne];omega
   clear h0 h1;go_enter Tryz.func192,Tryz.ntmps192
   go_wp2_with fail
   go_step3
   go_wp2_with fail
   go_step3
   go_wp2_with fail
   refine wp_named (fun W=>MdS w W B n0 s x) M0.out (fun W hM=> ?_);refine wp_loop_rounds 1 ?_;rw[rounds_succ];have d7:=hM.c7;rw[hmd]at d7;have HM:=zH hM;have q2:=hM.b.m.ce 2;have qf7:=hM.b.m.free 7;clear hM;have d4:=HM.out.c4;have df:=HM.out.cf;go_wp2_with fail
   refine wp_region_held_drew (S:=fun wq=>(wq.cell? ⟨B+6,7,none⟩=some (.int .i64 (md:Nat))∧wq.cell? ⟨B+6,4,none⟩=some (.pointer (some ⟨B+4,0,none⟩))∧wq.cell? ⟨n0,7,none⟩=some (.int .u64 x.flight))∧Hid (MdS w wq B n0 s x)) (by kernel_rfl) ⟨⟨d7,d4,df⟩,zH (HM.out.below (Below.drew (Below.refl _ _)))⟩ (fun hHeld=> ?_);clear d7 d4 df HM;refine zt 0 ?_;refine zt 1 ?_;refine zt 2 ?_;refine zt 3 ?_;refine zt 4 ?_;refine zt 5 ?_;refine zn 6 ?_;refine zn 7 ?_;refine zn 8 ?_;refine zn 9 ?_;refine zn 10 ?_;refine zn 11 ?_;refine zt 12 ?_;refine zt 13 ?_;refine zn 14 ?_;refine zn 15 ?_;refine zn 16 ?_;refine zn 17 ?_;refine zn 18 ?_;refine zt 19 ?_;refine zt 20 ?_;refine dnZ ?_;have MF:=hHeld.2;clear hHeld;go_wp2_with fail
   (try rw[Exit.noGoto_normal])
   go_end0
   exact⟨⟨_,rfl⟩,MF.out.b,MF.out.d⟩
end
section
open Go.RowKit Go.Lib
def BB.lookU (s:BB) (x:SM) (start:Bool):Bool×Bool×PS:=updF s.pr x.now x.rtt start x.flight (4*s.mss)
def BB.look (s:BB) (x:SM) (start:Bool):BB:=
 if(s.lookU x start).1=true then { s with pr:=(s.lookU x start).2.2,was:=max s.was s.cwnd,mode:=3 }
 else if(s.lookU x start).2.1=true then(if s.pp.full=true then({ s with pr:=(s.lookU x start).2.2,cwnd:=max s.cwnd s.was,was:=0,mode:=0 }:BB).cruise x.now else { s with pr:=(s.lookU x start).2.2,cwnd:=max s.cwnd s.was,was:=0,mode:=0 })
 else { s with pr:=(s.lookU x start).2.2 }
theorem blook_any (B:Nat) (s:BB) (hs:s.ok) (x:SM) (hx:x.big) (start:Bool) (w:World) (h:BbAt w B s):
  Calls Tryz.prog 193 #[.pointer (some ⟨B+6,0,none⟩),smp x, .bool start] w fun e w'=>(∃ v,e= .returned v)∧BbAt w' B (s.look x start)∧Bbd B w w':=by
 obtain⟨n0,e0⟩: ∃ z,w.heap.size=z:=⟨_,rfl⟩;have hm:=h.m.lt;rw[e0]at hm;have M0:Hid (MdS w (w.alloc (.cells (smc x) 266)) B n0 s x):=zH (.mk' (h.below ((Below.refl _ w).alloc (Nat.le_refl _) _)) (Bbd.of_below ((Below.refl _ w).alloc (Nat.le_refl _) _)) (by rw[←e0];exact At.made w _ _));have CF:=zH (fun w' (hM:MdS w w' B n0 s x)=>bfloor_any B s hs w' hM.b);have CU:=zH (fun w' (hM:MdS w w' B n0 s x)=>upd_any (B+4) s.pr x.now x.rtt start x.flight (4*s.mss) hs.pr.2 hx.now w' hM.b.pr);unfold BB.look smp;have eU:s.lookU x start=updF s.pr x.now x.rtt start x.flight (4*s.mss):=rfl;rw[←eU]at CU;obtain⟨⟨bg,en,pr⟩,eu⟩: ∃ z,s.lookU x start=z:=⟨_,rfl⟩;rw[eu]at CU ⊢;obtain⟨fl,efl⟩: ∃ z,4*s.mss=z:=⟨_,rfl⟩;rw[efl]at CF CU;simp only at CU ⊢
 clear h hs eU eu efl;cases bg with
 | true=>
  simp only[if_true];go_enter Tryz.func193,Tryz.ntmps193
  go_upto_region 1 with fail
  refine wp_named (fun W=>MdS w W B n0 s x) M0.out (fun W hM=> ?_);have q0:=hM.a.cell 0;have q4:=hM.a.cell 4;have q7:=hM.a.cell 7;simp only[smc,List.getElem?_toArray,List.getElem?_cons_zero,List.getElem?_cons_succ]at q0 q4 q7;have c4:W.cell? ⟨B+6,4,none⟩=some (.pointer (some ⟨B+4,0,none⟩)):=hM.c4;have HM:=zH (hM.below (Below.drew (Below.refl _ _)));clear hM;refine wp_region_held_drew (S:=fun wq=>wq.cell? ⟨B+6,4,none⟩=some (.pointer (some ⟨B+4,0,none⟩))∧wq.cell? ⟨n0,0,none⟩=some (.int .u64 x.now)∧wq.cell? ⟨n0,4,none⟩=some (.int .u64 x.rtt)∧wq.cell? ⟨n0,7,none⟩=some (.int .u64 x.flight)) (by kernel_rfl) ⟨c4,q0,q4,q7⟩ (fun hHeld=> ?_);refine zt 0 ?_;refine zt 1 ?_;refine zt 2 ?_;refine zt 3 ?_;refine zt 4 ?_;refine zt 5 ?_;refine zt 6 ?_;refine zt 7 ?_;refine zt 8 ?_;refine zt 9 ?_;refine zt 10 ?_;refine zt 11 ?_;refine zc 12 (fun K hK=> ?_);go_simp;refine(CF.out _ HM.out).mono ?_;rintro e w1 ⟨rfl,rfl⟩;refine hK.out _ _ ?_ (fun hHeld=> ?_);focus exact hHeld
  clear hK K;refine zl ?_;refine zc 13 (fun K hK=> ?_);go_simp;refine(CU.out _ HM.out).mono ?_;rintro e w2 ⟨rfl,P2⟩;have X:=HM.out.b.putpr P2;have HA0:=P2.other HM.out.a (by omega);refine hK.out _ _ ?_ (fun hHeld=> ?_);focus exact⟨X.1.m.cell 4,HA0.cell 0,HA0.cell 4,HA0.cell 7⟩
  clear hK K;refine zl ?_;refine zt 14 ?_;refine zt 15 ?_;refine zt 16 ?_;refine zt 17 ?_;refine zt 18 ?_;refine dnZ ?_;have HX:=zH X;have HA:=zH HA0;clear X P2 HA0 hHeld q0 q4 q7 c4;have c9:=HX.out.1.m.ce 9;have c10:=HX.out.1.m.ce 10;have f7:=HX.out.1.m.free 7;have f10:=HX.out.1.m.free 10;have c7:=HX.out.1.m.ce 7;have em:max (s.was:Int) (s.cwnd:Int)=((max s.was s.cwnd:Nat):Int):=max_cast _ _;have Y:=HX.out.1.putm (s':={ s with pr:=pr,was:=max s.was s.cwnd,mode:=3 }) ((Put.set (u:= .int .u64 ((max s.was s.cwnd:Nat):Int)) HX.out.1.m 10).then_ (Put.set (u:= .int .i64 3) (HX.out.1.m.set 10) 7)) rfl rfl rfl rfl rfl rfl rfl;have HY:=zH Y;clear Y;go_wp2_with fail
  go_region
  refine q_named (fun W3=>BbAt W3 B { s with pr:=pr,was:=max s.was s.cwnd,mode:=3 }∧Bbd B w W3) ⟨HY.out.1.drn ⟨_,rfl⟩,(HM.out.d.trans (HX.out.2.trans HY.out.2)).drewN _⟩ (fun W3 hW=> ?_);have HW:=zH hW;clear hW HY;go_wp2_with fail
  go_end0
  exact⟨⟨_,rfl⟩,HW.out.1,HW.out.2⟩
 | false=>
  simp only[Bool.false_eq_true,if_false];cases en with
  | true=>
   simp only[if_true];cases hf:s.pp.full with
   | true=>
    simp only[if_true];go_enter Tryz.func193,Tryz.ntmps193
    go_upto_region 1 with fail
    refine wp_named (fun W=>MdS w W B n0 s x) M0.out (fun W hM=> ?_);have q0:=hM.a.cell 0;have q4:=hM.a.cell 4;have q7:=hM.a.cell 7;simp only[smc,List.getElem?_toArray,List.getElem?_cons_zero,List.getElem?_cons_succ]at q0 q4 q7;have c4:W.cell? ⟨B+6,4,none⟩=some (.pointer (some ⟨B+4,0,none⟩)):=hM.c4;have HM:=zH (hM.below (Below.drew (Below.refl _ _)));clear hM;refine wp_region_held_drew (S:=fun wq=>wq.cell? ⟨B+6,4,none⟩=some (.pointer (some ⟨B+4,0,none⟩))∧wq.cell? ⟨n0,0,none⟩=some (.int .u64 x.now)∧wq.cell? ⟨n0,4,none⟩=some (.int .u64 x.rtt)∧wq.cell? ⟨n0,7,none⟩=some (.int .u64 x.flight)) (by kernel_rfl) ⟨c4,q0,q4,q7⟩ (fun hHeld=> ?_);refine zt 0 ?_;refine zt 1 ?_;refine zt 2 ?_;refine zt 3 ?_;refine zt 4 ?_;refine zt 5 ?_;refine zt 6 ?_;refine zt 7 ?_;refine zt 8 ?_;refine zt 9 ?_;refine zt 10 ?_;refine zt 11 ?_;refine zc 12 (fun K hK=> ?_);go_simp;refine(CF.out _ HM.out).mono ?_;rintro e w1 ⟨rfl,rfl⟩;refine hK.out _ _ ?_ (fun hHeld=> ?_);focus exact hHeld
    clear hK K;refine zl ?_;refine zc 13 (fun K hK=> ?_);go_simp;refine(CU.out _ HM.out).mono ?_;rintro e w2 ⟨rfl,P2⟩;have X:=HM.out.b.putpr P2;have HA0:=P2.other HM.out.a (by omega);refine hK.out _ _ ?_ (fun hHeld=> ?_);focus exact⟨X.1.m.cell 4,HA0.cell 0,HA0.cell 4,HA0.cell 7⟩
    clear hK K;refine zl ?_;refine zt 14 ?_;refine zt 15 ?_;refine zt 16 ?_;refine zt 17 ?_;refine zt 18 ?_;refine dnZ ?_;have HX:=zH X;have HA:=zH HA0;clear X P2 HA0 hHeld q0 q4 q7 c4;have CB:=zH (bback_any B _ w2 HX.out.1);go_wp2_with fail
    refine CB.out.mono ?_;rintro e w3 ⟨rfl,X3,D3⟩;have c7:=X3.m.ce 7;have f7:=X3.m.free 7;have c2:=X3.m.ce 2;have a3:=HA.out.cell 0;have Y:=X3.putm (s':={ s with pr:=pr,cwnd:=max s.cwnd s.was,was:=0,mode:=0 }) (Put.set (u:= .int .i64 0) X3.m 7) rfl rfl rfl rfl rfl rfl rfl;have A3:At w3 n0 266 (smc x):=(show At w3 n0 266 (smc x)from(by have:=D3.block n0 HA.out.lt (by omega);exact this.trans HA.out));have A4:=A3.far (p:=⟨B+6,7,none⟩) (u:= .int .i64 0) (by show n0≠B+6;omega);have HY:=zH Y;have HD:=zH (HM.out.d.trans (HX.out.2.trans (D3.trans Y.2)));have HA4:=zH A4;clear X3 D3 Y A3 A4 a3;go_upto_region 7 with fail
    refine wp_named (fun W=>BbAt W B { s with pr:=pr,cwnd:=max s.cwnd s.was,was:=0,mode:=0 }∧Bbd B w W∧At W n0 266 (smc x)) ⟨HY.out.1,HD.out,HA4.out⟩ (fun W5 hW=> ?_);obtain⟨X5,D5,A5⟩:=hW;have c2':W5.cell? ⟨B+6,2,none⟩=some (.pointer (some ⟨B+2,0,none⟩)):=X5.m.cell 2;have CL:=zH (full_any (B+2) s.pp W5 X5.pp);have a0:=A5.cell 0;simp only[smc,List.getElem?_toArray,List.getElem?_cons_zero]at a0;have CC:=zH (bcruise_any B _ x.now W5 X5);have HX5:=zH X5;have HD5:=zH D5;clear X5 D5 A5 HY HD HA4 c7 f7 c2;go_wp2_with fail
    rw[hf]at CL;refine CL.out.mono ?_;rintro e w6 ⟨rfl,rfl⟩;clear hf;go_wp2_with fail
    refine CC.out.mono ?_;rintro e w7 ⟨rfl,X7,D7⟩;have HX7:=zH X7;have HD7:=zH (HD5.out.trans D7);clear X7 D7;go_wp2_with fail
    go_end0
    exact⟨⟨_,rfl⟩,HX7.out,HD7.out⟩
   | false=>
    simp only[Bool.false_eq_true,if_false];go_enter Tryz.func193,Tryz.ntmps193
    go_upto_region 1 with fail
    refine wp_named (fun W=>MdS w W B n0 s x) M0.out (fun W hM=> ?_);have q0:=hM.a.cell 0;have q4:=hM.a.cell 4;have q7:=hM.a.cell 7;simp only[smc,List.getElem?_toArray,List.getElem?_cons_zero,List.getElem?_cons_succ]at q0 q4 q7;have c4:W.cell? ⟨B+6,4,none⟩=some (.pointer (some ⟨B+4,0,none⟩)):=hM.c4;have HM:=zH (hM.below (Below.drew (Below.refl _ _)));clear hM;refine wp_region_held_drew (S:=fun wq=>wq.cell? ⟨B+6,4,none⟩=some (.pointer (some ⟨B+4,0,none⟩))∧wq.cell? ⟨n0,0,none⟩=some (.int .u64 x.now)∧wq.cell? ⟨n0,4,none⟩=some (.int .u64 x.rtt)∧wq.cell? ⟨n0,7,none⟩=some (.int .u64 x.flight)) (by kernel_rfl) ⟨c4,q0,q4,q7⟩ (fun hHeld=> ?_);refine zt 0 ?_;refine zt 1 ?_;refine zt 2 ?_;refine zt 3 ?_;refine zt 4 ?_;refine zt 5 ?_;refine zt 6 ?_;refine zt 7 ?_;refine zt 8 ?_;refine zt 9 ?_;refine zt 10 ?_;refine zt 11 ?_;refine zc 12 (fun K hK=> ?_);go_simp;refine(CF.out _ HM.out).mono ?_;rintro e w1 ⟨rfl,rfl⟩;refine hK.out _ _ ?_ (fun hHeld=> ?_);focus exact hHeld
    clear hK K;refine zl ?_;refine zc 13 (fun K hK=> ?_);go_simp;refine(CU.out _ HM.out).mono ?_;rintro e w2 ⟨rfl,P2⟩;have X:=HM.out.b.putpr P2;have HA0:=P2.other HM.out.a (by omega);refine hK.out _ _ ?_ (fun hHeld=> ?_);focus exact⟨X.1.m.cell 4,HA0.cell 0,HA0.cell 4,HA0.cell 7⟩
    clear hK K;refine zl ?_;refine zt 14 ?_;refine zt 15 ?_;refine zt 16 ?_;refine zt 17 ?_;refine zt 18 ?_;refine dnZ ?_;have HX:=zH X;have HA:=zH HA0;clear X P2 HA0 hHeld q0 q4 q7 c4;have CB:=zH (bback_any B _ w2 HX.out.1);go_wp2_with fail
    refine CB.out.mono ?_;rintro e w3 ⟨rfl,X3,D3⟩;have c7:=X3.m.ce 7;have f7:=X3.m.free 7;have c2:=X3.m.ce 2;have a3:=HA.out.cell 0;have Y:=X3.putm (s':={ s with pr:=pr,cwnd:=max s.cwnd s.was,was:=0,mode:=0 }) (Put.set (u:= .int .i64 0) X3.m 7) rfl rfl rfl rfl rfl rfl rfl;have A3:At w3 n0 266 (smc x):=(show At w3 n0 266 (smc x)from(by have:=D3.block n0 HA.out.lt (by omega);exact this.trans HA.out));have A4:=A3.far (p:=⟨B+6,7,none⟩) (u:= .int .i64 0) (by show n0≠B+6;omega);have HY:=zH Y;have HD:=zH (HM.out.d.trans (HX.out.2.trans (D3.trans Y.2)));have HA4:=zH A4;clear X3 D3 Y A3 A4 a3;go_upto_region 7 with fail
    refine wp_named (fun W=>BbAt W B { s with pr:=pr,cwnd:=max s.cwnd s.was,was:=0,mode:=0 }∧Bbd B w W∧At W n0 266 (smc x)) ⟨HY.out.1,HD.out,HA4.out⟩ (fun W5 hW=> ?_);obtain⟨X5,D5,A5⟩:=hW;have c2':W5.cell? ⟨B+6,2,none⟩=some (.pointer (some ⟨B+2,0,none⟩)):=X5.m.cell 2;have CL:=zH (full_any (B+2) s.pp W5 X5.pp);have a0:=A5.cell 0;simp only[smc,List.getElem?_toArray,List.getElem?_cons_zero]at a0;have CC:=zH (bcruise_any B _ x.now W5 X5);have HX5:=zH X5;have HD5:=zH D5;clear X5 D5 A5 HY HD HA4 c7 f7 c2;go_wp2_with fail
    rw[hf]at CL;refine CL.out.mono ?_;rintro e w6 ⟨rfl,rfl⟩;clear hf;go_wp2_with fail
    go_end0
    exact⟨⟨_,rfl⟩,HX5.out,HD5.out⟩
  | false=>
   simp only[Bool.false_eq_true,if_false];go_enter Tryz.func193,Tryz.ntmps193
   go_upto_region 1 with fail
   refine wp_named (fun W=>MdS w W B n0 s x) M0.out (fun W hM=> ?_);have q0:=hM.a.cell 0;have q4:=hM.a.cell 4;have q7:=hM.a.cell 7;simp only[smc,List.getElem?_toArray,List.getElem?_cons_zero,List.getElem?_cons_succ]at q0 q4 q7;have c4:W.cell? ⟨B+6,4,none⟩=some (.pointer (some ⟨B+4,0,none⟩)):=hM.c4;have HM:=zH (hM.below (Below.drew (Below.refl _ _)));clear hM;refine wp_region_held_drew (S:=fun wq=>wq.cell? ⟨B+6,4,none⟩=some (.pointer (some ⟨B+4,0,none⟩))∧wq.cell? ⟨n0,0,none⟩=some (.int .u64 x.now)∧wq.cell? ⟨n0,4,none⟩=some (.int .u64 x.rtt)∧wq.cell? ⟨n0,7,none⟩=some (.int .u64 x.flight)) (by kernel_rfl) ⟨c4,q0,q4,q7⟩ (fun hHeld=> ?_);refine zt 0 ?_;refine zt 1 ?_;refine zt 2 ?_;refine zt 3 ?_;refine zt 4 ?_;refine zt 5 ?_;refine zt 6 ?_;refine zt 7 ?_;refine zt 8 ?_;refine zt 9 ?_;refine zt 10 ?_;refine zt 11 ?_;refine zc 12 (fun K hK=> ?_);go_simp;refine(CF.out _ HM.out).mono ?_;rintro e w1 ⟨rfl,rfl⟩;refine hK.out _ _ ?_ (fun hHeld=> ?_);focus exact hHeld
   clear hK K;refine zl ?_;refine zc 13 (fun K hK=> ?_);go_simp;refine(CU.out _ HM.out).mono ?_;rintro e w2 ⟨rfl,P2⟩;have X:=HM.out.b.putpr P2;have HA0:=P2.other HM.out.a (by omega);refine hK.out _ _ ?_ (fun hHeld=> ?_);focus exact⟨X.1.m.cell 4,HA0.cell 0,HA0.cell 4,HA0.cell 7⟩
   clear hK K;refine zl ?_;refine zt 14 ?_;refine zt 15 ?_;refine zt 16 ?_;refine zt 17 ?_;refine zt 18 ?_;refine dnZ ?_;have HX:=zH X;have HA:=zH HA0;clear X P2 HA0 hHeld q0 q4 q7 c4;go_wp2_with fail
   go_end0
   exact⟨⟨_,rfl⟩,HX.out.1,HM.out.d.trans HX.out.2⟩
end
section
open Go.RowKit Go.Lib
def BB.recover (s:BB) (x:SM) (start:Bool):BB:=
 if 0<x.lost∧s.rcv=false then { s with rcv:=true,csv:=true,upto:=satAdd x.delivered x.flight,was:=max s.was s.cwnd }
 else if s.rcv=true then(if x.delivered<s.upto then { s with csv:=s.csv&& !start }
  else if s.mode=3 then { s with rcv:=false,csv:=false }else { s with rcv:=false,csv:=false,cwnd:=max s.cwnd s.was,was:=0 })
 else s
theorem brecover_any (B:Nat) (s:BB) (hs:s.ok) (x:SM) (hx:x.big) (start:Bool) (w:World) (h:BbAt w B s):
  Calls Tryz.prog 195 #[.pointer (some ⟨B+6,0,none⟩),smp x, .bool start] w fun e w'=>(∃ v,e= .returned v)∧BbAt w' B (s.recover x start)∧Bbd B w w':=by
 obtain⟨n0,e0⟩: ∃ z,w.heap.size=z:=⟨_,rfl⟩;have hm:=h.m.lt;rw[e0]at hm;have M0:Hid (MdS w (w.alloc (.cells (smc x) 266)) B n0 s x):=zH (.mk' (h.below ((Below.refl _ w).alloc (Nat.le_refl _) _)) (Bbd.of_below ((Below.refl _ w).alloc (Nat.le_refl _) _)) (by rw[←e0];exact At.made w _ _));have CA:=zH (fun w'=>add_any x.delivered x.flight hx.dl hx.fl w');unfold BB.recover smp;obtain⟨up,eup⟩: ∃ z,satAdd x.delivered x.flight=z:=⟨_,rfl⟩;rw[eup]at CA ⊢;have hne:n0≠B+6:=by omega
 clear h hs eup hx;by_cases hl:0<x.lost
 ·have hl1:decide (0<(x.lost:Int))=true:=decide_eq_true (by omega)
  have hl2:decide (0<x.lost)=true:=decide_eq_true hl;cases hr:s.rcv with
  | false=>
   rw[if_pos ⟨hl,rfl⟩];clear hl;go_enter Tryz.func195,Tryz.ntmps195
   go_upto_region 1 with fail
   refine wp_named (fun W=>MdS w W B n0 s x) M0.out (fun W hM=> ?_);have q1:=hM.a.cell 1;have q6:=hM.a.cell 6;have q7:=hM.a.cell 7;simp only[smc,List.getElem?_toArray,List.getElem?_cons_zero,List.getElem?_cons_succ]at q1 q6 q7;have c7:=hM.b.m.ce 7;have c11:=hM.b.m.ce 11;have c12:=hM.b.m.ce 12;have c13:=hM.b.m.ce 13;have f11:=hM.b.m.free 11;have f12:=hM.b.m.free 12;have f13:=hM.b.m.free 13;rw[hr]at c11;have HM:=zH hM;clear hM;go_wp2_with fail
   refine(CA.out _).mono ?_;rintro e w1 ⟨rfl,rfl⟩;have Y:=HM.out.b.putm (s':={ s with rcv:=true,csv:=true,upto:=up }) (((Put.set (u:= .bool true) HM.out.b.m 11).then_ (Put.set (u:= .bool true) (HM.out.b.m.set 11) 12)).then_ (Put.set (u:= .int .u64 (up:Nat)) ((HM.out.b.m.set 11).set 12) 13)) rfl rfl rfl rfl rfl rfl rfl;have HY:=zH Y;clear Y;go_upto_region 3 with fail
   refine wp_named (fun W2=>BbAt W2 B { s with rcv:=true,csv:=true,upto:=up }∧Bbd B w W2) ⟨HY.out.1,HM.out.d.trans HY.out.2⟩ (fun W2 hW=> ?_);obtain⟨X2,D2⟩:=hW;clear HY HM c7 c11 c12 c13 f11 f12 f13 q1 q6 q7;have c9:=X2.m.ce 9;have c10:=X2.m.ce 10;have f10:=X2.m.free 10;have em:max (s.was:Int) (s.cwnd:Int)=((max s.was s.cwnd:Nat):Int):=max_cast _ _;have Z:=X2.putm (s':={ s with rcv:=true,csv:=true,upto:=up,was:=max s.was s.cwnd }) (Put.set (u:= .int .u64 ((max s.was s.cwnd:Nat):Int)) X2.m 10) rfl rfl rfl rfl rfl rfl rfl;have HZ:=zH Z;have HD:=zH (D2.trans Z.2);clear Z X2 D2;go_region
   refine q_named (fun W3=>BbAt W3 B { s with rcv:=true,csv:=true,upto:=up,was:=max s.was s.cwnd }∧Bbd B w W3) ⟨HZ.out.1.drn ⟨_,rfl⟩,HD.out.drewN _⟩ (fun W3 hW=> ?_);have HW:=zH hW;clear hW HZ HD;go_wp2_with fail
   go_end0
   exact⟨⟨_,rfl⟩,HW.out.1,HW.out.2⟩
  | true=>
   rw[if_neg (by rintro⟨_,h⟩;cases h),if_pos rfl];clear hl;cases hv:s.csv with
   | true=>
    by_cases hd:x.delivered<s.upto
    ·rw[if_pos hd]
     have hd1:decide ((x.delivered:Int)<s.upto)=true:=decide_eq_true (by omega);have hd2:decide (x.delivered<s.upto)=true:=decide_eq_true hd;simp only[Bool.true_and];clear hd;go_enter Tryz.func195,Tryz.ntmps195
     go_upto_region 1 with fail
     refine wp_named (fun W=>MdS w W B n0 s x) M0.out (fun W hM=> ?_);have q1:=hM.a.cell 1;have q6:=hM.a.cell 6;have q7:=hM.a.cell 7;simp only[smc,List.getElem?_toArray,List.getElem?_cons_zero,List.getElem?_cons_succ]at q1 q6 q7;have c7:=hM.b.m.ce 7;have c11:=hM.b.m.ce 11;have c12:=hM.b.m.ce 12;have c13:=hM.b.m.ce 13;have f11:=hM.b.m.free 11;have f12:=hM.b.m.free 12;have f13:=hM.b.m.free 13;rw[hr]at c11;have HM:=zH hM;clear hM;rw[hv]at c12;have HR:=zH hr;clear hv hr;have Y:=HM.out.b.putm (s':={ s with csv:= !start }) (Put.set (u:= .bool (!start)) HM.out.b.m 12) rfl rfl rfl rfl rfl rfl rfl;have HY:=zH Y;have HA:=zH (HM.out.a.far (p:=⟨B+6,12,none⟩) (u:= .bool (!start)) hne);clear Y;go_upto_region 6 with fail
     refine wp_named (fun W2=>BbAt W2 B { s with csv:= !start }∧Bbd B w W2∧At W2 n0 266 (smc x)) ⟨HY.out.1,HM.out.d.trans HY.out.2,HA.out⟩ (fun W2 hW=> ?_);obtain⟨X2,D2,A2⟩:=hW;clear HY HM HA c7 c11 c12 c13 f11 f12 f13 q1 q6 q7;have q1:=A2.cell 1;simp only[smc,List.getElem?_toArray,List.getElem?_cons_zero,List.getElem?_cons_succ]at q1;have c13:=X2.m.ce 13;have c7:=X2.m.ce 7;have c11:=X2.m.cell 11;have c12:=X2.m.cell 12;simp only[bbc,List.getElem?_toArray,List.getElem?_cons_zero,List.getElem?_cons_succ]at c11 c12;have f11:=X2.m.free 11;have f12:=X2.m.free 12;have HX:=zH X2;have HD:=zH D2;clear X2 D2 A2;go_quiet (fail)
     go_wp2_with fail
     refine bodyPost_ret (results_none rfl _ _ _) rfl ?_;rename_i nq
     have HX2:=HX.out.drn (w':=W2.drewN nq) ⟨_,rfl⟩;rw[HR.out]at HX2;exact⟨⟨_,rfl⟩,HX2,HD.out.drewN _⟩
    ·rw[if_neg hd]
     have hd1:decide ((x.delivered:Int)<s.upto)=false:=decide_eq_false (by omega);have hd2:decide (x.delivered<s.upto)=false:=decide_eq_false hd;clear hd;by_cases h3:s.mode=3
     ·rw[if_pos h3]
      have h31:((s.mode:Int)!=3)=false:=by rw[h3];rfl
      clear h3;go_enter Tryz.func195,Tryz.ntmps195
      go_upto_region 1 with fail
      refine wp_named (fun W=>MdS w W B n0 s x) M0.out (fun W hM=> ?_);have q1:=hM.a.cell 1;have q6:=hM.a.cell 6;have q7:=hM.a.cell 7;simp only[smc,List.getElem?_toArray,List.getElem?_cons_zero,List.getElem?_cons_succ]at q1 q6 q7;have c7:=hM.b.m.ce 7;have c11:=hM.b.m.ce 11;have c12:=hM.b.m.ce 12;have c13:=hM.b.m.ce 13;have f11:=hM.b.m.free 11;have f12:=hM.b.m.free 12;have f13:=hM.b.m.free 13;rw[hr]at c11;have HM:=zH hM;clear hM;rw[hv]at c12;have HR:=zH hr;clear hv hr;have Y:=HM.out.b.putm (s':={ s with csv:= !start }) (Put.set (u:= .bool (!start)) HM.out.b.m 12) rfl rfl rfl rfl rfl rfl rfl;have HY:=zH Y;have HA:=zH (HM.out.a.far (p:=⟨B+6,12,none⟩) (u:= .bool (!start)) hne);clear Y;go_upto_region 6 with fail
      refine wp_named (fun W2=>BbAt W2 B { s with csv:= !start }∧Bbd B w W2∧At W2 n0 266 (smc x)) ⟨HY.out.1,HM.out.d.trans HY.out.2,HA.out⟩ (fun W2 hW=> ?_);obtain⟨X2,D2,A2⟩:=hW;clear HY HM HA c7 c11 c12 c13 f11 f12 f13 q1 q6 q7;have q1:=A2.cell 1;simp only[smc,List.getElem?_toArray,List.getElem?_cons_zero,List.getElem?_cons_succ]at q1;have c13:=X2.m.ce 13;have c7:=X2.m.ce 7;have c11:=X2.m.cell 11;have c12:=X2.m.cell 12;simp only[bbc,List.getElem?_toArray,List.getElem?_cons_zero,List.getElem?_cons_succ]at c11 c12;have f11:=X2.m.free 11;have f12:=X2.m.free 12;have HX:=zH X2;have HD:=zH D2;clear X2 D2 A2;go_quiet (fail)
      rename_i nq
      have HX1:=zH (HX.out.drn (w':=W2.drewN nq) ⟨_,rfl⟩);have Z:=HX1.out.putm (s':={ s with rcv:=false,csv:=false }) ((Put.set (u:= .bool false) HX1.out.m 11).then_ (Put.set (u:= .bool false) (HX1.out.m.set 11) 12)) rfl rfl rfl rfl rfl rfl rfl;have HZ:=zH Z;have HE:=zH ((HD.out.drewN nq).trans Z.2);clear Z;go_wp2_with fail
      go_end0
      exact⟨⟨_,rfl⟩,HZ.out.1,HE.out⟩
     ·rw[if_neg h3]
      have h31:((s.mode:Int)!=3)=true:=by rw[bne_iff_ne];omega
      clear h3;go_enter Tryz.func195,Tryz.ntmps195
      go_upto_region 1 with fail
      refine wp_named (fun W=>MdS w W B n0 s x) M0.out (fun W hM=> ?_);have q1:=hM.a.cell 1;have q6:=hM.a.cell 6;have q7:=hM.a.cell 7;simp only[smc,List.getElem?_toArray,List.getElem?_cons_zero,List.getElem?_cons_succ]at q1 q6 q7;have c7:=hM.b.m.ce 7;have c11:=hM.b.m.ce 11;have c12:=hM.b.m.ce 12;have c13:=hM.b.m.ce 13;have f11:=hM.b.m.free 11;have f12:=hM.b.m.free 12;have f13:=hM.b.m.free 13;rw[hr]at c11;have HM:=zH hM;clear hM;rw[hv]at c12;have HR:=zH hr;clear hv hr;have Y:=HM.out.b.putm (s':={ s with csv:= !start }) (Put.set (u:= .bool (!start)) HM.out.b.m 12) rfl rfl rfl rfl rfl rfl rfl;have HY:=zH Y;have HA:=zH (HM.out.a.far (p:=⟨B+6,12,none⟩) (u:= .bool (!start)) hne);clear Y;go_upto_region 6 with fail
      refine wp_named (fun W2=>BbAt W2 B { s with csv:= !start }∧Bbd B w W2∧At W2 n0 266 (smc x)) ⟨HY.out.1,HM.out.d.trans HY.out.2,HA.out⟩ (fun W2 hW=> ?_);obtain⟨X2,D2,A2⟩:=hW;clear HY HM HA c7 c11 c12 c13 f11 f12 f13 q1 q6 q7;have q1:=A2.cell 1;simp only[smc,List.getElem?_toArray,List.getElem?_cons_zero,List.getElem?_cons_succ]at q1;have c13:=X2.m.ce 13;have c7:=X2.m.ce 7;have c11:=X2.m.cell 11;have c12:=X2.m.cell 12;simp only[bbc,List.getElem?_toArray,List.getElem?_cons_zero,List.getElem?_cons_succ]at c11 c12;have f11:=X2.m.free 11;have f12:=X2.m.free 12;have HX:=zH X2;have HD:=zH D2;clear X2 D2 A2;go_quiet (fail)
      rename_i nq
      have HX1:=zH (HX.out.drn (w':=W2.drewN nq) ⟨_,rfl⟩);have Z:=HX1.out.putm (s':={ s with rcv:=false,csv:=false }) ((Put.set (u:= .bool false) HX1.out.m 11).then_ (Put.set (u:= .bool false) (HX1.out.m.set 11) 12)) rfl rfl rfl rfl rfl rfl rfl;have HZ:=zH Z;have HE:=zH ((HD.out.drewN nq).trans Z.2);clear Z;go_wp2_with fail
      refine(bback_any B _ _ HZ.out.1).mono ?_;rintro e w5 ⟨rfl,X5,D5⟩;have HX5:=zH X5;have HD5:=zH (HE.out.trans D5);clear X5 D5;go_wp2_with fail
      go_end0
      exact⟨⟨_,rfl⟩,HX5.out,HD5.out⟩
   | false=>
    by_cases hd:x.delivered<s.upto
    ·rw[if_pos hd]
     have hd1:decide ((x.delivered:Int)<s.upto)=true:=decide_eq_true (by omega);have hd2:decide (x.delivered<s.upto)=true:=decide_eq_true hd;simp only[Bool.false_and];clear hd;go_enter Tryz.func195,Tryz.ntmps195
     go_upto_region 1 with fail
     refine wp_named (fun W=>MdS w W B n0 s x) M0.out (fun W hM=> ?_);have q1:=hM.a.cell 1;have q6:=hM.a.cell 6;have q7:=hM.a.cell 7;simp only[smc,List.getElem?_toArray,List.getElem?_cons_zero,List.getElem?_cons_succ]at q1 q6 q7;have c7:=hM.b.m.ce 7;have c11:=hM.b.m.ce 11;have c12:=hM.b.m.ce 12;have c13:=hM.b.m.ce 13;have f11:=hM.b.m.free 11;have f12:=hM.b.m.free 12;have f13:=hM.b.m.free 13;rw[hr]at c11;have HM:=zH hM;clear hM;rw[hv]at c12;have HR:=zH hr;clear hv hr;have Y:=HM.out.b.putm (s':={ s with csv:=false }) (Put.set (u:= .bool (false)) HM.out.b.m 12) rfl rfl rfl rfl rfl rfl rfl;have HY:=zH Y;have HA:=zH (HM.out.a.far (p:=⟨B+6,12,none⟩) (u:= .bool (false)) hne);clear Y;go_upto_region 6 with fail
     refine wp_named (fun W2=>BbAt W2 B { s with csv:=false }∧Bbd B w W2∧At W2 n0 266 (smc x)) ⟨HY.out.1,HM.out.d.trans HY.out.2,HA.out⟩ (fun W2 hW=> ?_);obtain⟨X2,D2,A2⟩:=hW;clear HY HM HA c7 c11 c12 c13 f11 f12 f13 q1 q6 q7;have q1:=A2.cell 1;simp only[smc,List.getElem?_toArray,List.getElem?_cons_zero,List.getElem?_cons_succ]at q1;have c13:=X2.m.ce 13;have c7:=X2.m.ce 7;have c11:=X2.m.cell 11;have c12:=X2.m.cell 12;simp only[bbc,List.getElem?_toArray,List.getElem?_cons_zero,List.getElem?_cons_succ]at c11 c12;have f11:=X2.m.free 11;have f12:=X2.m.free 12;have HX:=zH X2;have HD:=zH D2;clear X2 D2 A2;go_quiet (fail)
     go_wp2_with fail
     refine bodyPost_ret (results_none rfl _ _ _) rfl ?_;rename_i nq
     have HX2:=HX.out.drn (w':=W2.drewN nq) ⟨_,rfl⟩;rw[HR.out]at HX2;exact⟨⟨_,rfl⟩,HX2,HD.out.drewN _⟩
    ·rw[if_neg hd]
     have hd1:decide ((x.delivered:Int)<s.upto)=false:=decide_eq_false (by omega);have hd2:decide (x.delivered<s.upto)=false:=decide_eq_false hd;clear hd;by_cases h3:s.mode=3
     ·rw[if_pos h3]
      have h31:((s.mode:Int)!=3)=false:=by rw[h3];rfl
      clear h3;go_enter Tryz.func195,Tryz.ntmps195
      go_upto_region 1 with fail
      refine wp_named (fun W=>MdS w W B n0 s x) M0.out (fun W hM=> ?_);have q1:=hM.a.cell 1;have q6:=hM.a.cell 6;have q7:=hM.a.cell 7;simp only[smc,List.getElem?_toArray,List.getElem?_cons_zero,List.getElem?_cons_succ]at q1 q6 q7;have c7:=hM.b.m.ce 7;have c11:=hM.b.m.ce 11;have c12:=hM.b.m.ce 12;have c13:=hM.b.m.ce 13;have f11:=hM.b.m.free 11;have f12:=hM.b.m.free 12;have f13:=hM.b.m.free 13;rw[hr]at c11;have HM:=zH hM;clear hM;rw[hv]at c12;have HR:=zH hr;clear hv hr;have Y:=HM.out.b.putm (s':={ s with csv:=false }) (Put.set (u:= .bool (false)) HM.out.b.m 12) rfl rfl rfl rfl rfl rfl rfl;have HY:=zH Y;have HA:=zH (HM.out.a.far (p:=⟨B+6,12,none⟩) (u:= .bool (false)) hne);clear Y;go_upto_region 6 with fail
      refine wp_named (fun W2=>BbAt W2 B { s with csv:=false }∧Bbd B w W2∧At W2 n0 266 (smc x)) ⟨HY.out.1,HM.out.d.trans HY.out.2,HA.out⟩ (fun W2 hW=> ?_);obtain⟨X2,D2,A2⟩:=hW;clear HY HM HA c7 c11 c12 c13 f11 f12 f13 q1 q6 q7;have q1:=A2.cell 1;simp only[smc,List.getElem?_toArray,List.getElem?_cons_zero,List.getElem?_cons_succ]at q1;have c13:=X2.m.ce 13;have c7:=X2.m.ce 7;have c11:=X2.m.cell 11;have c12:=X2.m.cell 12;simp only[bbc,List.getElem?_toArray,List.getElem?_cons_zero,List.getElem?_cons_succ]at c11 c12;have f11:=X2.m.free 11;have f12:=X2.m.free 12;have HX:=zH X2;have HD:=zH D2;clear X2 D2 A2;go_quiet (fail)
      rename_i nq
      have HX1:=zH (HX.out.drn (w':=W2.drewN nq) ⟨_,rfl⟩);have Z:=HX1.out.putm (s':={ s with rcv:=false,csv:=false }) ((Put.set (u:= .bool false) HX1.out.m 11).then_ (Put.set (u:= .bool false) (HX1.out.m.set 11) 12)) rfl rfl rfl rfl rfl rfl rfl;have HZ:=zH Z;have HE:=zH ((HD.out.drewN nq).trans Z.2);clear Z;go_wp2_with fail
      go_end0
      exact⟨⟨_,rfl⟩,HZ.out.1,HE.out⟩
     ·rw[if_neg h3]
      have h31:((s.mode:Int)!=3)=true:=by rw[bne_iff_ne];omega
      clear h3;go_enter Tryz.func195,Tryz.ntmps195
      go_upto_region 1 with fail
      refine wp_named (fun W=>MdS w W B n0 s x) M0.out (fun W hM=> ?_);have q1:=hM.a.cell 1;have q6:=hM.a.cell 6;have q7:=hM.a.cell 7;simp only[smc,List.getElem?_toArray,List.getElem?_cons_zero,List.getElem?_cons_succ]at q1 q6 q7;have c7:=hM.b.m.ce 7;have c11:=hM.b.m.ce 11;have c12:=hM.b.m.ce 12;have c13:=hM.b.m.ce 13;have f11:=hM.b.m.free 11;have f12:=hM.b.m.free 12;have f13:=hM.b.m.free 13;rw[hr]at c11;have HM:=zH hM;clear hM;rw[hv]at c12;have HR:=zH hr;clear hv hr;have Y:=HM.out.b.putm (s':={ s with csv:=false }) (Put.set (u:= .bool (false)) HM.out.b.m 12) rfl rfl rfl rfl rfl rfl rfl;have HY:=zH Y;have HA:=zH (HM.out.a.far (p:=⟨B+6,12,none⟩) (u:= .bool (false)) hne);clear Y;go_upto_region 6 with fail
      refine wp_named (fun W2=>BbAt W2 B { s with csv:=false }∧Bbd B w W2∧At W2 n0 266 (smc x)) ⟨HY.out.1,HM.out.d.trans HY.out.2,HA.out⟩ (fun W2 hW=> ?_);obtain⟨X2,D2,A2⟩:=hW;clear HY HM HA c7 c11 c12 c13 f11 f12 f13 q1 q6 q7;have q1:=A2.cell 1;simp only[smc,List.getElem?_toArray,List.getElem?_cons_zero,List.getElem?_cons_succ]at q1;have c13:=X2.m.ce 13;have c7:=X2.m.ce 7;have c11:=X2.m.cell 11;have c12:=X2.m.cell 12;simp only[bbc,List.getElem?_toArray,List.getElem?_cons_zero,List.getElem?_cons_succ]at c11 c12;have f11:=X2.m.free 11;have f12:=X2.m.free 12;have HX:=zH X2;have HD:=zH D2;clear X2 D2 A2;go_quiet (fail)
      rename_i nq
      have HX1:=zH (HX.out.drn (w':=W2.drewN nq) ⟨_,rfl⟩);have Z:=HX1.out.putm (s':={ s with rcv:=false,csv:=false }) ((Put.set (u:= .bool false) HX1.out.m 11).then_ (Put.set (u:= .bool false) (HX1.out.m.set 11) 12)) rfl rfl rfl rfl rfl rfl rfl;have HZ:=zH Z;have HE:=zH ((HD.out.drewN nq).trans Z.2);clear Z;go_wp2_with fail
      refine(bback_any B _ _ HZ.out.1).mono ?_;rintro e w5 ⟨rfl,X5,D5⟩;have HX5:=zH X5;have HD5:=zH (HE.out.trans D5);clear X5 D5;go_wp2_with fail
      go_end0
      exact⟨⟨_,rfl⟩,HX5.out,HD5.out⟩
 ·have hl1:decide (0<(x.lost:Int))=false:=decide_eq_false (by omega)
  have hl2:decide (0<x.lost)=false:=decide_eq_false hl;rw[if_neg (fun h=>hl h.1)];clear hl;cases hr:s.rcv with
  | false=>
   rw[if_neg (by simp)];go_enter Tryz.func195,Tryz.ntmps195
   go_upto_region 1 with fail
   refine wp_named (fun W=>MdS w W B n0 s x) M0.out (fun W hM=> ?_);have q1:=hM.a.cell 1;have q6:=hM.a.cell 6;have q7:=hM.a.cell 7;simp only[smc,List.getElem?_toArray,List.getElem?_cons_zero,List.getElem?_cons_succ]at q1 q6 q7;have c7:=hM.b.m.ce 7;have c11:=hM.b.m.ce 11;have c12:=hM.b.m.ce 12;have c13:=hM.b.m.ce 13;have f11:=hM.b.m.free 11;have f12:=hM.b.m.free 12;have f13:=hM.b.m.free 13;rw[hr]at c11;have HM:=zH hM;clear hM;go_wp2_with fail
   go_end0
   exact⟨⟨_,rfl⟩,HM.out.b,HM.out.d⟩
  | true=>
   rw[if_pos rfl];cases hv:s.csv with
   | true=>
    by_cases hd:x.delivered<s.upto
    ·rw[if_pos hd]
     have hd1:decide ((x.delivered:Int)<s.upto)=true:=decide_eq_true (by omega);have hd2:decide (x.delivered<s.upto)=true:=decide_eq_true hd;simp only[Bool.true_and];clear hd;go_enter Tryz.func195,Tryz.ntmps195
     go_upto_region 1 with fail
     refine wp_named (fun W=>MdS w W B n0 s x) M0.out (fun W hM=> ?_);have q1:=hM.a.cell 1;have q6:=hM.a.cell 6;have q7:=hM.a.cell 7;simp only[smc,List.getElem?_toArray,List.getElem?_cons_zero,List.getElem?_cons_succ]at q1 q6 q7;have c7:=hM.b.m.ce 7;have c11:=hM.b.m.ce 11;have c12:=hM.b.m.ce 12;have c13:=hM.b.m.ce 13;have f11:=hM.b.m.free 11;have f12:=hM.b.m.free 12;have f13:=hM.b.m.free 13;rw[hr]at c11;have HM:=zH hM;clear hM;rw[hv]at c12;have HR:=zH hr;clear hv hr;have Y:=HM.out.b.putm (s':={ s with csv:= !start }) (Put.set (u:= .bool (!start)) HM.out.b.m 12) rfl rfl rfl rfl rfl rfl rfl;have HY:=zH Y;have HA:=zH (HM.out.a.far (p:=⟨B+6,12,none⟩) (u:= .bool (!start)) hne);clear Y;go_upto_region 6 with fail
     refine wp_named (fun W2=>BbAt W2 B { s with csv:= !start }∧Bbd B w W2∧At W2 n0 266 (smc x)) ⟨HY.out.1,HM.out.d.trans HY.out.2,HA.out⟩ (fun W2 hW=> ?_);obtain⟨X2,D2,A2⟩:=hW;clear HY HM HA c7 c11 c12 c13 f11 f12 f13 q1 q6 q7;have q1:=A2.cell 1;simp only[smc,List.getElem?_toArray,List.getElem?_cons_zero,List.getElem?_cons_succ]at q1;have c13:=X2.m.ce 13;have c7:=X2.m.ce 7;have c11:=X2.m.cell 11;have c12:=X2.m.cell 12;simp only[bbc,List.getElem?_toArray,List.getElem?_cons_zero,List.getElem?_cons_succ]at c11 c12;have f11:=X2.m.free 11;have f12:=X2.m.free 12;have HX:=zH X2;have HD:=zH D2;clear X2 D2 A2;go_quiet (fail)
     go_wp2_with fail
     refine bodyPost_ret (results_none rfl _ _ _) rfl ?_;rename_i nq
     have HX2:=HX.out.drn (w':=W2.drewN nq) ⟨_,rfl⟩;rw[HR.out]at HX2;exact⟨⟨_,rfl⟩,HX2,HD.out.drewN _⟩
    ·rw[if_neg hd]
     have hd1:decide ((x.delivered:Int)<s.upto)=false:=decide_eq_false (by omega);have hd2:decide (x.delivered<s.upto)=false:=decide_eq_false hd;clear hd;by_cases h3:s.mode=3
     ·rw[if_pos h3]
      have h31:((s.mode:Int)!=3)=false:=by rw[h3];rfl
      clear h3;go_enter Tryz.func195,Tryz.ntmps195
      go_upto_region 1 with fail
      refine wp_named (fun W=>MdS w W B n0 s x) M0.out (fun W hM=> ?_);have q1:=hM.a.cell 1;have q6:=hM.a.cell 6;have q7:=hM.a.cell 7;simp only[smc,List.getElem?_toArray,List.getElem?_cons_zero,List.getElem?_cons_succ]at q1 q6 q7;have c7:=hM.b.m.ce 7;have c11:=hM.b.m.ce 11;have c12:=hM.b.m.ce 12;have c13:=hM.b.m.ce 13;have f11:=hM.b.m.free 11;have f12:=hM.b.m.free 12;have f13:=hM.b.m.free 13;rw[hr]at c11;have HM:=zH hM;clear hM;rw[hv]at c12;have HR:=zH hr;clear hv hr;have Y:=HM.out.b.putm (s':={ s with csv:= !start }) (Put.set (u:= .bool (!start)) HM.out.b.m 12) rfl rfl rfl rfl rfl rfl rfl;have HY:=zH Y;have HA:=zH (HM.out.a.far (p:=⟨B+6,12,none⟩) (u:= .bool (!start)) hne);clear Y;go_upto_region 6 with fail
      refine wp_named (fun W2=>BbAt W2 B { s with csv:= !start }∧Bbd B w W2∧At W2 n0 266 (smc x)) ⟨HY.out.1,HM.out.d.trans HY.out.2,HA.out⟩ (fun W2 hW=> ?_);obtain⟨X2,D2,A2⟩:=hW;clear HY HM HA c7 c11 c12 c13 f11 f12 f13 q1 q6 q7;have q1:=A2.cell 1;simp only[smc,List.getElem?_toArray,List.getElem?_cons_zero,List.getElem?_cons_succ]at q1;have c13:=X2.m.ce 13;have c7:=X2.m.ce 7;have c11:=X2.m.cell 11;have c12:=X2.m.cell 12;simp only[bbc,List.getElem?_toArray,List.getElem?_cons_zero,List.getElem?_cons_succ]at c11 c12;have f11:=X2.m.free 11;have f12:=X2.m.free 12;have HX:=zH X2;have HD:=zH D2;clear X2 D2 A2;go_quiet (fail)
      rename_i nq
      have HX1:=zH (HX.out.drn (w':=W2.drewN nq) ⟨_,rfl⟩);have Z:=HX1.out.putm (s':={ s with rcv:=false,csv:=false }) ((Put.set (u:= .bool false) HX1.out.m 11).then_ (Put.set (u:= .bool false) (HX1.out.m.set 11) 12)) rfl rfl rfl rfl rfl rfl rfl;have HZ:=zH Z;have HE:=zH ((HD.out.drewN nq).trans Z.2);clear Z;go_wp2_with fail
      go_end0
      exact⟨⟨_,rfl⟩,HZ.out.1,HE.out⟩
     ·rw[if_neg h3]
      have h31:((s.mode:Int)!=3)=true:=by rw[bne_iff_ne];omega
      clear h3;go_enter Tryz.func195,Tryz.ntmps195
      go_upto_region 1 with fail
      refine wp_named (fun W=>MdS w W B n0 s x) M0.out (fun W hM=> ?_);have q1:=hM.a.cell 1;have q6:=hM.a.cell 6;have q7:=hM.a.cell 7;simp only[smc,List.getElem?_toArray,List.getElem?_cons_zero,List.getElem?_cons_succ]at q1 q6 q7;have c7:=hM.b.m.ce 7;have c11:=hM.b.m.ce 11;have c12:=hM.b.m.ce 12;have c13:=hM.b.m.ce 13;have f11:=hM.b.m.free 11;have f12:=hM.b.m.free 12;have f13:=hM.b.m.free 13;rw[hr]at c11;have HM:=zH hM;clear hM;rw[hv]at c12;have HR:=zH hr;clear hv hr;have Y:=HM.out.b.putm (s':={ s with csv:= !start }) (Put.set (u:= .bool (!start)) HM.out.b.m 12) rfl rfl rfl rfl rfl rfl rfl;have HY:=zH Y;have HA:=zH (HM.out.a.far (p:=⟨B+6,12,none⟩) (u:= .bool (!start)) hne);clear Y;go_upto_region 6 with fail
      refine wp_named (fun W2=>BbAt W2 B { s with csv:= !start }∧Bbd B w W2∧At W2 n0 266 (smc x)) ⟨HY.out.1,HM.out.d.trans HY.out.2,HA.out⟩ (fun W2 hW=> ?_);obtain⟨X2,D2,A2⟩:=hW;clear HY HM HA c7 c11 c12 c13 f11 f12 f13 q1 q6 q7;have q1:=A2.cell 1;simp only[smc,List.getElem?_toArray,List.getElem?_cons_zero,List.getElem?_cons_succ]at q1;have c13:=X2.m.ce 13;have c7:=X2.m.ce 7;have c11:=X2.m.cell 11;have c12:=X2.m.cell 12;simp only[bbc,List.getElem?_toArray,List.getElem?_cons_zero,List.getElem?_cons_succ]at c11 c12;have f11:=X2.m.free 11;have f12:=X2.m.free 12;have HX:=zH X2;have HD:=zH D2;clear X2 D2 A2;go_quiet (fail)
      rename_i nq
      have HX1:=zH (HX.out.drn (w':=W2.drewN nq) ⟨_,rfl⟩);have Z:=HX1.out.putm (s':={ s with rcv:=false,csv:=false }) ((Put.set (u:= .bool false) HX1.out.m 11).then_ (Put.set (u:= .bool false) (HX1.out.m.set 11) 12)) rfl rfl rfl rfl rfl rfl rfl;have HZ:=zH Z;have HE:=zH ((HD.out.drewN nq).trans Z.2);clear Z;go_wp2_with fail
      refine(bback_any B _ _ HZ.out.1).mono ?_;rintro e w5 ⟨rfl,X5,D5⟩;have HX5:=zH X5;have HD5:=zH (HE.out.trans D5);clear X5 D5;go_wp2_with fail
      go_end0
      exact⟨⟨_,rfl⟩,HX5.out,HD5.out⟩
   | false=>
    by_cases hd:x.delivered<s.upto
    ·rw[if_pos hd]
     have hd1:decide ((x.delivered:Int)<s.upto)=true:=decide_eq_true (by omega);have hd2:decide (x.delivered<s.upto)=true:=decide_eq_true hd;simp only[Bool.false_and];clear hd;go_enter Tryz.func195,Tryz.ntmps195
     go_upto_region 1 with fail
     refine wp_named (fun W=>MdS w W B n0 s x) M0.out (fun W hM=> ?_);have q1:=hM.a.cell 1;have q6:=hM.a.cell 6;have q7:=hM.a.cell 7;simp only[smc,List.getElem?_toArray,List.getElem?_cons_zero,List.getElem?_cons_succ]at q1 q6 q7;have c7:=hM.b.m.ce 7;have c11:=hM.b.m.ce 11;have c12:=hM.b.m.ce 12;have c13:=hM.b.m.ce 13;have f11:=hM.b.m.free 11;have f12:=hM.b.m.free 12;have f13:=hM.b.m.free 13;rw[hr]at c11;have HM:=zH hM;clear hM;rw[hv]at c12;have HR:=zH hr;clear hv hr;have Y:=HM.out.b.putm (s':={ s with csv:=false }) (Put.set (u:= .bool (false)) HM.out.b.m 12) rfl rfl rfl rfl rfl rfl rfl;have HY:=zH Y;have HA:=zH (HM.out.a.far (p:=⟨B+6,12,none⟩) (u:= .bool (false)) hne);clear Y;go_upto_region 6 with fail
     refine wp_named (fun W2=>BbAt W2 B { s with csv:=false }∧Bbd B w W2∧At W2 n0 266 (smc x)) ⟨HY.out.1,HM.out.d.trans HY.out.2,HA.out⟩ (fun W2 hW=> ?_);obtain⟨X2,D2,A2⟩:=hW;clear HY HM HA c7 c11 c12 c13 f11 f12 f13 q1 q6 q7;have q1:=A2.cell 1;simp only[smc,List.getElem?_toArray,List.getElem?_cons_zero,List.getElem?_cons_succ]at q1;have c13:=X2.m.ce 13;have c7:=X2.m.ce 7;have c11:=X2.m.cell 11;have c12:=X2.m.cell 12;simp only[bbc,List.getElem?_toArray,List.getElem?_cons_zero,List.getElem?_cons_succ]at c11 c12;have f11:=X2.m.free 11;have f12:=X2.m.free 12;have HX:=zH X2;have HD:=zH D2;clear X2 D2 A2;go_quiet (fail)
     go_wp2_with fail
     refine bodyPost_ret (results_none rfl _ _ _) rfl ?_;rename_i nq
     have HX2:=HX.out.drn (w':=W2.drewN nq) ⟨_,rfl⟩;rw[HR.out]at HX2;exact⟨⟨_,rfl⟩,HX2,HD.out.drewN _⟩
    ·rw[if_neg hd]
     have hd1:decide ((x.delivered:Int)<s.upto)=false:=decide_eq_false (by omega);have hd2:decide (x.delivered<s.upto)=false:=decide_eq_false hd;clear hd;by_cases h3:s.mode=3
     ·rw[if_pos h3]
      have h31:((s.mode:Int)!=3)=false:=by rw[h3];rfl
      clear h3;go_enter Tryz.func195,Tryz.ntmps195
      go_upto_region 1 with fail
      refine wp_named (fun W=>MdS w W B n0 s x) M0.out (fun W hM=> ?_);have q1:=hM.a.cell 1;have q6:=hM.a.cell 6;have q7:=hM.a.cell 7;simp only[smc,List.getElem?_toArray,List.getElem?_cons_zero,List.getElem?_cons_succ]at q1 q6 q7;have c7:=hM.b.m.ce 7;have c11:=hM.b.m.ce 11;have c12:=hM.b.m.ce 12;have c13:=hM.b.m.ce 13;have f11:=hM.b.m.free 11;have f12:=hM.b.m.free 12;have f13:=hM.b.m.free 13;rw[hr]at c11;have HM:=zH hM;clear hM;rw[hv]at c12;have HR:=zH hr;clear hv hr;have Y:=HM.out.b.putm (s':={ s with csv:=false }) (Put.set (u:= .bool (false)) HM.out.b.m 12) rfl rfl rfl rfl rfl rfl rfl;have HY:=zH Y;have HA:=zH (HM.out.a.far (p:=⟨B+6,12,none⟩) (u:= .bool (false)) hne);clear Y;go_upto_region 6 with fail
      refine wp_named (fun W2=>BbAt W2 B { s with csv:=false }∧Bbd B w W2∧At W2 n0 266 (smc x)) ⟨HY.out.1,HM.out.d.trans HY.out.2,HA.out⟩ (fun W2 hW=> ?_);obtain⟨X2,D2,A2⟩:=hW;clear HY HM HA c7 c11 c12 c13 f11 f12 f13 q1 q6 q7;have q1:=A2.cell 1;simp only[smc,List.getElem?_toArray,List.getElem?_cons_zero,List.getElem?_cons_succ]at q1;have c13:=X2.m.ce 13;have c7:=X2.m.ce 7;have c11:=X2.m.cell 11;have c12:=X2.m.cell 12;simp only[bbc,List.getElem?_toArray,List.getElem?_cons_zero,List.getElem?_cons_succ]at c11 c12;have f11:=X2.m.free 11;have f12:=X2.m.free 12;have HX:=zH X2;have HD:=zH D2;clear X2 D2 A2;go_quiet (fail)
      rename_i nq
      have HX1:=zH (HX.out.drn (w':=W2.drewN nq) ⟨_,rfl⟩);have Z:=HX1.out.putm (s':={ s with rcv:=false,csv:=false }) ((Put.set (u:= .bool false) HX1.out.m 11).then_ (Put.set (u:= .bool false) (HX1.out.m.set 11) 12)) rfl rfl rfl rfl rfl rfl rfl;have HZ:=zH Z;have HE:=zH ((HD.out.drewN nq).trans Z.2);clear Z;go_wp2_with fail
      go_end0
      exact⟨⟨_,rfl⟩,HZ.out.1,HE.out⟩
     ·rw[if_neg h3]
      have h31:((s.mode:Int)!=3)=true:=by rw[bne_iff_ne];omega
      clear h3;go_enter Tryz.func195,Tryz.ntmps195
      go_upto_region 1 with fail
      refine wp_named (fun W=>MdS w W B n0 s x) M0.out (fun W hM=> ?_);have q1:=hM.a.cell 1;have q6:=hM.a.cell 6;have q7:=hM.a.cell 7;simp only[smc,List.getElem?_toArray,List.getElem?_cons_zero,List.getElem?_cons_succ]at q1 q6 q7;have c7:=hM.b.m.ce 7;have c11:=hM.b.m.ce 11;have c12:=hM.b.m.ce 12;have c13:=hM.b.m.ce 13;have f11:=hM.b.m.free 11;have f12:=hM.b.m.free 12;have f13:=hM.b.m.free 13;rw[hr]at c11;have HM:=zH hM;clear hM;rw[hv]at c12;have HR:=zH hr;clear hv hr;have Y:=HM.out.b.putm (s':={ s with csv:=false }) (Put.set (u:= .bool (false)) HM.out.b.m 12) rfl rfl rfl rfl rfl rfl rfl;have HY:=zH Y;have HA:=zH (HM.out.a.far (p:=⟨B+6,12,none⟩) (u:= .bool (false)) hne);clear Y;go_upto_region 6 with fail
      refine wp_named (fun W2=>BbAt W2 B { s with csv:=false }∧Bbd B w W2∧At W2 n0 266 (smc x)) ⟨HY.out.1,HM.out.d.trans HY.out.2,HA.out⟩ (fun W2 hW=> ?_);obtain⟨X2,D2,A2⟩:=hW;clear HY HM HA c7 c11 c12 c13 f11 f12 f13 q1 q6 q7;have q1:=A2.cell 1;simp only[smc,List.getElem?_toArray,List.getElem?_cons_zero,List.getElem?_cons_succ]at q1;have c13:=X2.m.ce 13;have c7:=X2.m.ce 7;have c11:=X2.m.cell 11;have c12:=X2.m.cell 12;simp only[bbc,List.getElem?_toArray,List.getElem?_cons_zero,List.getElem?_cons_succ]at c11 c12;have f11:=X2.m.free 11;have f12:=X2.m.free 12;have HX:=zH X2;have HD:=zH D2;clear X2 D2 A2;go_quiet (fail)
      rename_i nq
      have HX1:=zH (HX.out.drn (w':=W2.drewN nq) ⟨_,rfl⟩);have Z:=HX1.out.putm (s':={ s with rcv:=false,csv:=false }) ((Put.set (u:= .bool false) HX1.out.m 11).then_ (Put.set (u:= .bool false) (HX1.out.m.set 11) 12)) rfl rfl rfl rfl rfl rfl rfl;have HZ:=zH Z;have HE:=zH ((HD.out.drewN nq).trans Z.2);clear Z;go_wp2_with fail
      refine(bback_any B _ _ HZ.out.1).mono ?_;rintro e w5 ⟨rfl,X5,D5⟩;have HX5:=zH X5;have HD5:=zH (HE.out.trans D5);clear X5 D5;go_wp2_with fail
      go_end0
      exact⟨⟨_,rfl⟩,HX5.out,HD5.out⟩
end
end Go.Proofs.YtojgokiobdpclaaGreat
