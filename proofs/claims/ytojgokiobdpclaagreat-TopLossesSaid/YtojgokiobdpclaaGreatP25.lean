import Derived.Test.YtojgokiobdpclaaGreatP24
namespace Go.Proofs.YtojgokiobdpclaaGreat
set_option linter.unusedVariables false
set_option linter.unusedSimpArgs false
set_option maxRecDepth 8000
set_option maxHeartbeats 8000000
section
open Go.RowKit Go.Lib
def BB.win1 (s:BB) (x:SM):Nat:=max (satSub s.cwnd x.lost) s.mss
def BB.win2 (s:BB) (x:SM) (tso:Nat):Nat:=if s.csv=true then max (s.win1 x) (satAdd x.flight x.acked)
 else if 0<x.acked then
  (if s.pp.full=true then min (satAdd (s.win1 x) x.acked) (window s.bw s.pr.best s.wg tso s.mss)
  else if s.win1 x<window s.bw s.pr.best s.wg tso s.mss∨x.delivered<10*s.mss then satAdd (s.win1 x) x.acked else s.win1 x)
 else s.win1 x
def BB.window (s:BB) (x:SM) (tso:Nat):BB:={ s with cwnd:=if s.mode=3 then 4*s.mss else max (s.win2 x tso) (4*s.mss) }
structure WnS (w wq:World) (B n0:Nat) (s:BB) (x:SM) (c:Nat):Prop where
 b:BbAt wq B { s with cwnd:=c }
 d:Bbd B w wq
 a:At wq n0 266 (smc x)
theorem WnS.below {w wq wr:World} {B n0:Nat} {s:BB} {x:SM} {c:Nat} (h:WnS w wq B n0 s x c) (hB:Below wq.heap.size wq wr):WnS w wr B n0 s x c:=⟨h.b.below hB,h.d.below hB,h.a.below hB h.a.lt⟩
theorem WnS.set {w wq:World} {B n0:Nat} {s:BB} {x:SM} {c:Nat} (h:WnS w wq B n0 s x c) (hne:n0≠B+6) (c':Nat):WnS w (wq.setCell ⟨B+6,9,none⟩ (.int .u64 (c':Nat))) B n0 s x c':=by
 have Y:=h.b.putm (s':={ s with cwnd:=c' }) (Put.set (u:= .int .u64 (c':Nat)) h.b.m 9) rfl rfl rfl rfl rfl rfl rfl;exact⟨Y.1,h.d.trans Y.2,h.a.far hne⟩
theorem WnS.facts {w wq:World} {B n0:Nat} {s:BB} {x:SM} {c:Nat} (h:WnS w wq B n0 s x c):wq.cell? ⟨B+6,9,none⟩=some (.int .u64 c)∧wq.frozen? ⟨B+6,9,none⟩=false∧wq.cell? ⟨B+6,6,none⟩=some (.int .u64 s.mss)∧wq.cell? ⟨B+6,12,none⟩=some (.bool s.csv)∧wq.cell? ⟨B+6,7,none⟩=some (.int .i64 s.mode)∧wq.cell? ⟨B+6,4,none⟩=some (.pointer (some ⟨B+4,0,none⟩))∧wq.cell? ⟨B+6,2,none⟩=some (.pointer (some ⟨B+2,0,none⟩))∧wq.cell? ⟨n0,6,none⟩=some (.int .u64 x.lost)∧wq.cell? ⟨n0,7,none⟩=some (.int .u64 x.flight)∧wq.cell? ⟨n0,5,none⟩=some (.int .u64 x.acked)∧wq.cell? ⟨n0,1,none⟩=some (.int .u64 x.delivered):=
 ⟨h.b.m.cell 9,h.b.m.free 9,h.b.m.cell 6,h.b.m.cell 12,h.b.m.cell 7,h.b.m.cell 4,h.b.m.cell 2,h.a.cell 6,h.a.cell 7,h.a.cell 5,h.a.cell 1⟩
theorem min_cast (a b:Nat):min (a:Int) (b:Int)=((min a b:Nat):Int):=by omega
theorem bwindow_any (B:Nat) (s:BB) (hs:s.ok) (x:SM) (hx:x.big) (tso:Nat) (htso:tso<18446744073709551616) (w:World) (h:BbAt w B s):
  Calls Tryz.prog 196 #[.pointer (some ⟨B+6,0,none⟩),smp x, .int .u64 tso] w fun e w'=>(∃ v,e= .returned v)∧BbAt w' B (s.window x tso)∧Bbd B w w':=by
 obtain⟨n0,e0⟩: ∃ z,w.heap.size=z:=⟨_,rfl⟩;have hm:=h.m.lt;rw[e0]at hm;have hne:n0≠B+6:=by omega
 have M0:Hid (WnS w (w.alloc (.cells (smc x) 266)) B n0 s x s.cwnd):=zH ⟨h.below ((Below.refl _ w).alloc (Nat.le_refl _) _),Bbd.of_below ((Below.refl _ w).alloc (Nat.le_refl _) _),by rw[←e0];exact At.made w _ _⟩;have CS:=zH (fun w'=>sub_any s.cwnd x.lost hs.cwnd hx.ls w');have CF:=zH (fun w' c (hc:c<18446744073709551616) (hM:WnS w w' B n0 s x c)=>bfloor_any B { s with cwnd:=c } ⟨hs.wm,hs.rn,hs.pp,hs.cp,hs.cs,hs.pr,hs.pl,hs.mss,hs.mode,hs.rate,hc,hs.was,hs.upto⟩ w' hM.b);have CA:=zH (fun w'=>add_any x.flight x.acked hx.fl hx.ak w');have CB:=zH (fun w' c (hM:WnS w w' B n0 s x c)=>bbw_any B { s with cwnd:=c } w' hM.b);have CP:=zH (fun w' c (hM:WnS w w' B n0 s x c)=>best_any (B+4) s.pr w' hM.b.pr);have CG:=zH (fun w' c (hM:WnS w w' B n0 s x c)=>bwg_any B { s with cwnd:=c } w' hM.b);have CW:=zH (fun w'=>window_any s.bw s.pr.best s.wg tso s.mss (BB.bw_lt hs) hs.pr.1 (by unfold BB.wg;(repeat' split)<;>omega) htso (by have:=hs.mss;omega) w');have CL:=zH (fun w' c (hM:WnS w w' B n0 s x c)=>full_any (B+2) s.pp w' hM.b.pp);have hc1l:s.win1 x<18446744073709551616:=by have:=hs.cwnd;have:=hs.mss;unfold BB.win1 satSub;omega
 have CA1:=zH (fun w'=>add_any (s.win1 x) x.acked hc1l hx.ak w');have hfl:satAdd x.flight x.acked<18446744073709551616:=satAdd_lt;have hal:satAdd (s.win1 x) x.acked<18446744073709551616:=satAdd_lt;have hms:=hs.mss;have hm10:IntKind.u64.wrap (10*(s.mss:Int))=((10*s.mss:Nat):Int):=by rw[show 10*(s.mss:Int)=((10*s.mss:Nat):Int)from by omega];exact wrapu_of _ (by omega)
 unfold BB.window BB.win2 smp;obtain⟨d,hd⟩: ∃ z,satSub s.cwnd x.lost=z:=⟨_,rfl⟩;have em1:max (d:Int) (s.mss:Int)=((s.win1 x:Nat):Int):=by unfold BB.win1;rw[hd];exact max_cast _ _
 rw[hd]at CS;obtain⟨c1,ec1⟩: ∃ z,s.win1 x=z:=⟨_,rfl⟩;rw[ec1]at em1 CA1 hc1l hal ⊢;obtain⟨fa,hfa⟩: ∃ z,satAdd x.flight x.acked=z:=⟨_,rfl⟩;rw[hfa]at CA hfl ⊢;obtain⟨ca,hca⟩: ∃ z,satAdd c1 x.acked=z:=⟨_,rfl⟩;rw[hca]at CA1 hal ⊢;obtain⟨W0,hW0⟩: ∃ z,Go.Proofs.YtojgokiobdpclaaGreat.window s.bw s.pr.best s.wg tso s.mss=z:=⟨_,rfl⟩;rw[hW0]at CW ⊢;obtain⟨m4,hm4⟩: ∃ z,4*s.mss=z:=⟨_,rfl⟩;simp only[hm4]at CF ⊢;obtain⟨m10,hm10'⟩: ∃ z,10*s.mss=z:=⟨_,rfl⟩;rw[hm10']at hm10 ⊢;have hm4l:m4<18446744073709551616:=by omega
 clear h hs hx ec1 hd hfa hca hW0 htso;cases hv:s.csv with
 | true=>
  simp only[if_true];go_enter Tryz.func196,Tryz.ntmps196
  go_upto_region 1 with fail
  refine wp_named (fun W=>WnS w W B n0 s x s.cwnd) M0.out (fun W hM=> ?_);obtain⟨c9,f9,c6,c12,c7,c4,c2,a6,a7,a5,a1⟩:=hM.facts;have HM:=zH hM;have HMD:=zH (hM.below (Below.drew (Below.refl _ _)));clear hM;refine wp_region_still_tail 15 (by kernel_rfl) (by kernel_rfl) ?_;simp only[List.take_succ_cons,List.take_zero,List.drop_succ_cons,List.drop_zero];iterate 7 still_step
  still_call (still0 (CS.out _))
  repeat still_step
  try refine wpStill_nil ?_
  change wpList _ _ _ _ _ W.drew
  go_upto_region 2 with fail
  refine wp_named (fun W=>WnS w W B n0 s x c1) (HMD.out.set hne c1) (fun W1 hM=> ?_);clear c9 f9 c6 c12 c7 c4 c2 a6 a7 a5 a1 HM HMD;obtain⟨c9,f9,c6,c12,c7,c4,c2,a6,a7,a5,a1⟩:=hM.facts;have HM:=zH hM;have HMD:=zH (hM.below (Below.drew (Below.refl _ _)));clear hM;rw[hv]at c12;have HV:=zH hv;clear hv;have em2:max (c1:Int) (fa:Int)=((max c1 fa:Nat):Int):=max_cast _ _;obtain⟨c2v,hc2⟩: ∃ z,max c1 fa=z:=⟨_,rfl⟩;have hc2l:c2v<18446744073709551616:=by omega
  rw[hc2]at em2;go_upto_region 3 with fail
  refine wp_region_still_tail 13 (by kernel_rfl) (by kernel_rfl) ?_;simp only[List.take_succ_cons,List.take_zero,List.drop_succ_cons,List.drop_zero];iterate 9 still_step
  still_call (still0 (CA.out _))
  repeat still_step
  try refine wpStill_nil ?_
  change wpList _ _ _ _ _ W1.drew
  go_upto_region 10 with fail
  refine wp_named (fun W=>WnS w W B n0 s x c2v) (HMD.out.set hne c2v) (fun W2 hM=> ?_);clear c9 f9 c6 c12 c7 c4 c2 a6 a7 a5 a1 HM HMD;obtain⟨c9,f9,c6,c12,c7,c4,c2,a6,a7,a5,a1⟩:=hM.facts;have HM:=zH hM;have HMD:=zH (hM.below (Below.drew (Below.refl _ _)));clear hM;try rw[hc2]
  have em3:max ((c2v:Nat):Int) (m4:Int)=((max c2v m4:Nat):Int):=max_cast _ _;obtain⟨c3,hc3⟩: ∃ z,max c2v m4=z:=⟨_,rfl⟩;rw[hc3]at em3;refine wp_region_still_tail 10 (by kernel_rfl) (by kernel_rfl) ?_;simp only[List.take_succ_cons,List.take_zero,List.drop_succ_cons,List.drop_zero];iterate 6 still_step
  still_call (still0 (CF.out _ _ hc2l HMD.out))
  repeat still_step
  try refine wpStill_nil ?_
  change wpList _ _ _ _ _ W2.drew
  go_upto_region 11 with fail
  refine wp_named (fun W=>WnS w W B n0 s x c3) (HMD.out.set hne c3) (fun W9 hM=> ?_);clear c9 f9 c6 c12 c7 c4 c2 a6 a7 a5 a1 HM HMD;obtain⟨c9,f9,c6,c12,c7,c4,c2,a6,a7,a5,a1⟩:=hM.facts;have HM:=zH hM;have HMD:=zH (hM.below (Below.drew (Below.refl _ _)));clear hM;by_cases h3:s.mode=3
  ·have h31:((s.mode:Int)==3)=true:=by rw[h3];rfl
   have HM3:=zH (HM.out.set hne m4);have CF3:=zH (CF.out _ _ (by rw[←hc3];omega) HM.out);have H3:=zH h3;clear h3;go_wp2_with fail
   refine CF3.out.mono ?_;rintro e w10 ⟨rfl,rfl⟩;go_wp2_with fail
   go_end0
   refine⟨⟨_,rfl⟩, ?_,HM3.out.d⟩;have X:=HM3.out.b;simp only[H3.out,HV.out]at X;exact X
  ·have h31:((s.mode:Int)==3)=false:=by rw[beq_eq_false_iff_ne];omega
   have H3:=zH h3;clear h3;go_wp2_with fail
   go_end0
   refine⟨⟨_,rfl⟩, ?_,HM.out.d⟩;have X:=HM.out.b;simp only[HV.out]at X;exact X
 | false=>
  simp only[Bool.false_eq_true,if_false];by_cases ha:0<x.acked
  ·have ha1:decide (0<(x.acked:Int))=true:=decide_eq_true (by omega)
   have ha2:decide (0<x.acked)=true:=decide_eq_true ha;rw[if_pos (show 0<x.acked from ha)];clear ha;cases hfu:s.pp.full with
   | true=>
    simp only[if_true];go_enter Tryz.func196,Tryz.ntmps196
    go_upto_region 1 with fail
    refine wp_named (fun W=>WnS w W B n0 s x s.cwnd) M0.out (fun W hM=> ?_);obtain⟨c9,f9,c6,c12,c7,c4,c2,a6,a7,a5,a1⟩:=hM.facts;have HM:=zH hM;have HMD:=zH (hM.below (Below.drew (Below.refl _ _)));clear hM;refine wp_region_still_tail 15 (by kernel_rfl) (by kernel_rfl) ?_;simp only[List.take_succ_cons,List.take_zero,List.drop_succ_cons,List.drop_zero];iterate 7 still_step
    still_call (still0 (CS.out _))
    repeat still_step
    try refine wpStill_nil ?_
    change wpList _ _ _ _ _ W.drew
    go_upto_region 2 with fail
    refine wp_named (fun W=>WnS w W B n0 s x c1) (HMD.out.set hne c1) (fun W1 hM=> ?_);clear c9 f9 c6 c12 c7 c4 c2 a6 a7 a5 a1 HM HMD;obtain⟨c9,f9,c6,c12,c7,c4,c2,a6,a7,a5,a1⟩:=hM.facts;have HM:=zH hM;have HMD:=zH (hM.below (Below.drew (Below.refl _ _)));clear hM;rw[hv]at c12;have HV:=zH hv;clear hv;go_upto_region 5 with fail
    refine wp_region_still_tail 14 (by kernel_rfl) (by kernel_rfl) ?_;simp only[List.take_succ_cons,List.take_zero,List.drop_succ_cons,List.drop_zero];iterate 1 still_step
    still_call (still0 (CB.out _ _ HMD.out))
    iterate 4 still_step
    still_call (still0 (CP.out _ _ HMD.out))
    iterate 1 still_step
    still_call (still0 (CG.out _ _ HMD.out))
    repeat still_step
    try refine wpStill_nil ?_
    change wpList _ _ _ _ _ W1.drew
    go_wp2_with fail
    refine(CW.out _).mono ?_;rintro e w5 ⟨rfl,hB⟩;have HM5:=zH (HMD.out.below hB);clear hB;go_upto_region 6 with fail
    refine wp_named (fun W=>WnS w W B n0 s x c1) (HM5.out) (fun W2 hM=> ?_);clear c9 f9 c6 c12 c7 c4 c2 a6 a7 a5 a1 HM HMD;obtain⟨c9,f9,c6,c12,c7,c4,c2,a6,a7,a5,a1⟩:=hM.facts;have HM:=zH hM;have HMD:=zH (hM.below (Below.drew (Below.refl _ _)));clear hM;have CL2:=zH (CL.out _ _ HM.out);rw[hfu]at CL2;go_wp2_with fail
    refine CL2.out.mono ?_;rintro e w6 ⟨rfl,rfl⟩;have em2:min (ca:Int) (W0:Int)=((min ca W0:Nat):Int):=min_cast _ _;obtain⟨c2v,hc2⟩: ∃ z,min ca W0=z:=⟨_,rfl⟩;have hc2l:c2v<18446744073709551616:=by omega
    rw[hc2]at em2;go_upto_region 7 with fail
    refine wp_region_still_tail 12 (by kernel_rfl) (by kernel_rfl) ?_;simp only[List.take_succ_cons,List.take_zero,List.drop_succ_cons,List.drop_zero];iterate 7 still_step
    still_call (still0 (CA1.out _))
    repeat still_step
    try refine wpStill_nil ?_
    change wpList _ _ _ _ _ W2.drew
    go_upto_region 10 with fail
    refine wp_named (fun W=>WnS w W B n0 s x c2v) (HMD.out.set hne c2v) (fun W3 hM=> ?_);clear c9 f9 c6 c12 c7 c4 c2 a6 a7 a5 a1 HM HMD;obtain⟨c9,f9,c6,c12,c7,c4,c2,a6,a7,a5,a1⟩:=hM.facts;have HM:=zH hM;have HMD:=zH (hM.below (Below.drew (Below.refl _ _)));clear hM;have em3:max ((c2v:Nat):Int) (m4:Int)=((max c2v m4:Nat):Int):=max_cast _ _;obtain⟨c3,hc3⟩: ∃ z,max c2v m4=z:=⟨_,rfl⟩;rw[hc3]at em3;refine wp_region_still_tail 10 (by kernel_rfl) (by kernel_rfl) ?_;simp only[List.take_succ_cons,List.take_zero,List.drop_succ_cons,List.drop_zero];iterate 6 still_step
    still_call (still0 (CF.out _ _ hc2l HMD.out))
    repeat still_step
    try refine wpStill_nil ?_
    change wpList _ _ _ _ _ W3.drew
    go_upto_region 11 with fail
    refine wp_named (fun W=>WnS w W B n0 s x c3) (HMD.out.set hne c3) (fun W9 hM=> ?_);clear c9 f9 c6 c12 c7 c4 c2 a6 a7 a5 a1 HM HMD;obtain⟨c9,f9,c6,c12,c7,c4,c2,a6,a7,a5,a1⟩:=hM.facts;have HM:=zH hM;have HMD:=zH (hM.below (Below.drew (Below.refl _ _)));clear hM;by_cases h3:s.mode=3
    ·have h31:((s.mode:Int)==3)=true:=by rw[h3];rfl
     have HM3:=zH (HM.out.set hne m4);have CF3:=zH (CF.out _ _ (by rw[←hc3];omega) HM.out);have H3:=zH h3;clear h3;go_wp2_with fail
     refine CF3.out.mono ?_;rintro e w10 ⟨rfl,rfl⟩;go_wp2_with fail
     go_end0
     refine⟨⟨_,rfl⟩, ?_,HM3.out.d⟩;have X:=HM3.out.b;simp only[H3.out,HV.out]at X;exact X
    ·have h31:((s.mode:Int)==3)=false:=by rw[beq_eq_false_iff_ne];omega
     have H3:=zH h3;clear h3;go_wp2_with fail
     go_end0
     refine⟨⟨_,rfl⟩, ?_,HM.out.d⟩;have X:=HM.out.b;simp only[HV.out]at X;exact X
   | false=>
    simp only[Bool.false_eq_true,if_false];by_cases h8:c1<W0
    ·have h81:decide ((c1:Int)<W0)=true:=decide_eq_true (by omega)
     have h82:decide (c1<W0)=true:=decide_eq_true h8;rw[if_pos (show c1<W0∨x.delivered<m10 from .inl h8)];clear h8;go_enter Tryz.func196,Tryz.ntmps196
     go_upto_region 1 with fail
     refine wp_named (fun W=>WnS w W B n0 s x s.cwnd) M0.out (fun W hM=> ?_);obtain⟨c9,f9,c6,c12,c7,c4,c2,a6,a7,a5,a1⟩:=hM.facts;have HM:=zH hM;have HMD:=zH (hM.below (Below.drew (Below.refl _ _)));clear hM;refine wp_region_still_tail 15 (by kernel_rfl) (by kernel_rfl) ?_;simp only[List.take_succ_cons,List.take_zero,List.drop_succ_cons,List.drop_zero];iterate 7 still_step
     still_call (still0 (CS.out _))
     repeat still_step
     try refine wpStill_nil ?_
     change wpList _ _ _ _ _ W.drew
     go_upto_region 2 with fail
     refine wp_named (fun W=>WnS w W B n0 s x c1) (HMD.out.set hne c1) (fun W1 hM=> ?_);clear c9 f9 c6 c12 c7 c4 c2 a6 a7 a5 a1 HM HMD;obtain⟨c9,f9,c6,c12,c7,c4,c2,a6,a7,a5,a1⟩:=hM.facts;have HM:=zH hM;have HMD:=zH (hM.below (Below.drew (Below.refl _ _)));clear hM;rw[hv]at c12;have HV:=zH hv;clear hv;go_upto_region 5 with fail
     refine wp_region_still_tail 14 (by kernel_rfl) (by kernel_rfl) ?_;simp only[List.take_succ_cons,List.take_zero,List.drop_succ_cons,List.drop_zero];iterate 1 still_step
     still_call (still0 (CB.out _ _ HMD.out))
     iterate 4 still_step
     still_call (still0 (CP.out _ _ HMD.out))
     iterate 1 still_step
     still_call (still0 (CG.out _ _ HMD.out))
     repeat still_step
     try refine wpStill_nil ?_
     change wpList _ _ _ _ _ W1.drew
     go_wp2_with fail
     refine(CW.out _).mono ?_;rintro e w5 ⟨rfl,hB⟩;have HM5:=zH (HMD.out.below hB);clear hB;go_upto_region 6 with fail
     refine wp_named (fun W=>WnS w W B n0 s x c1) (HM5.out) (fun W2 hM=> ?_);clear c9 f9 c6 c12 c7 c4 c2 a6 a7 a5 a1 HM HMD;obtain⟨c9,f9,c6,c12,c7,c4,c2,a6,a7,a5,a1⟩:=hM.facts;have HM:=zH hM;have HMD:=zH (hM.below (Below.drew (Below.refl _ _)));clear hM;have CL2:=zH (CL.out _ _ HM.out);rw[hfu]at CL2;go_wp2_with fail
     refine CL2.out.mono ?_;rintro e w6 ⟨rfl,rfl⟩;go_upto_region 8 with fail
     refine wp_region_held_drew (S:=fun wq=>(wq.cell? ⟨B+6,9,none⟩=some (.int .u64 c1)∧wq.cell? ⟨B+6,6,none⟩=some (.int .u64 s.mss)∧wq.cell? ⟨n0,1,none⟩=some (.int .u64 x.delivered))∧Hid (WnS w wq B n0 s x c1)) (by kernel_rfl) ⟨⟨c9,c6,a1⟩,HMD⟩ (fun hHeld=> ?_);refine zt 0 ?_;refine zt 1 ?_;refine zt 2 ?_;refine zt 3 ?_;refine zt 4 ?_;refine zt 5 ?_;refine zt 6 ?_;refine zn 7 ?_;refine zn 8 ?_;refine zn 9 ?_;refine zn 10 ?_;refine zn 11 ?_;refine zn 12 ?_;refine zn 13 ?_;refine zn 14 ?_;refine zt 15 ?_;refine dnZ ?_;have HM8:=hHeld.2;clear hHeld;go_upto_region 9 with fail
     refine wp_named (fun W=>WnS w W B n0 s x c1) HM8.out (fun W3 hM=> ?_);clear c9 f9 c6 c12 c7 c4 c2 a6 a7 a5 a1 HM HMD;obtain⟨c9,f9,c6,c12,c7,c4,c2,a6,a7,a5,a1⟩:=hM.facts;have HM:=zH hM;have HMD:=zH (hM.below (Below.drew (Below.refl _ _)));clear hM;refine wp_region_still_tail 10 (by kernel_rfl) (by kernel_rfl) ?_;simp only[List.take_succ_cons,List.take_zero,List.drop_succ_cons,List.drop_zero];iterate 7 still_step
     still_call (still0 (CA1.out _))
     repeat still_step
     try refine wpStill_nil ?_
     change wpList _ _ _ _ _ W3.drew
     go_upto_region 10 with fail
     refine wp_named (fun W=>WnS w W B n0 s x ca) (HMD.out.set hne ca) (fun W4 hM=> ?_);clear c9 f9 c6 c12 c7 c4 c2 a6 a7 a5 a1 HM HMD;obtain⟨c9,f9,c6,c12,c7,c4,c2,a6,a7,a5,a1⟩:=hM.facts;have HM:=zH hM;have HMD:=zH (hM.below (Below.drew (Below.refl _ _)));clear hM;have em3:max ((ca:Nat):Int) (m4:Int)=((max ca m4:Nat):Int):=max_cast _ _;obtain⟨c3,hc3⟩: ∃ z,max ca m4=z:=⟨_,rfl⟩;rw[hc3]at em3;refine wp_region_still_tail 10 (by kernel_rfl) (by kernel_rfl) ?_;simp only[List.take_succ_cons,List.take_zero,List.drop_succ_cons,List.drop_zero];iterate 6 still_step
     still_call (still0 (CF.out _ _ hal HMD.out))
     repeat still_step
     try refine wpStill_nil ?_
     change wpList _ _ _ _ _ W4.drew
     go_upto_region 11 with fail
     refine wp_named (fun W=>WnS w W B n0 s x c3) (HMD.out.set hne c3) (fun W9 hM=> ?_);clear c9 f9 c6 c12 c7 c4 c2 a6 a7 a5 a1 HM HMD;obtain⟨c9,f9,c6,c12,c7,c4,c2,a6,a7,a5,a1⟩:=hM.facts;have HM:=zH hM;have HMD:=zH (hM.below (Below.drew (Below.refl _ _)));clear hM;by_cases h3:s.mode=3
     ·have h31:((s.mode:Int)==3)=true:=by rw[h3];rfl
      have HM3:=zH (HM.out.set hne m4);have CF3:=zH (CF.out _ _ (by rw[←hc3];omega) HM.out);have H3:=zH h3;clear h3;go_wp2_with fail
      refine CF3.out.mono ?_;rintro e w10 ⟨rfl,rfl⟩;go_wp2_with fail
      go_end0
      refine⟨⟨_,rfl⟩, ?_,HM3.out.d⟩;have X:=HM3.out.b;simp only[H3.out,HV.out]at X;exact X
     ·have h31:((s.mode:Int)==3)=false:=by rw[beq_eq_false_iff_ne];omega
      have H3:=zH h3;clear h3;go_wp2_with fail
      go_end0
      refine⟨⟨_,rfl⟩, ?_,HM.out.d⟩;have X:=HM.out.b;simp only[HV.out]at X;exact X
    ·have h81:decide ((c1:Int)<W0)=false:=decide_eq_false (by omega)
     have h82:decide (c1<W0)=false:=decide_eq_false h8;by_cases h9:x.delivered<m10
     ·have h91:decide ((x.delivered:Int)<m10)=true:=decide_eq_true (by omega)
      have h92:decide (x.delivered<m10)=true:=decide_eq_true h9;rw[if_pos (show c1<W0∨x.delivered<m10 from .inr h9)];clear h8 h9;go_enter Tryz.func196,Tryz.ntmps196
      go_upto_region 1 with fail
      refine wp_named (fun W=>WnS w W B n0 s x s.cwnd) M0.out (fun W hM=> ?_);obtain⟨c9,f9,c6,c12,c7,c4,c2,a6,a7,a5,a1⟩:=hM.facts;have HM:=zH hM;have HMD:=zH (hM.below (Below.drew (Below.refl _ _)));clear hM;refine wp_region_still_tail 15 (by kernel_rfl) (by kernel_rfl) ?_;simp only[List.take_succ_cons,List.take_zero,List.drop_succ_cons,List.drop_zero];iterate 7 still_step
      still_call (still0 (CS.out _))
      repeat still_step
      try refine wpStill_nil ?_
      change wpList _ _ _ _ _ W.drew
      go_upto_region 2 with fail
      refine wp_named (fun W=>WnS w W B n0 s x c1) (HMD.out.set hne c1) (fun W1 hM=> ?_);clear c9 f9 c6 c12 c7 c4 c2 a6 a7 a5 a1 HM HMD;obtain⟨c9,f9,c6,c12,c7,c4,c2,a6,a7,a5,a1⟩:=hM.facts;have HM:=zH hM;have HMD:=zH (hM.below (Below.drew (Below.refl _ _)));clear hM;rw[hv]at c12;have HV:=zH hv;clear hv;go_upto_region 5 with fail
      refine wp_region_still_tail 14 (by kernel_rfl) (by kernel_rfl) ?_;simp only[List.take_succ_cons,List.take_zero,List.drop_succ_cons,List.drop_zero];iterate 1 still_step
      still_call (still0 (CB.out _ _ HMD.out))
      iterate 4 still_step
      still_call (still0 (CP.out _ _ HMD.out))
      iterate 1 still_step
      still_call (still0 (CG.out _ _ HMD.out))
      repeat still_step
      try refine wpStill_nil ?_
      change wpList _ _ _ _ _ W1.drew
      go_wp2_with fail
      refine(CW.out _).mono ?_;rintro e w5 ⟨rfl,hB⟩;have HM5:=zH (HMD.out.below hB);clear hB;go_upto_region 6 with fail
      refine wp_named (fun W=>WnS w W B n0 s x c1) (HM5.out) (fun W2 hM=> ?_);clear c9 f9 c6 c12 c7 c4 c2 a6 a7 a5 a1 HM HMD;obtain⟨c9,f9,c6,c12,c7,c4,c2,a6,a7,a5,a1⟩:=hM.facts;have HM:=zH hM;have HMD:=zH (hM.below (Below.drew (Below.refl _ _)));clear hM;have CL2:=zH (CL.out _ _ HM.out);rw[hfu]at CL2;go_wp2_with fail
      refine CL2.out.mono ?_;rintro e w6 ⟨rfl,rfl⟩;go_upto_region 8 with fail
      refine wp_region_held_drew (S:=fun wq=>(wq.cell? ⟨B+6,9,none⟩=some (.int .u64 c1)∧wq.cell? ⟨B+6,6,none⟩=some (.int .u64 s.mss)∧wq.cell? ⟨n0,1,none⟩=some (.int .u64 x.delivered))∧Hid (WnS w wq B n0 s x c1)) (by kernel_rfl) ⟨⟨c9,c6,a1⟩,HMD⟩ (fun hHeld=> ?_);refine zt 0 ?_;refine zt 1 ?_;refine zt 2 ?_;refine zt 3 ?_;refine zt 4 ?_;refine zt 5 ?_;refine zt 6 ?_;refine zt 7 ?_;refine zt 8 ?_;refine zt 9 ?_;refine zt 10 ?_;refine zt 11 ?_;refine zt 12 ?_;refine zt 13 ?_;refine zt 14 ?_;refine zt 15 ?_;refine dnZ ?_;have HM8:=hHeld.2;clear hHeld;go_upto_region 9 with fail
      refine wp_named (fun W=>WnS w W B n0 s x c1) HM8.out (fun W3 hM=> ?_);clear c9 f9 c6 c12 c7 c4 c2 a6 a7 a5 a1 HM HMD;obtain⟨c9,f9,c6,c12,c7,c4,c2,a6,a7,a5,a1⟩:=hM.facts;have HM:=zH hM;have HMD:=zH (hM.below (Below.drew (Below.refl _ _)));clear hM;refine wp_region_still_tail 10 (by kernel_rfl) (by kernel_rfl) ?_;simp only[List.take_succ_cons,List.take_zero,List.drop_succ_cons,List.drop_zero];iterate 7 still_step
      still_call (still0 (CA1.out _))
      repeat still_step
      try refine wpStill_nil ?_
      change wpList _ _ _ _ _ W3.drew
      go_upto_region 10 with fail
      refine wp_named (fun W=>WnS w W B n0 s x ca) (HMD.out.set hne ca) (fun W4 hM=> ?_);clear c9 f9 c6 c12 c7 c4 c2 a6 a7 a5 a1 HM HMD;obtain⟨c9,f9,c6,c12,c7,c4,c2,a6,a7,a5,a1⟩:=hM.facts;have HM:=zH hM;have HMD:=zH (hM.below (Below.drew (Below.refl _ _)));clear hM;have em3:max ((ca:Nat):Int) (m4:Int)=((max ca m4:Nat):Int):=max_cast _ _;obtain⟨c3,hc3⟩: ∃ z,max ca m4=z:=⟨_,rfl⟩;rw[hc3]at em3;refine wp_region_still_tail 10 (by kernel_rfl) (by kernel_rfl) ?_;simp only[List.take_succ_cons,List.take_zero,List.drop_succ_cons,List.drop_zero];iterate 6 still_step
      still_call (still0 (CF.out _ _ hal HMD.out))
      repeat still_step
      try refine wpStill_nil ?_
      change wpList _ _ _ _ _ W4.drew
      go_upto_region 11 with fail
      refine wp_named (fun W=>WnS w W B n0 s x c3) (HMD.out.set hne c3) (fun W9 hM=> ?_);clear c9 f9 c6 c12 c7 c4 c2 a6 a7 a5 a1 HM HMD;obtain⟨c9,f9,c6,c12,c7,c4,c2,a6,a7,a5,a1⟩:=hM.facts;have HM:=zH hM;have HMD:=zH (hM.below (Below.drew (Below.refl _ _)));clear hM;by_cases h3:s.mode=3
      ·have h31:((s.mode:Int)==3)=true:=by rw[h3];rfl
       have HM3:=zH (HM.out.set hne m4);have CF3:=zH (CF.out _ _ (by rw[←hc3];omega) HM.out);have H3:=zH h3;clear h3;go_wp2_with fail
       refine CF3.out.mono ?_;rintro e w10 ⟨rfl,rfl⟩;go_wp2_with fail
       go_end0
       refine⟨⟨_,rfl⟩, ?_,HM3.out.d⟩;have X:=HM3.out.b;simp only[H3.out,HV.out]at X;exact X
      ·have h31:((s.mode:Int)==3)=false:=by rw[beq_eq_false_iff_ne];omega
       have H3:=zH h3;clear h3;go_wp2_with fail
       go_end0
       refine⟨⟨_,rfl⟩, ?_,HM.out.d⟩;have X:=HM.out.b;simp only[HV.out]at X;exact X
     ·have h91:decide ((x.delivered:Int)<m10)=false:=decide_eq_false (by omega)
      have h92:decide (x.delivered<m10)=false:=decide_eq_false h9;rw[if_neg (show ¬(c1<W0∨x.delivered<m10) by omega)];clear h8 h9;go_enter Tryz.func196,Tryz.ntmps196
      go_upto_region 1 with fail
      refine wp_named (fun W=>WnS w W B n0 s x s.cwnd) M0.out (fun W hM=> ?_);obtain⟨c9,f9,c6,c12,c7,c4,c2,a6,a7,a5,a1⟩:=hM.facts;have HM:=zH hM;have HMD:=zH (hM.below (Below.drew (Below.refl _ _)));clear hM;refine wp_region_still_tail 15 (by kernel_rfl) (by kernel_rfl) ?_;simp only[List.take_succ_cons,List.take_zero,List.drop_succ_cons,List.drop_zero];iterate 7 still_step
      still_call (still0 (CS.out _))
      repeat still_step
      try refine wpStill_nil ?_
      change wpList _ _ _ _ _ W.drew
      go_upto_region 2 with fail
      refine wp_named (fun W=>WnS w W B n0 s x c1) (HMD.out.set hne c1) (fun W1 hM=> ?_);clear c9 f9 c6 c12 c7 c4 c2 a6 a7 a5 a1 HM HMD;obtain⟨c9,f9,c6,c12,c7,c4,c2,a6,a7,a5,a1⟩:=hM.facts;have HM:=zH hM;have HMD:=zH (hM.below (Below.drew (Below.refl _ _)));clear hM;rw[hv]at c12;have HV:=zH hv;clear hv;go_upto_region 5 with fail
      refine wp_region_still_tail 14 (by kernel_rfl) (by kernel_rfl) ?_;simp only[List.take_succ_cons,List.take_zero,List.drop_succ_cons,List.drop_zero];iterate 1 still_step
      still_call (still0 (CB.out _ _ HMD.out))
      iterate 4 still_step
      still_call (still0 (CP.out _ _ HMD.out))
      iterate 1 still_step
      still_call (still0 (CG.out _ _ HMD.out))
      repeat still_step
      try refine wpStill_nil ?_
      change wpList _ _ _ _ _ W1.drew
      go_wp2_with fail
      refine(CW.out _).mono ?_;rintro e w5 ⟨rfl,hB⟩;have HM5:=zH (HMD.out.below hB);clear hB;go_upto_region 6 with fail
      refine wp_named (fun W=>WnS w W B n0 s x c1) (HM5.out) (fun W2 hM=> ?_);clear c9 f9 c6 c12 c7 c4 c2 a6 a7 a5 a1 HM HMD;obtain⟨c9,f9,c6,c12,c7,c4,c2,a6,a7,a5,a1⟩:=hM.facts;have HM:=zH hM;have HMD:=zH (hM.below (Below.drew (Below.refl _ _)));clear hM;have CL2:=zH (CL.out _ _ HM.out);rw[hfu]at CL2;go_wp2_with fail
      refine CL2.out.mono ?_;rintro e w6 ⟨rfl,rfl⟩;go_upto_region 8 with fail
      refine wp_region_held_drew (S:=fun wq=>(wq.cell? ⟨B+6,9,none⟩=some (.int .u64 c1)∧wq.cell? ⟨B+6,6,none⟩=some (.int .u64 s.mss)∧wq.cell? ⟨n0,1,none⟩=some (.int .u64 x.delivered))∧Hid (WnS w wq B n0 s x c1)) (by kernel_rfl) ⟨⟨c9,c6,a1⟩,HMD⟩ (fun hHeld=> ?_);refine zt 0 ?_;refine zt 1 ?_;refine zt 2 ?_;refine zt 3 ?_;refine zt 4 ?_;refine zt 5 ?_;refine zt 6 ?_;refine zt 7 ?_;refine zt 8 ?_;refine zt 9 ?_;refine zt 10 ?_;refine zt 11 ?_;refine zt 12 ?_;refine zt 13 ?_;refine zt 14 ?_;refine zt 15 ?_;refine dnZ ?_;have HM8:=hHeld.2;clear hHeld;go_upto_region 10 with fail
      refine wp_named (fun W=>WnS w W B n0 s x c1) (HM8.out) (fun W4 hM=> ?_);clear c9 f9 c6 c12 c7 c4 c2 a6 a7 a5 a1 HM HMD;obtain⟨c9,f9,c6,c12,c7,c4,c2,a6,a7,a5,a1⟩:=hM.facts;have HM:=zH hM;have HMD:=zH (hM.below (Below.drew (Below.refl _ _)));clear hM;have em3:max ((c1:Nat):Int) (m4:Int)=((max c1 m4:Nat):Int):=max_cast _ _;obtain⟨c3,hc3⟩: ∃ z,max c1 m4=z:=⟨_,rfl⟩;rw[hc3]at em3;refine wp_region_still_tail 10 (by kernel_rfl) (by kernel_rfl) ?_;simp only[List.take_succ_cons,List.take_zero,List.drop_succ_cons,List.drop_zero];iterate 6 still_step
      still_call (still0 (CF.out _ _ hc1l HMD.out))
      repeat still_step
      try refine wpStill_nil ?_
      change wpList _ _ _ _ _ W4.drew
      go_upto_region 11 with fail
      refine wp_named (fun W=>WnS w W B n0 s x c3) (HMD.out.set hne c3) (fun W9 hM=> ?_);clear c9 f9 c6 c12 c7 c4 c2 a6 a7 a5 a1 HM HMD;obtain⟨c9,f9,c6,c12,c7,c4,c2,a6,a7,a5,a1⟩:=hM.facts;have HM:=zH hM;have HMD:=zH (hM.below (Below.drew (Below.refl _ _)));clear hM;by_cases h3:s.mode=3
      ·have h31:((s.mode:Int)==3)=true:=by rw[h3];rfl
       have HM3:=zH (HM.out.set hne m4);have CF3:=zH (CF.out _ _ (by rw[←hc3];omega) HM.out);have H3:=zH h3;clear h3;go_wp2_with fail
       refine CF3.out.mono ?_;rintro e w10 ⟨rfl,rfl⟩;go_wp2_with fail
       go_end0
       refine⟨⟨_,rfl⟩, ?_,HM3.out.d⟩;have X:=HM3.out.b;simp only[H3.out,HV.out]at X;exact X
      ·have h31:((s.mode:Int)==3)=false:=by rw[beq_eq_false_iff_ne];omega
       have H3:=zH h3;clear h3;go_wp2_with fail
       go_end0
       refine⟨⟨_,rfl⟩, ?_,HM.out.d⟩;have X:=HM.out.b;simp only[HV.out]at X;exact X
  ·have ha1:decide (0<(x.acked:Int))=false:=decide_eq_false (by omega)
   have ha2:decide (0<x.acked)=false:=decide_eq_false ha;rw[if_neg (show ¬ 0<x.acked from ha)];clear ha;go_enter Tryz.func196,Tryz.ntmps196
   go_upto_region 1 with fail
   refine wp_named (fun W=>WnS w W B n0 s x s.cwnd) M0.out (fun W hM=> ?_);obtain⟨c9,f9,c6,c12,c7,c4,c2,a6,a7,a5,a1⟩:=hM.facts;have HM:=zH hM;have HMD:=zH (hM.below (Below.drew (Below.refl _ _)));clear hM;refine wp_region_still_tail 15 (by kernel_rfl) (by kernel_rfl) ?_;simp only[List.take_succ_cons,List.take_zero,List.drop_succ_cons,List.drop_zero];iterate 7 still_step
   still_call (still0 (CS.out _))
   repeat still_step
   try refine wpStill_nil ?_
   change wpList _ _ _ _ _ W.drew
   go_upto_region 2 with fail
   refine wp_named (fun W=>WnS w W B n0 s x c1) (HMD.out.set hne c1) (fun W1 hM=> ?_);clear c9 f9 c6 c12 c7 c4 c2 a6 a7 a5 a1 HM HMD;obtain⟨c9,f9,c6,c12,c7,c4,c2,a6,a7,a5,a1⟩:=hM.facts;have HM:=zH hM;have HMD:=zH (hM.below (Below.drew (Below.refl _ _)));clear hM;rw[hv]at c12;have HV:=zH hv;clear hv;go_upto_region 10 with fail
   refine wp_named (fun W=>WnS w W B n0 s x c1) (HM.out) (fun W2 hM=> ?_);clear c9 f9 c6 c12 c7 c4 c2 a6 a7 a5 a1 HM HMD;obtain⟨c9,f9,c6,c12,c7,c4,c2,a6,a7,a5,a1⟩:=hM.facts;have HM:=zH hM;have HMD:=zH (hM.below (Below.drew (Below.refl _ _)));clear hM;have em3:max ((c1:Nat):Int) (m4:Int)=((max c1 m4:Nat):Int):=max_cast _ _;obtain⟨c3,hc3⟩: ∃ z,max c1 m4=z:=⟨_,rfl⟩;rw[hc3]at em3;refine wp_region_still_tail 10 (by kernel_rfl) (by kernel_rfl) ?_;simp only[List.take_succ_cons,List.take_zero,List.drop_succ_cons,List.drop_zero];iterate 6 still_step
   still_call (still0 (CF.out _ _ hc1l HMD.out))
   repeat still_step
   try refine wpStill_nil ?_
   change wpList _ _ _ _ _ W2.drew
   go_upto_region 11 with fail
   refine wp_named (fun W=>WnS w W B n0 s x c3) (HMD.out.set hne c3) (fun W9 hM=> ?_);clear c9 f9 c6 c12 c7 c4 c2 a6 a7 a5 a1 HM HMD;obtain⟨c9,f9,c6,c12,c7,c4,c2,a6,a7,a5,a1⟩:=hM.facts;have HM:=zH hM;have HMD:=zH (hM.below (Below.drew (Below.refl _ _)));clear hM;by_cases h3:s.mode=3
   ·have h31:((s.mode:Int)==3)=true:=by rw[h3];rfl
    have HM3:=zH (HM.out.set hne m4);have CF3:=zH (CF.out _ _ (by rw[←hc3];omega) HM.out);have H3:=zH h3;clear h3;go_wp2_with fail
    refine CF3.out.mono ?_;rintro e w10 ⟨rfl,rfl⟩;go_wp2_with fail
    go_end0
    refine⟨⟨_,rfl⟩, ?_,HM3.out.d⟩;have X:=HM3.out.b;simp only[H3.out,HV.out]at X;exact X
   ·have h31:((s.mode:Int)==3)=false:=by rw[beq_eq_false_iff_ne];omega
    have H3:=zH h3;clear h3;go_wp2_with fail
    go_end0
    refine⟨⟨_,rfl⟩, ?_,HM.out.d⟩;have X:=HM.out.b;simp only[HV.out]at X;exact X
end
end Go.Proofs.YtojgokiobdpclaaGreat
