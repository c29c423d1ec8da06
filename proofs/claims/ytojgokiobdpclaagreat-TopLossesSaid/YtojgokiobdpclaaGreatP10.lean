import Derived.Test.YtojgokiobdpclaaGreatP09
namespace Go.Proofs.YtojgokiobdpclaaGreat
set_option linter.unusedVariables false
set_option linter.unusedSimpArgs false
set_option maxRecDepth 8000
set_option maxHeartbeats 8000000
section
open Go.RowKit Go.Lib
def expF (s:PS) (now:Nat):Bool:=decide (0<s.best)&&decide (satAdd s.stamp 10000000000<now)
def setF (s:PS) (now rtt:Nat):Bool:=decide (0<rtt)&&(decide (s.best=0)||decide (rtt≤s.best)||expF s now)
def s1F (s:PS) (now rtt:Nat):PS:=if setF s now rtt=true then⟨rtt,now,s.inn,s.till,s.round⟩else s
def updF (s:PS) (now rtt:Nat) (start:Bool) (flight floor:Nat):Bool×Bool×PS:=
 if(expF s now&& !s.inn)=true then(true,false,⟨(s1F s now rtt).best,(s1F s now rtt).stamp,true,0,false⟩)
 else if s.inn=true then(false,(leavesF (s1F s now rtt) now start flight floor).1,(leavesF (s1F s now rtt) now start flight floor).2)
 else(false,false,s1F s now rtt)
theorem upd_b0_r0_true (b best stamp till now rtt:Nat) (round start:Bool) (flight floor:Nat) (hst:stamp<18446744073709551616) (hn:now<18446744073709551616) (hb:best=0) (hr:rtt=0) (w:World) (h:At w b 199 (prb ⟨best,stamp,true,till,round⟩)):
  Calls Tryz.prog 210 #[.pointer (some ⟨b,0,none⟩), .int .u64 now, .int .u64 rtt, .bool start, .int .u64 flight, .int .u64 floor] w
   fun e w'=>e= .returned (.tuple #[.bool (updF ⟨best,stamp,true,till,round⟩ now rtt start flight floor).1, .bool (updF ⟨best,stamp,true,till,round⟩ now rtt start flight floor).2.1])∧Put w w' b 199 (prb (updF ⟨best,stamp,true,till,round⟩ now rtt start flight floor).2.2):=by
 have h0:=h.ce 0;have h1:=h.ce 1;have h2:=h.ce 2;have h3:=h.ce 3;have h4:=h.ce 4;have f0:=h.free 0;have f1:=h.free 1;have f2:=h.free 2;have f3:=h.free 3;have f4:=h.free 4;have H:=zH h;clear h;subst hb;subst hr;have hE:expF ⟨0,stamp,true,till,round⟩ now=false:=by simp[expF]
 have hS:setF ⟨0,stamp,true,till,round⟩ now 0=false:=by unfold setF;rw[hE];simp
 have hu:updF ⟨0,stamp,true,till,round⟩ now 0 start flight floor=(false,(leavesF ⟨0,stamp,true,till,round⟩ now start flight floor).1,(leavesF ⟨0,stamp,true,till,round⟩ now start flight floor).2):=by simp[updF,s1F,hE,hS]
 have CL:=zH (leaves_any b ⟨0,stamp,true,till,round⟩ now start flight floor hn w H.out);generalize(leavesF ⟨0,stamp,true,till,round⟩ now start flight floor).1=E1 at*
 generalize(leavesF ⟨0,stamp,true,till,round⟩ now start flight floor).2=S1 at*
 rw[hu];clear hE hS hu;go_enter Tryz.func210,Tryz.ntmps210
 go_wp2;go_step3
 go_wp2;go_step3
 go_wp2;refine wp_loop_rounds 1 ?_;rw[rounds_succ];go_wp2_with fail
 refine CL.out.mono ?_;rintro e w2 ⟨rfl,p2⟩;go_wp2;(try rw[Exit.noGoto_ret])
 go_ret2
 exact⟨rfl,(Put.same H.out).then_ p2⟩
theorem upd_b0_r0_false (b best stamp till now rtt:Nat) (round start:Bool) (flight floor:Nat) (hst:stamp<18446744073709551616) (hn:now<18446744073709551616) (hb:best=0) (hr:rtt=0) (w:World) (h:At w b 199 (prb ⟨best,stamp,false,till,round⟩)):
  Calls Tryz.prog 210 #[.pointer (some ⟨b,0,none⟩), .int .u64 now, .int .u64 rtt, .bool start, .int .u64 flight, .int .u64 floor] w
   fun e w'=>e= .returned (.tuple #[.bool (updF ⟨best,stamp,false,till,round⟩ now rtt start flight floor).1, .bool (updF ⟨best,stamp,false,till,round⟩ now rtt start flight floor).2.1])∧Put w w' b 199 (prb (updF ⟨best,stamp,false,till,round⟩ now rtt start flight floor).2.2):=by
 have h0:=h.ce 0;have h1:=h.ce 1;have h2:=h.ce 2;have h3:=h.ce 3;have h4:=h.ce 4;have f0:=h.free 0;have f1:=h.free 1;have f2:=h.free 2;have f3:=h.free 3;have f4:=h.free 4;have H:=zH h;clear h;subst hb;subst hr;have hE:expF ⟨0,stamp,false,till,round⟩ now=false:=by simp[expF]
 have hS:setF ⟨0,stamp,false,till,round⟩ now 0=false:=by unfold setF;rw[hE];simp
 have hu:updF ⟨0,stamp,false,till,round⟩ now 0 start flight floor=(false,false,⟨0,stamp,false,till,round⟩):=by simp[updF,s1F,hE,hS]
 rw[hu];clear hE hS hu;go_enter Tryz.func210,Tryz.ntmps210
 go_wp2;go_step3
 go_wp2;go_step3
 go_wp2;refine wp_loop_rounds 1 ?_;rw[rounds_succ];go_wp2;(try rw[Exit.noGoto_ret])
 go_ret2
 exact⟨rfl,(Put.same H.out)⟩
theorem upd_b0_r1_true (b best stamp till now rtt:Nat) (round start:Bool) (flight floor:Nat) (hst:stamp<18446744073709551616) (hn:now<18446744073709551616) (hb:best=0) (hr:0<rtt) (w:World) (h:At w b 199 (prb ⟨best,stamp,true,till,round⟩)):
  Calls Tryz.prog 210 #[.pointer (some ⟨b,0,none⟩), .int .u64 now, .int .u64 rtt, .bool start, .int .u64 flight, .int .u64 floor] w
   fun e w'=>e= .returned (.tuple #[.bool (updF ⟨best,stamp,true,till,round⟩ now rtt start flight floor).1, .bool (updF ⟨best,stamp,true,till,round⟩ now rtt start flight floor).2.1])∧Put w w' b 199 (prb (updF ⟨best,stamp,true,till,round⟩ now rtt start flight floor).2.2):=by
 have h0:=h.ce 0;have h1:=h.ce 1;have h2:=h.ce 2;have h3:=h.ce 3;have h4:=h.ce 4;have f0:=h.free 0;have f1:=h.free 1;have f2:=h.free 2;have f3:=h.free 3;have f4:=h.free 4;have H:=zH h;clear h;subst hb;have hE:expF ⟨0,stamp,true,till,round⟩ now=false:=by simp[expF]
 have hS:setF ⟨0,stamp,true,till,round⟩ now rtt=true:=by unfold setF;rw[hE];simp;omega
 have hu:updF ⟨0,stamp,true,till,round⟩ now rtt start flight floor=(false,(leavesF ⟨rtt,now,true,till,round⟩ now start flight floor).1,(leavesF ⟨rtt,now,true,till,round⟩ now start flight floor).2):=by simp[updF,s1F,hE,hS]
 have CL:=zH (leaves_any b ⟨rtt,now,true,till,round⟩ now start flight floor hn ((w.setCell ⟨b,0,none⟩ (.int .u64 rtt)).setCell ⟨b,1,none⟩ (.int .u64 now)) ((H.out.set 0).set 1));generalize(leavesF ⟨rtt,now,true,till,round⟩ now start flight floor).1=E1 at*
 generalize(leavesF ⟨rtt,now,true,till,round⟩ now start flight floor).2=S1 at*
 rw[hu];clear hE hS hu;go_enter Tryz.func210,Tryz.ntmps210
 go_wp2;go_step3
 go_wp2;go_step3
 go_wp2;refine wp_loop_rounds 1 ?_;rw[rounds_succ];go_wp2_with fail
 refine CL.out.mono ?_;rintro e w2 ⟨rfl,p2⟩;go_wp2;(try rw[Exit.noGoto_ret])
 go_ret2
 exact⟨rfl,((Put.set H.out 0).then_ (Put.set (H.out.set 0) 1)).then_ p2⟩
theorem upd_b0_r1_false (b best stamp till now rtt:Nat) (round start:Bool) (flight floor:Nat) (hst:stamp<18446744073709551616) (hn:now<18446744073709551616) (hb:best=0) (hr:0<rtt) (w:World) (h:At w b 199 (prb ⟨best,stamp,false,till,round⟩)):
  Calls Tryz.prog 210 #[.pointer (some ⟨b,0,none⟩), .int .u64 now, .int .u64 rtt, .bool start, .int .u64 flight, .int .u64 floor] w
   fun e w'=>e= .returned (.tuple #[.bool (updF ⟨best,stamp,false,till,round⟩ now rtt start flight floor).1, .bool (updF ⟨best,stamp,false,till,round⟩ now rtt start flight floor).2.1])∧Put w w' b 199 (prb (updF ⟨best,stamp,false,till,round⟩ now rtt start flight floor).2.2):=by
 have h0:=h.ce 0;have h1:=h.ce 1;have h2:=h.ce 2;have h3:=h.ce 3;have h4:=h.ce 4;have f0:=h.free 0;have f1:=h.free 1;have f2:=h.free 2;have f3:=h.free 3;have f4:=h.free 4;have H:=zH h;clear h;subst hb;have hE:expF ⟨0,stamp,false,till,round⟩ now=false:=by simp[expF]
 have hS:setF ⟨0,stamp,false,till,round⟩ now rtt=true:=by unfold setF;rw[hE];simp;omega
 have hu:updF ⟨0,stamp,false,till,round⟩ now rtt start flight floor=(false,false,⟨rtt,now,false,till,round⟩):=by simp[updF,s1F,hE,hS]
 rw[hu];clear hE hS hu;go_enter Tryz.func210,Tryz.ntmps210
 go_wp2;go_step3
 go_wp2;go_step3
 go_wp2;refine wp_loop_rounds 1 ?_;rw[rounds_succ];go_wp2;(try rw[Exit.noGoto_ret])
 go_ret2
 exact⟨rfl,((Put.set H.out 0).then_ (Put.set (H.out.set 0) 1))⟩
theorem upd_n_r0_true (b best stamp till now rtt:Nat) (round start:Bool) (flight floor:Nat) (hst:stamp<18446744073709551616) (hn:now<18446744073709551616) (hb:0<best) (hx: ¬ satAdd stamp 10000000000<now) (hr:rtt=0) (w:World) (h:At w b 199 (prb ⟨best,stamp,true,till,round⟩)):
  Calls Tryz.prog 210 #[.pointer (some ⟨b,0,none⟩), .int .u64 now, .int .u64 rtt, .bool start, .int .u64 flight, .int .u64 floor] w
   fun e w'=>e= .returned (.tuple #[.bool (updF ⟨best,stamp,true,till,round⟩ now rtt start flight floor).1, .bool (updF ⟨best,stamp,true,till,round⟩ now rtt start flight floor).2.1])∧Put w w' b 199 (prb (updF ⟨best,stamp,true,till,round⟩ now rtt start flight floor).2.2):=by
 have h0:=h.ce 0;have h1:=h.ce 1;have h2:=h.ce 2;have h3:=h.ce 3;have h4:=h.ce 4;have f0:=h.free 0;have f1:=h.free 1;have f2:=h.free 2;have f3:=h.free 3;have f4:=h.free 4;have H:=zH h;clear h;have CA:=zH (add_any stamp 10000000000 hst (by omega));have hXX: ∃ X,satAdd stamp 10000000000=X:=⟨_,rfl⟩;have y0:((best:Int)==0)=false:=by rw[beq_eq_false_iff_ne];omega
 subst hr;have yx:decide (satAdd stamp 10000000000<now)=false:=by simpa using hx
 have hE:expF ⟨best,stamp,true,till,round⟩ now=false:=by simp[expF];omega
 have hS:setF ⟨best,stamp,true,till,round⟩ now 0=false:=by unfold setF;rw[hE];simp
 have hu:updF ⟨best,stamp,true,till,round⟩ now 0 start flight floor=(false,(leavesF ⟨best,stamp,true,till,round⟩ now start flight floor).1,(leavesF ⟨best,stamp,true,till,round⟩ now start flight floor).2):=by simp[updF,s1F,hE,hS]
 have CL:=zH (leaves_any b ⟨best,stamp,true,till,round⟩ now start flight floor hn w H.out);generalize(leavesF ⟨best,stamp,true,till,round⟩ now start flight floor).1=E1 at*
 generalize(leavesF ⟨best,stamp,true,till,round⟩ now start flight floor).2=S1 at*
 rw[hu];clear hE hS hu;generalize satAdd stamp 10000000000=X at*
 clear hXX hx;go_enter Tryz.func210,Tryz.ntmps210
 go_wp2;go_step3
 go_wp2;go_step3
 go_wp2;refine wp_loop_rounds 1 ?_;rw[rounds_succ];go_wp2_with fail
 refine(CA.out _).mono ?_;rintro e w' ⟨rfl,rfl⟩;go_wp2_with fail
 refine CL.out.mono ?_;rintro e w2 ⟨rfl,p2⟩;go_wp2;(try rw[Exit.noGoto_ret])
 go_ret2
 exact⟨rfl,(Put.same H.out).then_ p2⟩
theorem upd_n_r0_false (b best stamp till now rtt:Nat) (round start:Bool) (flight floor:Nat) (hst:stamp<18446744073709551616) (hn:now<18446744073709551616) (hb:0<best) (hx: ¬ satAdd stamp 10000000000<now) (hr:rtt=0) (w:World) (h:At w b 199 (prb ⟨best,stamp,false,till,round⟩)):
  Calls Tryz.prog 210 #[.pointer (some ⟨b,0,none⟩), .int .u64 now, .int .u64 rtt, .bool start, .int .u64 flight, .int .u64 floor] w
   fun e w'=>e= .returned (.tuple #[.bool (updF ⟨best,stamp,false,till,round⟩ now rtt start flight floor).1, .bool (updF ⟨best,stamp,false,till,round⟩ now rtt start flight floor).2.1])∧Put w w' b 199 (prb (updF ⟨best,stamp,false,till,round⟩ now rtt start flight floor).2.2):=by
 have h0:=h.ce 0;have h1:=h.ce 1;have h2:=h.ce 2;have h3:=h.ce 3;have h4:=h.ce 4;have f0:=h.free 0;have f1:=h.free 1;have f2:=h.free 2;have f3:=h.free 3;have f4:=h.free 4;have H:=zH h;clear h;have CA:=zH (add_any stamp 10000000000 hst (by omega));have hXX: ∃ X,satAdd stamp 10000000000=X:=⟨_,rfl⟩;have y0:((best:Int)==0)=false:=by rw[beq_eq_false_iff_ne];omega
 subst hr;have yx:decide (satAdd stamp 10000000000<now)=false:=by simpa using hx
 have hE:expF ⟨best,stamp,false,till,round⟩ now=false:=by simp[expF];omega
 have hS:setF ⟨best,stamp,false,till,round⟩ now 0=false:=by unfold setF;rw[hE];simp
 have hu:updF ⟨best,stamp,false,till,round⟩ now 0 start flight floor=(false,false,⟨best,stamp,false,till,round⟩):=by simp[updF,s1F,hE,hS]
 rw[hu];clear hE hS hu;generalize satAdd stamp 10000000000=X at*
 clear hXX hx;go_enter Tryz.func210,Tryz.ntmps210
 go_wp2;go_step3
 go_wp2;go_step3
 go_wp2;refine wp_loop_rounds 1 ?_;rw[rounds_succ];go_wp2_with fail
 refine(CA.out _).mono ?_;rintro e w' ⟨rfl,rfl⟩;go_wp2;(try rw[Exit.noGoto_ret])
 go_ret2
 exact⟨rfl,(Put.same H.out)⟩
theorem upd_n_rle_true (b best stamp till now rtt:Nat) (round start:Bool) (flight floor:Nat) (hst:stamp<18446744073709551616) (hn:now<18446744073709551616) (hb:0<best) (hx: ¬ satAdd stamp 10000000000<now) (hr:0<rtt) (hl:rtt≤best) (w:World) (h:At w b 199 (prb ⟨best,stamp,true,till,round⟩)):
  Calls Tryz.prog 210 #[.pointer (some ⟨b,0,none⟩), .int .u64 now, .int .u64 rtt, .bool start, .int .u64 flight, .int .u64 floor] w
   fun e w'=>e= .returned (.tuple #[.bool (updF ⟨best,stamp,true,till,round⟩ now rtt start flight floor).1, .bool (updF ⟨best,stamp,true,till,round⟩ now rtt start flight floor).2.1])∧Put w w' b 199 (prb (updF ⟨best,stamp,true,till,round⟩ now rtt start flight floor).2.2):=by
 have h0:=h.ce 0;have h1:=h.ce 1;have h2:=h.ce 2;have h3:=h.ce 3;have h4:=h.ce 4;have f0:=h.free 0;have f1:=h.free 1;have f2:=h.free 2;have f3:=h.free 3;have f4:=h.free 4;have H:=zH h;clear h;have CA:=zH (add_any stamp 10000000000 hst (by omega));have hXX: ∃ X,satAdd stamp 10000000000=X:=⟨_,rfl⟩;have y0:((best:Int)==0)=false:=by rw[beq_eq_false_iff_ne];omega
 have yl:decide (rtt≤best)=true:=by simpa using hl
 have yx:decide (satAdd stamp 10000000000<now)=false:=by simpa using hx
 have hE:expF ⟨best,stamp,true,till,round⟩ now=false:=by simp[expF];omega
 have hS:setF ⟨best,stamp,true,till,round⟩ now rtt=true:=by unfold setF;rw[hE];simp;omega
 have hu:updF ⟨best,stamp,true,till,round⟩ now rtt start flight floor=(false,(leavesF ⟨rtt,now,true,till,round⟩ now start flight floor).1,(leavesF ⟨rtt,now,true,till,round⟩ now start flight floor).2):=by simp[updF,s1F,hE,hS]
 have CL:=zH (leaves_any b ⟨rtt,now,true,till,round⟩ now start flight floor hn ((w.setCell ⟨b,0,none⟩ (.int .u64 rtt)).setCell ⟨b,1,none⟩ (.int .u64 now)) ((H.out.set 0).set 1));generalize(leavesF ⟨rtt,now,true,till,round⟩ now start flight floor).1=E1 at*
 generalize(leavesF ⟨rtt,now,true,till,round⟩ now start flight floor).2=S1 at*
 rw[hu];clear hE hS hu;clear hl;generalize satAdd stamp 10000000000=X at*
 clear hXX hx;go_enter Tryz.func210,Tryz.ntmps210
 go_wp2;go_step3
 go_wp2;go_step3
 go_wp2;refine wp_loop_rounds 1 ?_;rw[rounds_succ];go_wp2_with fail
 refine(CA.out _).mono ?_;rintro e w' ⟨rfl,rfl⟩;go_wp2_with fail
 refine CL.out.mono ?_;rintro e w2 ⟨rfl,p2⟩;go_wp2;(try rw[Exit.noGoto_ret])
 go_ret2
 exact⟨rfl,((Put.set H.out 0).then_ (Put.set (H.out.set 0) 1)).then_ p2⟩
theorem upd_n_rle_false (b best stamp till now rtt:Nat) (round start:Bool) (flight floor:Nat) (hst:stamp<18446744073709551616) (hn:now<18446744073709551616) (hb:0<best) (hx: ¬ satAdd stamp 10000000000<now) (hr:0<rtt) (hl:rtt≤best) (w:World) (h:At w b 199 (prb ⟨best,stamp,false,till,round⟩)):
  Calls Tryz.prog 210 #[.pointer (some ⟨b,0,none⟩), .int .u64 now, .int .u64 rtt, .bool start, .int .u64 flight, .int .u64 floor] w
   fun e w'=>e= .returned (.tuple #[.bool (updF ⟨best,stamp,false,till,round⟩ now rtt start flight floor).1, .bool (updF ⟨best,stamp,false,till,round⟩ now rtt start flight floor).2.1])∧Put w w' b 199 (prb (updF ⟨best,stamp,false,till,round⟩ now rtt start flight floor).2.2):=by
 have h0:=h.ce 0;have h1:=h.ce 1;have h2:=h.ce 2;have h3:=h.ce 3;have h4:=h.ce 4;have f0:=h.free 0;have f1:=h.free 1;have f2:=h.free 2;have f3:=h.free 3;have f4:=h.free 4;have H:=zH h;clear h;have CA:=zH (add_any stamp 10000000000 hst (by omega));have hXX: ∃ X,satAdd stamp 10000000000=X:=⟨_,rfl⟩;have y0:((best:Int)==0)=false:=by rw[beq_eq_false_iff_ne];omega
 have yl:decide (rtt≤best)=true:=by simpa using hl
 have yx:decide (satAdd stamp 10000000000<now)=false:=by simpa using hx
 have hE:expF ⟨best,stamp,false,till,round⟩ now=false:=by simp[expF];omega
 have hS:setF ⟨best,stamp,false,till,round⟩ now rtt=true:=by unfold setF;rw[hE];simp;omega
 have hu:updF ⟨best,stamp,false,till,round⟩ now rtt start flight floor=(false,false,⟨rtt,now,false,till,round⟩):=by simp[updF,s1F,hE,hS]
 rw[hu];clear hE hS hu;clear hl;generalize satAdd stamp 10000000000=X at*
 clear hXX hx;go_enter Tryz.func210,Tryz.ntmps210
 go_wp2;go_step3
 go_wp2;go_step3
 go_wp2;refine wp_loop_rounds 1 ?_;rw[rounds_succ];go_wp2_with fail
 refine(CA.out _).mono ?_;rintro e w' ⟨rfl,rfl⟩;go_wp2;(try rw[Exit.noGoto_ret])
 go_ret2
 exact⟨rfl,((Put.set H.out 0).then_ (Put.set (H.out.set 0) 1))⟩
theorem upd_n_rgt_true (b best stamp till now rtt:Nat) (round start:Bool) (flight floor:Nat) (hst:stamp<18446744073709551616) (hn:now<18446744073709551616) (hb:0<best) (hx: ¬ satAdd stamp 10000000000<now) (hr:0<rtt) (hl: ¬ rtt≤best) (w:World) (h:At w b 199 (prb ⟨best,stamp,true,till,round⟩)):
  Calls Tryz.prog 210 #[.pointer (some ⟨b,0,none⟩), .int .u64 now, .int .u64 rtt, .bool start, .int .u64 flight, .int .u64 floor] w
   fun e w'=>e= .returned (.tuple #[.bool (updF ⟨best,stamp,true,till,round⟩ now rtt start flight floor).1, .bool (updF ⟨best,stamp,true,till,round⟩ now rtt start flight floor).2.1])∧Put w w' b 199 (prb (updF ⟨best,stamp,true,till,round⟩ now rtt start flight floor).2.2):=by
 have h0:=h.ce 0;have h1:=h.ce 1;have h2:=h.ce 2;have h3:=h.ce 3;have h4:=h.ce 4;have f0:=h.free 0;have f1:=h.free 1;have f2:=h.free 2;have f3:=h.free 3;have f4:=h.free 4;have H:=zH h;clear h;have CA:=zH (add_any stamp 10000000000 hst (by omega));have hXX: ∃ X,satAdd stamp 10000000000=X:=⟨_,rfl⟩;have y0:((best:Int)==0)=false:=by rw[beq_eq_false_iff_ne];omega
 have yl:decide (rtt≤best)=false:=by simpa using hl
 have yx:decide (satAdd stamp 10000000000<now)=false:=by simpa using hx
 have hE:expF ⟨best,stamp,true,till,round⟩ now=false:=by simp[expF];omega
 have hS:setF ⟨best,stamp,true,till,round⟩ now rtt=false:=by unfold setF;rw[hE];simp;omega
 have hu:updF ⟨best,stamp,true,till,round⟩ now rtt start flight floor=(false,(leavesF ⟨best,stamp,true,till,round⟩ now start flight floor).1,(leavesF ⟨best,stamp,true,till,round⟩ now start flight floor).2):=by simp[updF,s1F,hE,hS]
 have CL:=zH (leaves_any b ⟨best,stamp,true,till,round⟩ now start flight floor hn w H.out);generalize(leavesF ⟨best,stamp,true,till,round⟩ now start flight floor).1=E1 at*
 generalize(leavesF ⟨best,stamp,true,till,round⟩ now start flight floor).2=S1 at*
 rw[hu];clear hE hS hu;clear hl;generalize satAdd stamp 10000000000=X at*
 clear hXX hx;go_enter Tryz.func210,Tryz.ntmps210
 go_wp2;go_step3
 go_wp2;go_step3
 go_wp2;refine wp_loop_rounds 1 ?_;rw[rounds_succ];go_wp2_with fail
 refine(CA.out _).mono ?_;rintro e w' ⟨rfl,rfl⟩;go_wp2_with fail
 refine CL.out.mono ?_;rintro e w2 ⟨rfl,p2⟩;go_wp2;(try rw[Exit.noGoto_ret])
 go_ret2
 exact⟨rfl,(Put.same H.out).then_ p2⟩
theorem upd_n_rgt_false (b best stamp till now rtt:Nat) (round start:Bool) (flight floor:Nat) (hst:stamp<18446744073709551616) (hn:now<18446744073709551616) (hb:0<best) (hx: ¬ satAdd stamp 10000000000<now) (hr:0<rtt) (hl: ¬ rtt≤best) (w:World) (h:At w b 199 (prb ⟨best,stamp,false,till,round⟩)):
  Calls Tryz.prog 210 #[.pointer (some ⟨b,0,none⟩), .int .u64 now, .int .u64 rtt, .bool start, .int .u64 flight, .int .u64 floor] w
   fun e w'=>e= .returned (.tuple #[.bool (updF ⟨best,stamp,false,till,round⟩ now rtt start flight floor).1, .bool (updF ⟨best,stamp,false,till,round⟩ now rtt start flight floor).2.1])∧Put w w' b 199 (prb (updF ⟨best,stamp,false,till,round⟩ now rtt start flight floor).2.2):=by
 have h0:=h.ce 0;have h1:=h.ce 1;have h2:=h.ce 2;have h3:=h.ce 3;have h4:=h.ce 4;have f0:=h.free 0;have f1:=h.free 1;have f2:=h.free 2;have f3:=h.free 3;have f4:=h.free 4;have H:=zH h;clear h;have CA:=zH (add_any stamp 10000000000 hst (by omega));have hXX: ∃ X,satAdd stamp 10000000000=X:=⟨_,rfl⟩;have y0:((best:Int)==0)=false:=by rw[beq_eq_false_iff_ne];omega
 have yl:decide (rtt≤best)=false:=by simpa using hl
 have yx:decide (satAdd stamp 10000000000<now)=false:=by simpa using hx
 have hE:expF ⟨best,stamp,false,till,round⟩ now=false:=by simp[expF];omega
 have hS:setF ⟨best,stamp,false,till,round⟩ now rtt=false:=by unfold setF;rw[hE];simp;omega
 have hu:updF ⟨best,stamp,false,till,round⟩ now rtt start flight floor=(false,false,⟨best,stamp,false,till,round⟩):=by simp[updF,s1F,hE,hS]
 rw[hu];clear hE hS hu;clear hl;generalize satAdd stamp 10000000000=X at*
 clear hXX hx;go_enter Tryz.func210,Tryz.ntmps210
 go_wp2;go_step3
 go_wp2;go_step3
 go_wp2;refine wp_loop_rounds 1 ?_;rw[rounds_succ];go_wp2_with fail
 refine(CA.out _).mono ?_;rintro e w' ⟨rfl,rfl⟩;go_wp2;(try rw[Exit.noGoto_ret])
 go_ret2
 exact⟨rfl,(Put.same H.out)⟩
theorem upd_x_r0_true (b best stamp till now rtt:Nat) (round start:Bool) (flight floor:Nat) (hst:stamp<18446744073709551616) (hn:now<18446744073709551616) (hb:0<best) (hx:satAdd stamp 10000000000<now) (hr:rtt=0) (w:World) (h:At w b 199 (prb ⟨best,stamp,true,till,round⟩)):
  Calls Tryz.prog 210 #[.pointer (some ⟨b,0,none⟩), .int .u64 now, .int .u64 rtt, .bool start, .int .u64 flight, .int .u64 floor] w
   fun e w'=>e= .returned (.tuple #[.bool (updF ⟨best,stamp,true,till,round⟩ now rtt start flight floor).1, .bool (updF ⟨best,stamp,true,till,round⟩ now rtt start flight floor).2.1])∧Put w w' b 199 (prb (updF ⟨best,stamp,true,till,round⟩ now rtt start flight floor).2.2):=by
 have h0:=h.ce 0;have h1:=h.ce 1;have h2:=h.ce 2;have h3:=h.ce 3;have h4:=h.ce 4;have f0:=h.free 0;have f1:=h.free 1;have f2:=h.free 2;have f3:=h.free 3;have f4:=h.free 4;have H:=zH h;clear h;have CA:=zH (add_any stamp 10000000000 hst (by omega));have hXX: ∃ X,satAdd stamp 10000000000=X:=⟨_,rfl⟩;have y0:((best:Int)==0)=false:=by rw[beq_eq_false_iff_ne];omega
 subst hr;have yx:decide (satAdd stamp 10000000000<now)=true:=by simpa using hx
 have hE:expF ⟨best,stamp,true,till,round⟩ now=true:=by simp[expF];omega
 have hS:setF ⟨best,stamp,true,till,round⟩ now 0=false:=by unfold setF;rw[hE];simp
 have hu:updF ⟨best,stamp,true,till,round⟩ now 0 start flight floor=(false,(leavesF ⟨best,stamp,true,till,round⟩ now start flight floor).1,(leavesF ⟨best,stamp,true,till,round⟩ now start flight floor).2):=by simp[updF,s1F,hE,hS]
 have CL:=zH (leaves_any b ⟨best,stamp,true,till,round⟩ now start flight floor hn w H.out);generalize(leavesF ⟨best,stamp,true,till,round⟩ now start flight floor).1=E1 at*
 generalize(leavesF ⟨best,stamp,true,till,round⟩ now start flight floor).2=S1 at*
 rw[hu];clear hE hS hu;generalize satAdd stamp 10000000000=X at*
 clear hXX hx;go_enter Tryz.func210,Tryz.ntmps210
 go_wp2;go_step3
 go_wp2;go_step3
 go_wp2;refine wp_loop_rounds 1 ?_;rw[rounds_succ];go_wp2_with fail
 refine(CA.out _).mono ?_;rintro e w' ⟨rfl,rfl⟩;go_wp2_with fail
 refine CL.out.mono ?_;rintro e w2 ⟨rfl,p2⟩;go_wp2;(try rw[Exit.noGoto_ret])
 go_ret2
 exact⟨rfl,(Put.same H.out).then_ p2⟩
theorem upd_x_r0_false (b best stamp till now rtt:Nat) (round start:Bool) (flight floor:Nat) (hst:stamp<18446744073709551616) (hn:now<18446744073709551616) (hb:0<best) (hx:satAdd stamp 10000000000<now) (hr:rtt=0) (w:World) (h:At w b 199 (prb ⟨best,stamp,false,till,round⟩)):
  Calls Tryz.prog 210 #[.pointer (some ⟨b,0,none⟩), .int .u64 now, .int .u64 rtt, .bool start, .int .u64 flight, .int .u64 floor] w
   fun e w'=>e= .returned (.tuple #[.bool (updF ⟨best,stamp,false,till,round⟩ now rtt start flight floor).1, .bool (updF ⟨best,stamp,false,till,round⟩ now rtt start flight floor).2.1])∧Put w w' b 199 (prb (updF ⟨best,stamp,false,till,round⟩ now rtt start flight floor).2.2):=by
 have h0:=h.ce 0;have h1:=h.ce 1;have h2:=h.ce 2;have h3:=h.ce 3;have h4:=h.ce 4;have f0:=h.free 0;have f1:=h.free 1;have f2:=h.free 2;have f3:=h.free 3;have f4:=h.free 4;have H:=zH h;clear h;have CA:=zH (add_any stamp 10000000000 hst (by omega));have hXX: ∃ X,satAdd stamp 10000000000=X:=⟨_,rfl⟩;have y0:((best:Int)==0)=false:=by rw[beq_eq_false_iff_ne];omega
 subst hr;have yx:decide (satAdd stamp 10000000000<now)=true:=by simpa using hx
 have hE:expF ⟨best,stamp,false,till,round⟩ now=true:=by simp[expF];omega
 have hS:setF ⟨best,stamp,false,till,round⟩ now 0=false:=by unfold setF;rw[hE];simp
 have hu:updF ⟨best,stamp,false,till,round⟩ now 0 start flight floor=(true,false,⟨best,stamp,true,0,false⟩):=by simp[updF,s1F,hE,hS]
 rw[hu];clear hE hS hu;generalize satAdd stamp 10000000000=X at*
 clear hXX hx;go_enter Tryz.func210,Tryz.ntmps210
 go_wp2;go_step3
 go_wp2;go_step3
 go_wp2;refine wp_loop_rounds 1 ?_;rw[rounds_succ];go_wp2_with fail
 refine(CA.out _).mono ?_;rintro e w' ⟨rfl,rfl⟩;go_wp2;(try rw[Exit.noGoto_ret])
 go_ret2
 exact⟨rfl,(((Put.same H.out).then_ (Put.set H.out 2)).then_ (Put.set (H.out.set 2) 3)).then_ (Put.set ((H.out.set 2).set 3) 4)⟩
theorem upd_x_rle_true (b best stamp till now rtt:Nat) (round start:Bool) (flight floor:Nat) (hst:stamp<18446744073709551616) (hn:now<18446744073709551616) (hb:0<best) (hx:satAdd stamp 10000000000<now) (hr:0<rtt) (hl:rtt≤best) (w:World) (h:At w b 199 (prb ⟨best,stamp,true,till,round⟩)):
  Calls Tryz.prog 210 #[.pointer (some ⟨b,0,none⟩), .int .u64 now, .int .u64 rtt, .bool start, .int .u64 flight, .int .u64 floor] w
   fun e w'=>e= .returned (.tuple #[.bool (updF ⟨best,stamp,true,till,round⟩ now rtt start flight floor).1, .bool (updF ⟨best,stamp,true,till,round⟩ now rtt start flight floor).2.1])∧Put w w' b 199 (prb (updF ⟨best,stamp,true,till,round⟩ now rtt start flight floor).2.2):=by
 have h0:=h.ce 0;have h1:=h.ce 1;have h2:=h.ce 2;have h3:=h.ce 3;have h4:=h.ce 4;have f0:=h.free 0;have f1:=h.free 1;have f2:=h.free 2;have f3:=h.free 3;have f4:=h.free 4;have H:=zH h;clear h;have CA:=zH (add_any stamp 10000000000 hst (by omega));have hXX: ∃ X,satAdd stamp 10000000000=X:=⟨_,rfl⟩;have y0:((best:Int)==0)=false:=by rw[beq_eq_false_iff_ne];omega
 have yl:decide (rtt≤best)=true:=by simpa using hl
 have yx:decide (satAdd stamp 10000000000<now)=true:=by simpa using hx
 have hE:expF ⟨best,stamp,true,till,round⟩ now=true:=by simp[expF];omega
 have hS:setF ⟨best,stamp,true,till,round⟩ now rtt=true:=by unfold setF;rw[hE];simp;omega
 have hu:updF ⟨best,stamp,true,till,round⟩ now rtt start flight floor=(false,(leavesF ⟨rtt,now,true,till,round⟩ now start flight floor).1,(leavesF ⟨rtt,now,true,till,round⟩ now start flight floor).2):=by simp[updF,s1F,hE,hS]
 have CL:=zH (leaves_any b ⟨rtt,now,true,till,round⟩ now start flight floor hn ((w.setCell ⟨b,0,none⟩ (.int .u64 rtt)).setCell ⟨b,1,none⟩ (.int .u64 now)) ((H.out.set 0).set 1));generalize(leavesF ⟨rtt,now,true,till,round⟩ now start flight floor).1=E1 at*
 generalize(leavesF ⟨rtt,now,true,till,round⟩ now start flight floor).2=S1 at*
 rw[hu];clear hE hS hu;clear hl;generalize satAdd stamp 10000000000=X at*
 clear hXX hx;go_enter Tryz.func210,Tryz.ntmps210
 go_wp2;go_step3
 go_wp2;go_step3
 go_wp2;refine wp_loop_rounds 1 ?_;rw[rounds_succ];go_wp2_with fail
 refine(CA.out _).mono ?_;rintro e w' ⟨rfl,rfl⟩;go_wp2_with fail
 refine CL.out.mono ?_;rintro e w2 ⟨rfl,p2⟩;go_wp2;(try rw[Exit.noGoto_ret])
 go_ret2
 exact⟨rfl,((Put.set H.out 0).then_ (Put.set (H.out.set 0) 1)).then_ p2⟩
theorem upd_x_rle_false (b best stamp till now rtt:Nat) (round start:Bool) (flight floor:Nat) (hst:stamp<18446744073709551616) (hn:now<18446744073709551616) (hb:0<best) (hx:satAdd stamp 10000000000<now) (hr:0<rtt) (hl:rtt≤best) (w:World) (h:At w b 199 (prb ⟨best,stamp,false,till,round⟩)):
  Calls Tryz.prog 210 #[.pointer (some ⟨b,0,none⟩), .int .u64 now, .int .u64 rtt, .bool start, .int .u64 flight, .int .u64 floor] w
   fun e w'=>e= .returned (.tuple #[.bool (updF ⟨best,stamp,false,till,round⟩ now rtt start flight floor).1, .bool (updF ⟨best,stamp,false,till,round⟩ now rtt start flight floor).2.1])∧Put w w' b 199 (prb (updF ⟨best,stamp,false,till,round⟩ now rtt start flight floor).2.2):=by
 have h0:=h.ce 0;have h1:=h.ce 1;have h2:=h.ce 2;have h3:=h.ce 3;have h4:=h.ce 4;have f0:=h.free 0;have f1:=h.free 1;have f2:=h.free 2;have f3:=h.free 3;have f4:=h.free 4;have H:=zH h;clear h;have CA:=zH (add_any stamp 10000000000 hst (by omega));have hXX: ∃ X,satAdd stamp 10000000000=X:=⟨_,rfl⟩;have y0:((best:Int)==0)=false:=by rw[beq_eq_false_iff_ne];omega
 have yl:decide (rtt≤best)=true:=by simpa using hl
 have yx:decide (satAdd stamp 10000000000<now)=true:=by simpa using hx
 have hE:expF ⟨best,stamp,false,till,round⟩ now=true:=by simp[expF];omega
 have hS:setF ⟨best,stamp,false,till,round⟩ now rtt=true:=by unfold setF;rw[hE];simp;omega
 have hu:updF ⟨best,stamp,false,till,round⟩ now rtt start flight floor=(true,false,⟨rtt,now,true,0,false⟩):=by simp[updF,s1F,hE,hS]
 rw[hu];clear hE hS hu;clear hl;generalize satAdd stamp 10000000000=X at*
 clear hXX hx;go_enter Tryz.func210,Tryz.ntmps210
 go_wp2;go_step3
 go_wp2;go_step3
 go_wp2;refine wp_loop_rounds 1 ?_;rw[rounds_succ];go_wp2_with fail
 refine(CA.out _).mono ?_;rintro e w' ⟨rfl,rfl⟩;go_wp2;(try rw[Exit.noGoto_ret])
 go_ret2
 exact⟨rfl,((((Put.set H.out 0).then_ (Put.set (H.out.set 0) 1)).then_ (Put.set ((H.out.set 0).set 1) 2)).then_ (Put.set (((H.out.set 0).set 1).set 2) 3)).then_ (Put.set ((((H.out.set 0).set 1).set 2).set 3) 4)⟩
theorem upd_x_rgt_true (b best stamp till now rtt:Nat) (round start:Bool) (flight floor:Nat) (hst:stamp<18446744073709551616) (hn:now<18446744073709551616) (hb:0<best) (hx:satAdd stamp 10000000000<now) (hr:0<rtt) (hl: ¬ rtt≤best) (w:World) (h:At w b 199 (prb ⟨best,stamp,true,till,round⟩)):
  Calls Tryz.prog 210 #[.pointer (some ⟨b,0,none⟩), .int .u64 now, .int .u64 rtt, .bool start, .int .u64 flight, .int .u64 floor] w
   fun e w'=>e= .returned (.tuple #[.bool (updF ⟨best,stamp,true,till,round⟩ now rtt start flight floor).1, .bool (updF ⟨best,stamp,true,till,round⟩ now rtt start flight floor).2.1])∧Put w w' b 199 (prb (updF ⟨best,stamp,true,till,round⟩ now rtt start flight floor).2.2):=by
 have h0:=h.ce 0;have h1:=h.ce 1;have h2:=h.ce 2;have h3:=h.ce 3;have h4:=h.ce 4;have f0:=h.free 0;have f1:=h.free 1;have f2:=h.free 2;have f3:=h.free 3;have f4:=h.free 4;have H:=zH h;clear h;have CA:=zH (add_any stamp 10000000000 hst (by omega));have hXX: ∃ X,satAdd stamp 10000000000=X:=⟨_,rfl⟩;have y0:((best:Int)==0)=false:=by rw[beq_eq_false_iff_ne];omega
 have yl:decide (rtt≤best)=false:=by simpa using hl
 have yx:decide (satAdd stamp 10000000000<now)=true:=by simpa using hx
 have hE:expF ⟨best,stamp,true,till,round⟩ now=true:=by simp[expF];omega
 have hS:setF ⟨best,stamp,true,till,round⟩ now rtt=true:=by unfold setF;rw[hE];simp;omega
 have hu:updF ⟨best,stamp,true,till,round⟩ now rtt start flight floor=(false,(leavesF ⟨rtt,now,true,till,round⟩ now start flight floor).1,(leavesF ⟨rtt,now,true,till,round⟩ now start flight floor).2):=by simp[updF,s1F,hE,hS]
 have CL:=zH (leaves_any b ⟨rtt,now,true,till,round⟩ now start flight floor hn ((w.setCell ⟨b,0,none⟩ (.int .u64 rtt)).setCell ⟨b,1,none⟩ (.int .u64 now)) ((H.out.set 0).set 1));generalize(leavesF ⟨rtt,now,true,till,round⟩ now start flight floor).1=E1 at*
 generalize(leavesF ⟨rtt,now,true,till,round⟩ now start flight floor).2=S1 at*
 rw[hu];clear hE hS hu;clear hl;generalize satAdd stamp 10000000000=X at*
 clear hXX hx;go_enter Tryz.func210,Tryz.ntmps210
 go_wp2;go_step3
 go_wp2;go_step3
 go_wp2;refine wp_loop_rounds 1 ?_;rw[rounds_succ];go_wp2_with fail
 refine(CA.out _).mono ?_;rintro e w' ⟨rfl,rfl⟩;go_wp2_with fail
 refine CL.out.mono ?_;rintro e w2 ⟨rfl,p2⟩;go_wp2;(try rw[Exit.noGoto_ret])
 go_ret2
 exact⟨rfl,((Put.set H.out 0).then_ (Put.set (H.out.set 0) 1)).then_ p2⟩
theorem upd_x_rgt_false (b best stamp till now rtt:Nat) (round start:Bool) (flight floor:Nat) (hst:stamp<18446744073709551616) (hn:now<18446744073709551616) (hb:0<best) (hx:satAdd stamp 10000000000<now) (hr:0<rtt) (hl: ¬ rtt≤best) (w:World) (h:At w b 199 (prb ⟨best,stamp,false,till,round⟩)):
  Calls Tryz.prog 210 #[.pointer (some ⟨b,0,none⟩), .int .u64 now, .int .u64 rtt, .bool start, .int .u64 flight, .int .u64 floor] w
   fun e w'=>e= .returned (.tuple #[.bool (updF ⟨best,stamp,false,till,round⟩ now rtt start flight floor).1, .bool (updF ⟨best,stamp,false,till,round⟩ now rtt start flight floor).2.1])∧Put w w' b 199 (prb (updF ⟨best,stamp,false,till,round⟩ now rtt start flight floor).2.2):=by
 have h0:=h.ce 0;have h1:=h.ce 1;have h2:=h.ce 2;have h3:=h.ce 3;have h4:=h.ce 4;have f0:=h.free 0;have f1:=h.free 1;have f2:=h.free 2;have f3:=h.free 3;have f4:=h.free 4;have H:=zH h;clear h;have CA:=zH (add_any stamp 10000000000 hst (by omega));have hXX: ∃ X,satAdd stamp 10000000000=X:=⟨_,rfl⟩;have y0:((best:Int)==0)=false:=by rw[beq_eq_false_iff_ne];omega
 have yl:decide (rtt≤best)=false:=by simpa using hl
 have yx:decide (satAdd stamp 10000000000<now)=true:=by simpa using hx
 have hE:expF ⟨best,stamp,false,till,round⟩ now=true:=by simp[expF];omega
 have hS:setF ⟨best,stamp,false,till,round⟩ now rtt=true:=by unfold setF;rw[hE];simp;omega
 have hu:updF ⟨best,stamp,false,till,round⟩ now rtt start flight floor=(true,false,⟨rtt,now,true,0,false⟩):=by simp[updF,s1F,hE,hS]
 rw[hu];clear hE hS hu;clear hl;generalize satAdd stamp 10000000000=X at*
 clear hXX hx;go_enter Tryz.func210,Tryz.ntmps210
 go_wp2;go_step3
 go_wp2;go_step3
 go_wp2;refine wp_loop_rounds 1 ?_;rw[rounds_succ];go_wp2_with fail
 refine(CA.out _).mono ?_;rintro e w' ⟨rfl,rfl⟩;go_wp2;(try rw[Exit.noGoto_ret])
 go_ret2
 exact⟨rfl,((((Put.set H.out 0).then_ (Put.set (H.out.set 0) 1)).then_ (Put.set ((H.out.set 0).set 1) 2)).then_ (Put.set (((H.out.set 0).set 1).set 2) 3)).then_ (Put.set ((((H.out.set 0).set 1).set 2).set 3) 4)⟩
end
end Go.Proofs.YtojgokiobdpclaaGreat
