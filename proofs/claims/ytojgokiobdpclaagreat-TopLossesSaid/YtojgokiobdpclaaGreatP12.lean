import Derived.Test.YtojgokiobdpclaaGreatP11
import Derived.IntWalk
namespace Go.Proofs.YtojgokiobdpclaaGreat
set_option linter.unusedVariables false
set_option linter.unusedSimpArgs false
set_option maxRecDepth 8000
set_option maxHeartbeats 8000000
section
open Go.RowKit Go.Lib
theorem pupd_use0 (b:Nat) (s:PL) (x:SM) (w:World) (h:At w b 247 (pol s)) (hs:s.ok) (hx:x.ok) (hu:s.use=true):
  Calls Tryz.prog 187 #[.pointer (some ⟨b,0,none⟩), .bool false,smp x] w fun e w'=>e= .returned (.tuple #[])∧Put w w' b 247 (pol (addL s x)):=by
 have P0:Hid (Put w (((w.setCell ⟨b,4,none⟩ (.int .u64 ((satAdd s.lost x.lost:Nat):Int))).alloc (.cells #[.int .u64 x.now, .int .u64 x.delivered, .int .u64 x.prior, .int .u64 x.interval, .int .u64 x.rtt, .int .u64 x.acked, .int .u64 x.lost, .int .u64 x.flight, .bool x.limited] 266)).drew) b 247 (pol (addL s x))):=zH ((((Put.same h).s 4 (.int .u64 ((satAdd s.lost x.lost:Nat):Int))).a _).d);have A0:Hid (At (((w.setCell ⟨b,4,none⟩ (.int .u64 ((satAdd s.lost x.lost:Nat):Int))).alloc (.cells #[.int .u64 x.now, .int .u64 x.delivered, .int .u64 x.prior, .int .u64 x.interval, .int .u64 x.rtt, .int .u64 x.acked, .int .u64 x.lost, .int .u64 x.flight, .bool x.limited] 266)).drew) w.heap.size 266 (cellsS x)):=zH (by
  have hh:=At.made (w.setCell ⟨b,4,none⟩ (.int .u64 ((satAdd s.lost x.lost:Nat):Int))) 266 (cellsS x);have e:(w.setCell ⟨b,4,none⟩ (.int .u64 ((satAdd s.lost x.lost:Nat):Int))).heap.size=w.heap.size:=by simp
  rw[e]at hh;exact hh)
 have hlt:=h.lt;have h4:w.cell? ⟨b,4,none⟩=some (.int .u64 s.lost):=h.cell 4;have f4:=h.free 4;have CA:=zH (add_any s.lost x.lost hs.2.1 hx.2.2);have HS:=zH hs;have HX:=zH hx;clear h hs hx;have HU:=zH hu;clear hu;unfold smp;go_enter Tryz.func187,Tryz.ntmps187
 go_wp2;go_step3
 go_wp2;go_step3
 go_wp2;refine wp_loop_rounds 1 ?_;rw[rounds_succ];go_wp2_with fail
 go_region_with (go_at_call 119;(refine(CA.out _).mono ?_;rintro e w' ⟨rfl,rfl⟩))
 all_goals
  generalize(((w.setCell ⟨b,4,none⟩ (.int .u64 ((satAdd s.lost x.lost:Nat):Int))).alloc (.cells #[.int .u64 x.now, .int .u64 x.delivered, .int .u64 x.prior, .int .u64 x.interval, .int .u64 x.rtt, .int .u64 x.acked, .int .u64 x.lost, .int .u64 x.flight, .bool x.limited] 266)).drew)=w1 at*
  have h0:w1.cell? ⟨b,0,none⟩=some (.bool true):=by rw[←HU.out];exact P0.out.1.cell 0
  have h3:w1.cell? ⟨b,3,none⟩=some (.int .i64 s.n):=P0.out.1.cell 3;have f3:=P0.out.1.free 3;have hb1:=P0.out.1.lt;have e6:w1.cell? ⟨w.heap.size,6,none⟩=some (.int .u64 x.lost):=A0.out.cell 6;go_wp2;first | rw[Exit.noGoto_normal] | rw[Exit.noGoto_exit] | skip
  go_end0
  exact⟨rfl,P0.out⟩
theorem pupd_use1 (b:Nat) (s:PL) (x:SM) (w:World) (h:At w b 247 (pol s)) (hs:s.ok) (hx:x.ok) (hu:s.use=true) (hn:s.n<47):
  Calls Tryz.prog 187 #[.pointer (some ⟨b,0,none⟩), .bool true,smp x] w fun e w'=>e= .returned (.tuple #[])∧Put w w' b 247 (pol ({ addL s x with n:=s.n+1 })):=by
 have P0:Hid (Put w (((w.setCell ⟨b,4,none⟩ (.int .u64 ((satAdd s.lost x.lost:Nat):Int))).alloc (.cells #[.int .u64 x.now, .int .u64 x.delivered, .int .u64 x.prior, .int .u64 x.interval, .int .u64 x.rtt, .int .u64 x.acked, .int .u64 x.lost, .int .u64 x.flight, .bool x.limited] 266)).drew) b 247 (pol (addL s x))):=zH ((((Put.same h).s 4 (.int .u64 ((satAdd s.lost x.lost:Nat):Int))).a _).d);have A0:Hid (At (((w.setCell ⟨b,4,none⟩ (.int .u64 ((satAdd s.lost x.lost:Nat):Int))).alloc (.cells #[.int .u64 x.now, .int .u64 x.delivered, .int .u64 x.prior, .int .u64 x.interval, .int .u64 x.rtt, .int .u64 x.acked, .int .u64 x.lost, .int .u64 x.flight, .bool x.limited] 266)).drew) w.heap.size 266 (cellsS x)):=zH (by
  have hh:=At.made (w.setCell ⟨b,4,none⟩ (.int .u64 ((satAdd s.lost x.lost:Nat):Int))) 266 (cellsS x);have e:(w.setCell ⟨b,4,none⟩ (.int .u64 ((satAdd s.lost x.lost:Nat):Int))).heap.size=w.heap.size:=by simp
  rw[e]at hh;exact hh)
 have hlt:=h.lt;have h4:w.cell? ⟨b,4,none⟩=some (.int .u64 s.lost):=h.cell 4;have f4:=h.free 4;have CA:=zH (add_any s.lost x.lost hs.2.1 hx.2.2);have HS:=zH hs;have HX:=zH hx;clear h hs hx;have HU:=zH hu;clear hu;have y1:IntKind.i64.wrap ((s.n:Int)+1)=(s.n:Int)+1:=IntWalk.i64_in _ (by omega);have y2:((s.n:Int)+1==48)=false:=by rw[beq_eq_false_iff_ne];omega
 unfold smp;go_enter Tryz.func187,Tryz.ntmps187
 go_wp2;go_step3
 go_wp2;go_step3
 go_wp2;refine wp_loop_rounds 1 ?_;rw[rounds_succ];go_wp2_with fail
 go_region_with (go_at_call 119;(refine(CA.out _).mono ?_;rintro e w' ⟨rfl,rfl⟩))
 all_goals
  generalize(((w.setCell ⟨b,4,none⟩ (.int .u64 ((satAdd s.lost x.lost:Nat):Int))).alloc (.cells #[.int .u64 x.now, .int .u64 x.delivered, .int .u64 x.prior, .int .u64 x.interval, .int .u64 x.rtt, .int .u64 x.acked, .int .u64 x.lost, .int .u64 x.flight, .bool x.limited] 266)).drew)=w1 at*
  have h0:w1.cell? ⟨b,0,none⟩=some (.bool true):=by rw[←HU.out];exact P0.out.1.cell 0
  have h3:w1.cell? ⟨b,3,none⟩=some (.int .i64 s.n):=P0.out.1.cell 3;have f3:=P0.out.1.free 3;have hb1:=P0.out.1.lt;have e6:w1.cell? ⟨w.heap.size,6,none⟩=some (.int .u64 x.lost):=A0.out.cell 6;go_wp2;first | rw[Exit.noGoto_normal] | rw[Exit.noGoto_exit] | skip
  go_end0
  exact⟨rfl,P0.out.s 3 (.int .i64 ((s.n+1:Nat):Int))⟩
theorem pupd_use2 (b:Nat) (s:PL) (x:SM) (w:World) (h:At w b 247 (pol s)) (hs:s.ok) (hx:x.ok) (hu:s.use=true) (hn:s.n=47):
  Calls Tryz.prog 187 #[.pointer (some ⟨b,0,none⟩), .bool true,smp x] w fun e w'=>e= .returned (.tuple #[])∧Put w w' b 247 (pol ({ leaveF (addL s x)with n:=0 })):=by
 have P0:Hid (Put w (((w.setCell ⟨b,4,none⟩ (.int .u64 ((satAdd s.lost x.lost:Nat):Int))).alloc (.cells #[.int .u64 x.now, .int .u64 x.delivered, .int .u64 x.prior, .int .u64 x.interval, .int .u64 x.rtt, .int .u64 x.acked, .int .u64 x.lost, .int .u64 x.flight, .bool x.limited] 266)).drew) b 247 (pol (addL s x))):=zH ((((Put.same h).s 4 (.int .u64 ((satAdd s.lost x.lost:Nat):Int))).a _).d);have A0:Hid (At (((w.setCell ⟨b,4,none⟩ (.int .u64 ((satAdd s.lost x.lost:Nat):Int))).alloc (.cells #[.int .u64 x.now, .int .u64 x.delivered, .int .u64 x.prior, .int .u64 x.interval, .int .u64 x.rtt, .int .u64 x.acked, .int .u64 x.lost, .int .u64 x.flight, .bool x.limited] 266)).drew) w.heap.size 266 (cellsS x)):=zH (by
  have hh:=At.made (w.setCell ⟨b,4,none⟩ (.int .u64 ((satAdd s.lost x.lost:Nat):Int))) 266 (cellsS x);have e:(w.setCell ⟨b,4,none⟩ (.int .u64 ((satAdd s.lost x.lost:Nat):Int))).heap.size=w.heap.size:=by simp
  rw[e]at hh;exact hh)
 have hlt:=h.lt;have h4:w.cell? ⟨b,4,none⟩=some (.int .u64 s.lost):=h.cell 4;have f4:=h.free 4;have CA:=zH (add_any s.lost x.lost hs.2.1 hx.2.2);have HS:=zH hs;have HX:=zH hx;clear h hs hx;have HU:=zH hu;clear hu;have HN:=zH hn;clear hn;unfold smp;go_enter Tryz.func187,Tryz.ntmps187
 go_wp2;go_step3
 go_wp2;go_step3
 go_wp2;refine wp_loop_rounds 1 ?_;rw[rounds_succ];go_wp2_with fail
 go_region_with (go_at_call 119;(refine(CA.out _).mono ?_;rintro e w' ⟨rfl,rfl⟩))
 all_goals
  generalize(((w.setCell ⟨b,4,none⟩ (.int .u64 ((satAdd s.lost x.lost:Nat):Int))).alloc (.cells #[.int .u64 x.now, .int .u64 x.delivered, .int .u64 x.prior, .int .u64 x.interval, .int .u64 x.rtt, .int .u64 x.acked, .int .u64 x.lost, .int .u64 x.flight, .bool x.limited] 266)).drew)=w1 at*
  have h0:w1.cell? ⟨b,0,none⟩=some (.bool true):=by rw[←HU.out];exact P0.out.1.cell 0
  have h3:w1.cell? ⟨b,3,none⟩=some (.int .i64 47):=by have:=P0.out.1.cell 3;rw[show(47:Int)=(s.n:Int)from by rw[HN.out];rfl];exact this
  have f3:=P0.out.1.free 3;have hb1:=P0.out.1.lt;have e6:w1.cell? ⟨w.heap.size,6,none⟩=some (.int .u64 x.lost):=A0.out.cell 6;go_wp2_with fail
  refine(leave_any b ({ addL s x with n:=48 }) _ (P0.out.s 3 (.int .i64 48)).1).mono ?_;rintro e w2 ⟨rfl,p2⟩;have c3:w2.cell? ⟨b,3,none⟩=some (.int .i64 48):=p2.1.cell 3;have g3:=p2.1.free 3;have P2:=zH ((P0.out.s 3 (.int .i64 48)).then_ p2);clear p2;go_wp2;first | rw[Exit.noGoto_normal] | rw[Exit.noGoto_exit] | skip
  go_end0
  exact⟨rfl,P2.out.s 3 (.int .i64 0)⟩
theorem pupd_lim (b:Nat) (s:PL) (x:SM) (w:World) (h:At w b 247 (pol s)) (hs:s.ok) (hx:x.ok) (hu:s.use=false) (hm:s.samples=true) (hl:x.limited=true) (start:Bool):
  Calls Tryz.prog 187 #[.pointer (some ⟨b,0,none⟩), .bool start,smp x] w fun e w'=>e= .returned (.tuple #[])∧Put w w' b 247 (pol (leaveF (addL s x))):=by
 have P0:Hid (Put w (((w.setCell ⟨b,4,none⟩ (.int .u64 ((satAdd s.lost x.lost:Nat):Int))).alloc (.cells #[.int .u64 x.now, .int .u64 x.delivered, .int .u64 x.prior, .int .u64 x.interval, .int .u64 x.rtt, .int .u64 x.acked, .int .u64 x.lost, .int .u64 x.flight, .bool x.limited] 266)).drew) b 247 (pol (addL s x))):=zH ((((Put.same h).s 4 (.int .u64 ((satAdd s.lost x.lost:Nat):Int))).a _).d);have A0:Hid (At (((w.setCell ⟨b,4,none⟩ (.int .u64 ((satAdd s.lost x.lost:Nat):Int))).alloc (.cells #[.int .u64 x.now, .int .u64 x.delivered, .int .u64 x.prior, .int .u64 x.interval, .int .u64 x.rtt, .int .u64 x.acked, .int .u64 x.lost, .int .u64 x.flight, .bool x.limited] 266)).drew) w.heap.size 266 (cellsS x)):=zH (by
  have hh:=At.made (w.setCell ⟨b,4,none⟩ (.int .u64 ((satAdd s.lost x.lost:Nat):Int))) 266 (cellsS x);have e:(w.setCell ⟨b,4,none⟩ (.int .u64 ((satAdd s.lost x.lost:Nat):Int))).heap.size=w.heap.size:=by simp
  rw[e]at hh;exact hh)
 have hlt:=h.lt;have h4:w.cell? ⟨b,4,none⟩=some (.int .u64 s.lost):=h.cell 4;have f4:=h.free 4;have CA:=zH (add_any s.lost x.lost hs.2.1 hx.2.2);have HS:=zH hs;have HX:=zH hx;clear h hs hx;have HU:=zH hu;clear hu;have HM:=zH hm;clear hm;have HL:=zH hl;clear hl;unfold smp;go_enter Tryz.func187,Tryz.ntmps187
 go_wp2;go_step3
 go_wp2;go_step3
 go_wp2;refine wp_loop_rounds 1 ?_;rw[rounds_succ];go_wp2_with fail
 go_region_with (go_at_call 119;(refine(CA.out _).mono ?_;rintro e w' ⟨rfl,rfl⟩))
 all_goals
  generalize(((w.setCell ⟨b,4,none⟩ (.int .u64 ((satAdd s.lost x.lost:Nat):Int))).alloc (.cells #[.int .u64 x.now, .int .u64 x.delivered, .int .u64 x.prior, .int .u64 x.interval, .int .u64 x.rtt, .int .u64 x.acked, .int .u64 x.lost, .int .u64 x.flight, .bool x.limited] 266)).drew)=w1 at*
  have h0:w1.cell? ⟨b,0,none⟩=some (.bool false):=by rw[←HU.out];exact P0.out.1.cell 0
  have h1:w1.cell? ⟨b,1,none⟩=some (.bool true):=by rw[←HM.out];exact P0.out.1.cell 1
  have h3:w1.cell? ⟨b,3,none⟩=some (.int .i64 s.n):=P0.out.1.cell 3;have f3:=P0.out.1.free 3;have hb1:=P0.out.1.lt;have e6:w1.cell? ⟨w.heap.size,6,none⟩=some (.int .u64 x.lost):=A0.out.cell 6;have e8:w1.cell? ⟨w.heap.size,8,none⟩=some (.bool true):=by rw[←HL.out];exact A0.out.cell 8
  go_wp2_with fail
  refine(leave_any b (addL s x) _ P0.out.1).mono ?_;rintro e w2 ⟨rfl,p2⟩;have P2:=zH (P0.out.then_ p2);clear p2;go_wp2;first | rw[Exit.noGoto_normal] | rw[Exit.noGoto_exit] | skip
  go_end0
  exact⟨rfl,P2.out⟩
end
section
open Go.RowKit Go.Lib
theorem pupd_out_t (b:Nat) (s:PL) (x:SM) (w:World) (h:At w b 247 (pol s)) (hs:s.ok) (hx:x.ok) (hu:s.use=false) (hm:s.samples=true) (hl:x.limited=false) (hn:16<s.n+1∧s.n+1≤48):
  Calls Tryz.prog 187 #[.pointer (some ⟨b,0,none⟩), .bool true,smp x] w fun e w'=>e= .returned (.tuple #[])∧Put w w' b 247 (pol (leaveF ({ addL s x with n:=s.n+1 }))):=by
 have P0:Hid (Put w (((w.setCell ⟨b,4,none⟩ (.int .u64 ((satAdd s.lost x.lost:Nat):Int))).alloc (.cells #[.int .u64 x.now, .int .u64 x.delivered, .int .u64 x.prior, .int .u64 x.interval, .int .u64 x.rtt, .int .u64 x.acked, .int .u64 x.lost, .int .u64 x.flight, .bool x.limited] 266)).drew) b 247 (pol (addL s x))):=zH ((((Put.same h).s 4 (.int .u64 ((satAdd s.lost x.lost:Nat):Int))).a _).d);have A0:Hid (At (((w.setCell ⟨b,4,none⟩ (.int .u64 ((satAdd s.lost x.lost:Nat):Int))).alloc (.cells #[.int .u64 x.now, .int .u64 x.delivered, .int .u64 x.prior, .int .u64 x.interval, .int .u64 x.rtt, .int .u64 x.acked, .int .u64 x.lost, .int .u64 x.flight, .bool x.limited] 266)).drew) w.heap.size 266 (cellsS x)):=zH (by
  have hh:=At.made (w.setCell ⟨b,4,none⟩ (.int .u64 ((satAdd s.lost x.lost:Nat):Int))) 266 (cellsS x);have e:(w.setCell ⟨b,4,none⟩ (.int .u64 ((satAdd s.lost x.lost:Nat):Int))).heap.size=w.heap.size:=by simp
  rw[e]at hh;exact hh)
 have hlt:=h.lt;have h4:w.cell? ⟨b,4,none⟩=some (.int .u64 s.lost):=h.cell 4;have f4:=h.free 4;have CA:=zH (add_any s.lost x.lost hs.2.1 hx.2.2);have HS:=zH hs;have HX:=zH hx;clear h hs hx;have HU:=zH hu;clear hu;have HM:=zH hm;clear hm;have HL:=zH hl;have y1:IntKind.i64.wrap ((s.n:Int)+1)=(s.n:Int)+1:=IntWalk.i64_in _ (by omega);have y2:decide (16<((s.n:Int)+1))=true:=by simp;omega
 clear hl hn;unfold smp;go_enter Tryz.func187,Tryz.ntmps187
 go_wp2;go_step3
 go_wp2;go_step3
 go_wp2;refine wp_loop_rounds 1 ?_;rw[rounds_succ];go_wp2_with fail
 go_region_with (go_at_call 119;(refine(CA.out _).mono ?_;rintro e w' ⟨rfl,rfl⟩))
 all_goals
  generalize(((w.setCell ⟨b,4,none⟩ (.int .u64 ((satAdd s.lost x.lost:Nat):Int))).alloc (.cells #[.int .u64 x.now, .int .u64 x.delivered, .int .u64 x.prior, .int .u64 x.interval, .int .u64 x.rtt, .int .u64 x.acked, .int .u64 x.lost, .int .u64 x.flight, .bool x.limited] 266)).drew)=w1 at*
  have h0:w1.cell? ⟨b,0,none⟩=some (.bool false):=by rw[←HU.out];exact P0.out.1.cell 0
  have h1:w1.cell? ⟨b,1,none⟩=some (.bool true):=by rw[←HM.out];exact P0.out.1.cell 1
  have h3:w1.cell? ⟨b,3,none⟩=some (.int .i64 s.n):=P0.out.1.cell 3;have f3:=P0.out.1.free 3;have hb1:=P0.out.1.lt;have e6:w1.cell? ⟨w.heap.size,6,none⟩=some (.int .u64 x.lost):=A0.out.cell 6;have e8:w1.cell? ⟨w.heap.size,8,none⟩=some (.bool false):=by rw[←HL.out];exact A0.out.cell 8
  go_wp2_with fail
  refine(leave_any b ({ addL s x with n:=s.n+1 }) _ (P0.out.s 3 (.int .i64 ((s.n+1:Nat):Int))).1).mono ?_;rintro e w2 ⟨rfl,p2⟩;have P2:=zH ((P0.out.s 3 (.int .i64 ((s.n+1:Nat):Int))).then_ p2);clear p2;go_wp2;first | rw[Exit.noGoto_normal] | rw[Exit.noGoto_exit] | skip
  go_end0
  exact⟨rfl,P2.out⟩
theorem pupd_low_t (b:Nat) (s:PL) (x:SM) (w:World) (h:At w b 247 (pol s)) (hs:s.ok) (hx:x.ok) (hu:s.use=false) (hm:s.samples=true) (hl:x.limited=false) (hn:s.n+1<4):
  Calls Tryz.prog 187 #[.pointer (some ⟨b,0,none⟩), .bool true,smp x] w fun e w'=>e= .returned (.tuple #[])∧Put w w' b 247 (pol ({ addL s x with n:=s.n+1 })):=by
 have P0:Hid (Put w (((w.setCell ⟨b,4,none⟩ (.int .u64 ((satAdd s.lost x.lost:Nat):Int))).alloc (.cells #[.int .u64 x.now, .int .u64 x.delivered, .int .u64 x.prior, .int .u64 x.interval, .int .u64 x.rtt, .int .u64 x.acked, .int .u64 x.lost, .int .u64 x.flight, .bool x.limited] 266)).drew) b 247 (pol (addL s x))):=zH ((((Put.same h).s 4 (.int .u64 ((satAdd s.lost x.lost:Nat):Int))).a _).d);have A0:Hid (At (((w.setCell ⟨b,4,none⟩ (.int .u64 ((satAdd s.lost x.lost:Nat):Int))).alloc (.cells #[.int .u64 x.now, .int .u64 x.delivered, .int .u64 x.prior, .int .u64 x.interval, .int .u64 x.rtt, .int .u64 x.acked, .int .u64 x.lost, .int .u64 x.flight, .bool x.limited] 266)).drew) w.heap.size 266 (cellsS x)):=zH (by
  have hh:=At.made (w.setCell ⟨b,4,none⟩ (.int .u64 ((satAdd s.lost x.lost:Nat):Int))) 266 (cellsS x);have e:(w.setCell ⟨b,4,none⟩ (.int .u64 ((satAdd s.lost x.lost:Nat):Int))).heap.size=w.heap.size:=by simp
  rw[e]at hh;exact hh)
 have hlt:=h.lt;have h4:w.cell? ⟨b,4,none⟩=some (.int .u64 s.lost):=h.cell 4;have f4:=h.free 4;have CA:=zH (add_any s.lost x.lost hs.2.1 hx.2.2);have HS:=zH hs;have HX:=zH hx;clear h hs hx;have HU:=zH hu;clear hu;have HM:=zH hm;clear hm;have HL:=zH hl;have y1:IntKind.i64.wrap ((s.n:Int)+1)=(s.n:Int)+1:=IntWalk.i64_in _ (by omega);have y2:decide (16<((s.n:Int)+1))=false:=by simp;omega
 have y3:decide (4≤((s.n:Int)+1))=false:=by simp;omega
 clear hl hn;unfold smp;go_enter Tryz.func187,Tryz.ntmps187
 go_wp2;go_step3
 go_wp2;go_step3
 go_wp2;refine wp_loop_rounds 1 ?_;rw[rounds_succ];go_wp2_with fail
 go_region_with (go_at_call 119;(refine(CA.out _).mono ?_;rintro e w' ⟨rfl,rfl⟩))
 all_goals
  generalize(((w.setCell ⟨b,4,none⟩ (.int .u64 ((satAdd s.lost x.lost:Nat):Int))).alloc (.cells #[.int .u64 x.now, .int .u64 x.delivered, .int .u64 x.prior, .int .u64 x.interval, .int .u64 x.rtt, .int .u64 x.acked, .int .u64 x.lost, .int .u64 x.flight, .bool x.limited] 266)).drew)=w1 at*
  have h0:w1.cell? ⟨b,0,none⟩=some (.bool false):=by rw[←HU.out];exact P0.out.1.cell 0
  have h1:w1.cell? ⟨b,1,none⟩=some (.bool true):=by rw[←HM.out];exact P0.out.1.cell 1
  have h3:w1.cell? ⟨b,3,none⟩=some (.int .i64 s.n):=P0.out.1.cell 3;have f3:=P0.out.1.free 3;have hb1:=P0.out.1.lt;have e6:w1.cell? ⟨w.heap.size,6,none⟩=some (.int .u64 x.lost):=A0.out.cell 6;have e8:w1.cell? ⟨w.heap.size,8,none⟩=some (.bool false):=by rw[←HL.out];exact A0.out.cell 8
  go_wp2;first | rw[Exit.noGoto_normal] | rw[Exit.noGoto_exit] | skip
  go_end0
  exact⟨rfl,(P0.out.s 3 (.int .i64 ((s.n+1:Nat):Int)))⟩
theorem pupd_low_f (b:Nat) (s:PL) (x:SM) (w:World) (h:At w b 247 (pol s)) (hs:s.ok) (hx:x.ok) (hu:s.use=false) (hm:s.samples=true) (hl:x.limited=false) (hn:s.n<4):
  Calls Tryz.prog 187 #[.pointer (some ⟨b,0,none⟩), .bool false,smp x] w fun e w'=>e= .returned (.tuple #[])∧Put w w' b 247 (pol (addL s x)):=by
 have P0:Hid (Put w (((w.setCell ⟨b,4,none⟩ (.int .u64 ((satAdd s.lost x.lost:Nat):Int))).alloc (.cells #[.int .u64 x.now, .int .u64 x.delivered, .int .u64 x.prior, .int .u64 x.interval, .int .u64 x.rtt, .int .u64 x.acked, .int .u64 x.lost, .int .u64 x.flight, .bool x.limited] 266)).drew) b 247 (pol (addL s x))):=zH ((((Put.same h).s 4 (.int .u64 ((satAdd s.lost x.lost:Nat):Int))).a _).d);have A0:Hid (At (((w.setCell ⟨b,4,none⟩ (.int .u64 ((satAdd s.lost x.lost:Nat):Int))).alloc (.cells #[.int .u64 x.now, .int .u64 x.delivered, .int .u64 x.prior, .int .u64 x.interval, .int .u64 x.rtt, .int .u64 x.acked, .int .u64 x.lost, .int .u64 x.flight, .bool x.limited] 266)).drew) w.heap.size 266 (cellsS x)):=zH (by
  have hh:=At.made (w.setCell ⟨b,4,none⟩ (.int .u64 ((satAdd s.lost x.lost:Nat):Int))) 266 (cellsS x);have e:(w.setCell ⟨b,4,none⟩ (.int .u64 ((satAdd s.lost x.lost:Nat):Int))).heap.size=w.heap.size:=by simp
  rw[e]at hh;exact hh)
 have hlt:=h.lt;have h4:w.cell? ⟨b,4,none⟩=some (.int .u64 s.lost):=h.cell 4;have f4:=h.free 4;have CA:=zH (add_any s.lost x.lost hs.2.1 hx.2.2);have HS:=zH hs;have HX:=zH hx;clear h hs hx;have HU:=zH hu;clear hu;have HM:=zH hm;clear hm;have HL:=zH hl;have y2:decide (16<(s.n:Int))=false:=by simp;omega
 have y2b:decide (16<s.n)=false:=by simp;omega
 have y3:decide (4≤(s.n:Int))=false:=by simp;omega
 have y3b:decide (4≤s.n)=false:=by simp;omega
 clear hl hn;unfold smp;go_enter Tryz.func187,Tryz.ntmps187
 go_wp2;go_step3
 go_wp2;go_step3
 go_wp2;refine wp_loop_rounds 1 ?_;rw[rounds_succ];go_wp2_with fail
 go_region_with (go_at_call 119;(refine(CA.out _).mono ?_;rintro e w' ⟨rfl,rfl⟩))
 all_goals
  generalize(((w.setCell ⟨b,4,none⟩ (.int .u64 ((satAdd s.lost x.lost:Nat):Int))).alloc (.cells #[.int .u64 x.now, .int .u64 x.delivered, .int .u64 x.prior, .int .u64 x.interval, .int .u64 x.rtt, .int .u64 x.acked, .int .u64 x.lost, .int .u64 x.flight, .bool x.limited] 266)).drew)=w1 at*
  have h0:w1.cell? ⟨b,0,none⟩=some (.bool false):=by rw[←HU.out];exact P0.out.1.cell 0
  have h1:w1.cell? ⟨b,1,none⟩=some (.bool true):=by rw[←HM.out];exact P0.out.1.cell 1
  have h3:w1.cell? ⟨b,3,none⟩=some (.int .i64 s.n):=P0.out.1.cell 3;have f3:=P0.out.1.free 3;have hb1:=P0.out.1.lt;have e6:w1.cell? ⟨w.heap.size,6,none⟩=some (.int .u64 x.lost):=A0.out.cell 6;have e8:w1.cell? ⟨w.heap.size,8,none⟩=some (.bool false):=by rw[←HL.out];exact A0.out.cell 8
  go_wp2;first | rw[Exit.noGoto_normal] | rw[Exit.noGoto_exit] | skip
  go_end0
  exact⟨rfl,P0.out⟩
end
end Go.Proofs.YtojgokiobdpclaaGreat
