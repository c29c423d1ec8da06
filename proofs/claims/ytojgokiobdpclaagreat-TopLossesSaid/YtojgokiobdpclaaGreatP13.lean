import Derived.Test.YtojgokiobdpclaaGreatP11
import Derived.IntWalk
namespace Go.Proofs.YtojgokiobdpclaaGreat
set_option linter.unusedVariables false
set_option linter.unusedSimpArgs false
set_option maxRecDepth 8000
set_option maxHeartbeats 8000000
section
open Go.RowKit Go.Lib
theorem pupd_end_t (b:Nat) (s:PL) (x:SM) (w:World) (h:At w b 247 (pol s)) (hs:s.ok) (hx:x.ok) (hu:s.use=false) (hm:s.samples=true) (hl:x.limited=false) (hn:4≤s.n+1∧s.n+1≤16) (hz:0<x.lost):
  Calls Tryz.prog 187 #[.pointer (some ⟨b,0,none⟩), .bool true,smp x] w fun e w'=>e= .returned (.tuple #[])∧Put w w' b 247 (pol (endF ({ addL s x with n:=s.n+1 }) x)):=by
 have P0:Hid (Put w (((w.setCell ⟨b,4,none⟩ (.int .u64 ((satAdd s.lost x.lost:Nat):Int))).alloc (.cells #[.int .u64 x.now, .int .u64 x.delivered, .int .u64 x.prior, .int .u64 x.interval, .int .u64 x.rtt, .int .u64 x.acked, .int .u64 x.lost, .int .u64 x.flight, .bool x.limited] 266)).drew) b 247 (pol (addL s x))):=zH ((((Put.same h).s 4 (.int .u64 ((satAdd s.lost x.lost:Nat):Int))).a _).d);have A0:Hid (At (((w.setCell ⟨b,4,none⟩ (.int .u64 ((satAdd s.lost x.lost:Nat):Int))).alloc (.cells #[.int .u64 x.now, .int .u64 x.delivered, .int .u64 x.prior, .int .u64 x.interval, .int .u64 x.rtt, .int .u64 x.acked, .int .u64 x.lost, .int .u64 x.flight, .bool x.limited] 266)).drew) w.heap.size 266 (cellsS x)):=zH (by
  have hh:=At.made (w.setCell ⟨b,4,none⟩ (.int .u64 ((satAdd s.lost x.lost:Nat):Int))) 266 (cellsS x);have e:(w.setCell ⟨b,4,none⟩ (.int .u64 ((satAdd s.lost x.lost:Nat):Int))).heap.size=w.heap.size:=by simp
  rw[e]at hh;exact hh)
 have hlt:=h.lt;have h4:w.cell? ⟨b,4,none⟩=some (.int .u64 s.lost):=h.cell 4;have f4:=h.free 4;have CA:=zH (add_any s.lost x.lost hs.2.1 hx.2.2);have HS:=zH hs;have HX:=zH hx;clear h hs hx;have HU:=zH hu;clear hu;have HM:=zH hm;clear hm;have AD:satAdd s.lost x.lost<18446744073709551616:=satAdd_lt;have OK2:Hid (PL.ok ({ addL s x with n:=s.n+1 })):=zH ⟨HS.out.1,AD,HS.out.2.2⟩;clear AD;have HE:Hid (∀(s:PL) (w:World),At w b 247 (pol s)→s.ok→Calls Tryz.prog 204 #[.pointer (some ⟨b,0,none⟩), .agg #[.int .u64 x.now, .int .u64 x.delivered, .int .u64 x.prior, .int .u64 x.interval, .int .u64 x.rtt, .int .u64 x.acked, .int .u64 x.lost, .int .u64 x.flight, .bool false]] w fun e w'=>e= .returned (.tuple #[])∧Put w w' b 247 (pol (endF s x))):=zH (fun s w h1 h2=>by have:=end_any b s x w h1 h2 HX.out;unfold smp at this;rw[hl]at this;exact this);have HL:=zH hl;have y1:IntKind.i64.wrap ((s.n:Int)+1)=(s.n:Int)+1:=IntWalk.i64_in _ (by omega);have y2:decide (16<((s.n:Int)+1))=false:=by simp;omega
 have y3:decide (4≤((s.n:Int)+1))=true:=by simp;omega
 have y4:decide (0<x.lost)=true:=by simp;omega
 clear hl hn hz;unfold smp;go_enter Tryz.func187,Tryz.ntmps187
 go_wp2;go_step3
 go_wp2;go_step3
 go_wp2;refine wp_loop_rounds 1 ?_;rw[rounds_succ];go_wp2_with fail
 go_region_with (go_at_call 119;(refine(CA.out _).mono ?_;rintro e w' ⟨rfl,rfl⟩))
 all_goals
  generalize(((w.setCell ⟨b,4,none⟩ (.int .u64 ((satAdd s.lost x.lost:Nat):Int))).alloc (.cells #[.int .u64 x.now, .int .u64 x.delivered, .int .u64 x.prior, .int .u64 x.interval, .int .u64 x.rtt, .int .u64 x.acked, .int .u64 x.lost, .int .u64 x.flight, .bool x.limited] 266)).drew)=w1 at*
  have h0:w1.cell? ⟨b,0,none⟩=some (.bool false):=by rw[←HU.out];exact P0.out.1.cell 0
  have h1:w1.cell? ⟨b,1,none⟩=some (.bool true):=by rw[←HM.out];exact P0.out.1.cell 1
  have h3:w1.cell? ⟨b,3,none⟩=some (.int .i64 s.n):=P0.out.1.cell 3;have f3:=P0.out.1.free 3;have hb1:=P0.out.1.lt;have e6:w1.cell? ⟨w.heap.size,6,none⟩=some (.int .u64 x.lost):=A0.out.cell 6;have e0:w1.cell? ⟨w.heap.size,0,none⟩=some (.int .u64 x.now):=A0.out.cell 0;have e1:w1.cell? ⟨w.heap.size,1,none⟩=some (.int .u64 x.delivered):=A0.out.cell 1;have e2:w1.cell? ⟨w.heap.size,2,none⟩=some (.int .u64 x.prior):=A0.out.cell 2;have e3:w1.cell? ⟨w.heap.size,3,none⟩=some (.int .u64 x.interval):=A0.out.cell 3;have e4:w1.cell? ⟨w.heap.size,4,none⟩=some (.int .u64 x.rtt):=A0.out.cell 4;have e5:w1.cell? ⟨w.heap.size,5,none⟩=some (.int .u64 x.acked):=A0.out.cell 5;have e7:w1.cell? ⟨w.heap.size,7,none⟩=some (.int .u64 x.flight):=A0.out.cell 7;have e8:w1.cell? ⟨w.heap.size,8,none⟩=some (.bool false):=by rw[←HL.out];exact A0.out.cell 8
  go_wp2_with fail
  refine(HE.out ({ addL s x with n:=s.n+1 }) _ (P0.out.s 3 (.int .i64 ((s.n+1:Nat):Int))).1 OK2.out).mono ?_;rintro e w2 ⟨rfl,p2⟩;have P2:=zH ((P0.out.s 3 (.int .i64 ((s.n+1:Nat):Int))).then_ p2);clear p2;go_wp2;first | rw[Exit.noGoto_normal] | rw[Exit.noGoto_exit] | skip
  go_end0
  exact⟨rfl,P2.out⟩
theorem pupd_end_f (b:Nat) (s:PL) (x:SM) (w:World) (h:At w b 247 (pol s)) (hs:s.ok) (hx:x.ok) (hu:s.use=false) (hm:s.samples=true) (hl:x.limited=false) (hn:4≤s.n∧s.n≤16) (hz:0<x.lost):
  Calls Tryz.prog 187 #[.pointer (some ⟨b,0,none⟩), .bool false,smp x] w fun e w'=>e= .returned (.tuple #[])∧Put w w' b 247 (pol (endF (addL s x) x)):=by
 have P0:Hid (Put w (((w.setCell ⟨b,4,none⟩ (.int .u64 ((satAdd s.lost x.lost:Nat):Int))).alloc (.cells #[.int .u64 x.now, .int .u64 x.delivered, .int .u64 x.prior, .int .u64 x.interval, .int .u64 x.rtt, .int .u64 x.acked, .int .u64 x.lost, .int .u64 x.flight, .bool x.limited] 266)).drew) b 247 (pol (addL s x))):=zH ((((Put.same h).s 4 (.int .u64 ((satAdd s.lost x.lost:Nat):Int))).a _).d);have A0:Hid (At (((w.setCell ⟨b,4,none⟩ (.int .u64 ((satAdd s.lost x.lost:Nat):Int))).alloc (.cells #[.int .u64 x.now, .int .u64 x.delivered, .int .u64 x.prior, .int .u64 x.interval, .int .u64 x.rtt, .int .u64 x.acked, .int .u64 x.lost, .int .u64 x.flight, .bool x.limited] 266)).drew) w.heap.size 266 (cellsS x)):=zH (by
  have hh:=At.made (w.setCell ⟨b,4,none⟩ (.int .u64 ((satAdd s.lost x.lost:Nat):Int))) 266 (cellsS x);have e:(w.setCell ⟨b,4,none⟩ (.int .u64 ((satAdd s.lost x.lost:Nat):Int))).heap.size=w.heap.size:=by simp
  rw[e]at hh;exact hh)
 have hlt:=h.lt;have h4:w.cell? ⟨b,4,none⟩=some (.int .u64 s.lost):=h.cell 4;have f4:=h.free 4;have CA:=zH (add_any s.lost x.lost hs.2.1 hx.2.2);have HS:=zH hs;have HX:=zH hx;clear h hs hx;have HU:=zH hu;clear hu;have HM:=zH hm;clear hm;have AD:satAdd s.lost x.lost<18446744073709551616:=satAdd_lt;have OK2:Hid (PL.ok (addL s x)):=zH ⟨HS.out.1,AD,HS.out.2.2⟩;clear AD;have HE:Hid (∀(s:PL) (w:World),At w b 247 (pol s)→s.ok→Calls Tryz.prog 204 #[.pointer (some ⟨b,0,none⟩), .agg #[.int .u64 x.now, .int .u64 x.delivered, .int .u64 x.prior, .int .u64 x.interval, .int .u64 x.rtt, .int .u64 x.acked, .int .u64 x.lost, .int .u64 x.flight, .bool false]] w fun e w'=>e= .returned (.tuple #[])∧Put w w' b 247 (pol (endF s x))):=zH (fun s w h1 h2=>by have:=end_any b s x w h1 h2 HX.out;unfold smp at this;rw[hl]at this;exact this);have HL:=zH hl;have y2:decide (16<(s.n:Int))=false:=by simp;omega
 have y2b:decide (16<s.n)=false:=by simp;omega
 have y3:decide (4≤(s.n:Int))=true:=by simp;omega
 have y3b:decide (4≤s.n)=true:=by simp;omega
 have y4:decide (0<x.lost)=true:=by simp;omega
 clear hl hn hz;unfold smp;go_enter Tryz.func187,Tryz.ntmps187
 go_wp2;go_step3
 go_wp2;go_step3
 go_wp2;refine wp_loop_rounds 1 ?_;rw[rounds_succ];go_wp2_with fail
 go_region_with (go_at_call 119;(refine(CA.out _).mono ?_;rintro e w' ⟨rfl,rfl⟩))
 all_goals
  generalize(((w.setCell ⟨b,4,none⟩ (.int .u64 ((satAdd s.lost x.lost:Nat):Int))).alloc (.cells #[.int .u64 x.now, .int .u64 x.delivered, .int .u64 x.prior, .int .u64 x.interval, .int .u64 x.rtt, .int .u64 x.acked, .int .u64 x.lost, .int .u64 x.flight, .bool x.limited] 266)).drew)=w1 at*
  have h0:w1.cell? ⟨b,0,none⟩=some (.bool false):=by rw[←HU.out];exact P0.out.1.cell 0
  have h1:w1.cell? ⟨b,1,none⟩=some (.bool true):=by rw[←HM.out];exact P0.out.1.cell 1
  have h3:w1.cell? ⟨b,3,none⟩=some (.int .i64 s.n):=P0.out.1.cell 3;have f3:=P0.out.1.free 3;have hb1:=P0.out.1.lt;have e6:w1.cell? ⟨w.heap.size,6,none⟩=some (.int .u64 x.lost):=A0.out.cell 6;have e0:w1.cell? ⟨w.heap.size,0,none⟩=some (.int .u64 x.now):=A0.out.cell 0;have e1:w1.cell? ⟨w.heap.size,1,none⟩=some (.int .u64 x.delivered):=A0.out.cell 1;have e2:w1.cell? ⟨w.heap.size,2,none⟩=some (.int .u64 x.prior):=A0.out.cell 2;have e3:w1.cell? ⟨w.heap.size,3,none⟩=some (.int .u64 x.interval):=A0.out.cell 3;have e4:w1.cell? ⟨w.heap.size,4,none⟩=some (.int .u64 x.rtt):=A0.out.cell 4;have e5:w1.cell? ⟨w.heap.size,5,none⟩=some (.int .u64 x.acked):=A0.out.cell 5;have e7:w1.cell? ⟨w.heap.size,7,none⟩=some (.int .u64 x.flight):=A0.out.cell 7;have e8:w1.cell? ⟨w.heap.size,8,none⟩=some (.bool false):=by rw[←HL.out];exact A0.out.cell 8
  go_wp2_with fail
  refine(HE.out (addL s x) _ P0.out.1 OK2.out).mono ?_;rintro e w2 ⟨rfl,p2⟩;have P2:=zH (P0.out.then_ p2);clear p2;go_wp2;first | rw[Exit.noGoto_normal] | rw[Exit.noGoto_exit] | skip
  go_end0
  exact⟨rfl,P2.out⟩
end
section
open Go.RowKit Go.Lib
theorem pupd_few_t (b:Nat) (s:PL) (x:SM) (w:World) (h:At w b 247 (pol s)) (hs:s.ok) (hx:x.ok) (hu:s.use=false) (hm:s.samples=true) (hl:x.limited=false) (hn:4≤s.n+1∧s.n+1≤16) (hz:x.lost=0):
  Calls Tryz.prog 187 #[.pointer (some ⟨b,0,none⟩), .bool true,smp x] w fun e w'=>e= .returned (.tuple #[])∧Put w w' b 247 (pol ({ addL s x with n:=s.n+1 })):=by
 have P0:Hid (Put w (((w.setCell ⟨b,4,none⟩ (.int .u64 ((satAdd s.lost x.lost:Nat):Int))).alloc (.cells #[.int .u64 x.now, .int .u64 x.delivered, .int .u64 x.prior, .int .u64 x.interval, .int .u64 x.rtt, .int .u64 x.acked, .int .u64 x.lost, .int .u64 x.flight, .bool x.limited] 266)).drew) b 247 (pol (addL s x))):=zH ((((Put.same h).s 4 (.int .u64 ((satAdd s.lost x.lost:Nat):Int))).a _).d);have A0:Hid (At (((w.setCell ⟨b,4,none⟩ (.int .u64 ((satAdd s.lost x.lost:Nat):Int))).alloc (.cells #[.int .u64 x.now, .int .u64 x.delivered, .int .u64 x.prior, .int .u64 x.interval, .int .u64 x.rtt, .int .u64 x.acked, .int .u64 x.lost, .int .u64 x.flight, .bool x.limited] 266)).drew) w.heap.size 266 (cellsS x)):=zH (by
  have hh:=At.made (w.setCell ⟨b,4,none⟩ (.int .u64 ((satAdd s.lost x.lost:Nat):Int))) 266 (cellsS x);have e:(w.setCell ⟨b,4,none⟩ (.int .u64 ((satAdd s.lost x.lost:Nat):Int))).heap.size=w.heap.size:=by simp
  rw[e]at hh;exact hh)
 have hlt:=h.lt;have h4:w.cell? ⟨b,4,none⟩=some (.int .u64 s.lost):=h.cell 4;have f4:=h.free 4;have CA:=zH (add_any s.lost x.lost hs.2.1 hx.2.2);have HS:=zH hs;have HX:=zH hx;clear h hs hx;have HU:=zH hu;clear hu;have HM:=zH hm;clear hm;have HL:=zH hl;have y1:IntKind.i64.wrap ((s.n:Int)+1)=(s.n:Int)+1:=IntWalk.i64_in _ (by omega);have y2:decide (16<((s.n:Int)+1))=false:=by simp;omega
 have y3:decide (4≤((s.n:Int)+1))=true:=by simp;omega
 have y4:decide (0<x.lost)=false:=by simp;omega
 clear hl hn hz;unfold smp;go_enter Tryz.func187,Tryz.ntmps187
 go_wp2;go_step3
 go_wp2;go_step3
 go_wp2;refine wp_loop_rounds 1 ?_;rw[rounds_succ];go_wp2_with fail
 go_region_with (go_at_call 119;(refine(CA.out _).mono ?_;rintro e w' ⟨rfl,rfl⟩))
 all_goals
  generalize(((w.setCell ⟨b,4,none⟩ (.int .u64 ((satAdd s.lost x.lost:Nat):Int))).alloc (.cells #[.int .u64 x.now, .int .u64 x.delivered, .int .u64 x.prior, .int .u64 x.interval, .int .u64 x.rtt, .int .u64 x.acked, .int .u64 x.lost, .int .u64 x.flight, .bool x.limited] 266)).drew)=w1 at*
  have h0:w1.cell? ⟨b,0,none⟩=some (.bool false):=by rw[←HU.out];exact P0.out.1.cell 0
  have h1:w1.cell? ⟨b,1,none⟩=some (.bool true):=by rw[←HM.out];exact P0.out.1.cell 1
  have h3:w1.cell? ⟨b,3,none⟩=some (.int .i64 s.n):=P0.out.1.cell 3;have f3:=P0.out.1.free 3;have hb1:=P0.out.1.lt;have e6:w1.cell? ⟨w.heap.size,6,none⟩=some (.int .u64 x.lost):=A0.out.cell 6;have e8:w1.cell? ⟨w.heap.size,8,none⟩=some (.bool false):=by rw[←HL.out];exact A0.out.cell 8
  go_wp2;first | rw[Exit.noGoto_normal] | rw[Exit.noGoto_exit] | skip
  go_end0
  exact⟨rfl,(P0.out.s 3 (.int .i64 ((s.n+1:Nat):Int)))⟩
theorem pupd_few_f (b:Nat) (s:PL) (x:SM) (w:World) (h:At w b 247 (pol s)) (hs:s.ok) (hx:x.ok) (hu:s.use=false) (hm:s.samples=true) (hl:x.limited=false) (hn:4≤s.n∧s.n≤16) (hz:x.lost=0):
  Calls Tryz.prog 187 #[.pointer (some ⟨b,0,none⟩), .bool false,smp x] w fun e w'=>e= .returned (.tuple #[])∧Put w w' b 247 (pol (addL s x)):=by
 have P0:Hid (Put w (((w.setCell ⟨b,4,none⟩ (.int .u64 ((satAdd s.lost x.lost:Nat):Int))).alloc (.cells #[.int .u64 x.now, .int .u64 x.delivered, .int .u64 x.prior, .int .u64 x.interval, .int .u64 x.rtt, .int .u64 x.acked, .int .u64 x.lost, .int .u64 x.flight, .bool x.limited] 266)).drew) b 247 (pol (addL s x))):=zH ((((Put.same h).s 4 (.int .u64 ((satAdd s.lost x.lost:Nat):Int))).a _).d);have A0:Hid (At (((w.setCell ⟨b,4,none⟩ (.int .u64 ((satAdd s.lost x.lost:Nat):Int))).alloc (.cells #[.int .u64 x.now, .int .u64 x.delivered, .int .u64 x.prior, .int .u64 x.interval, .int .u64 x.rtt, .int .u64 x.acked, .int .u64 x.lost, .int .u64 x.flight, .bool x.limited] 266)).drew) w.heap.size 266 (cellsS x)):=zH (by
  have hh:=At.made (w.setCell ⟨b,4,none⟩ (.int .u64 ((satAdd s.lost x.lost:Nat):Int))) 266 (cellsS x);have e:(w.setCell ⟨b,4,none⟩ (.int .u64 ((satAdd s.lost x.lost:Nat):Int))).heap.size=w.heap.size:=by simp
  rw[e]at hh;exact hh)
 have hlt:=h.lt;have h4:w.cell? ⟨b,4,none⟩=some (.int .u64 s.lost):=h.cell 4;have f4:=h.free 4;have CA:=zH (add_any s.lost x.lost hs.2.1 hx.2.2);have HS:=zH hs;have HX:=zH hx;clear h hs hx;have HU:=zH hu;clear hu;have HM:=zH hm;clear hm;have HL:=zH hl;have y2:decide (16<(s.n:Int))=false:=by simp;omega
 have y2b:decide (16<s.n)=false:=by simp;omega
 have y3:decide (4≤(s.n:Int))=true:=by simp;omega
 have y3b:decide (4≤s.n)=true:=by simp;omega
 have y4:decide (0<x.lost)=false:=by simp;omega
 clear hl hn hz;unfold smp;go_enter Tryz.func187,Tryz.ntmps187
 go_wp2;go_step3
 go_wp2;go_step3
 go_wp2;refine wp_loop_rounds 1 ?_;rw[rounds_succ];go_wp2_with fail
 go_region_with (go_at_call 119;(refine(CA.out _).mono ?_;rintro e w' ⟨rfl,rfl⟩))
 all_goals
  generalize(((w.setCell ⟨b,4,none⟩ (.int .u64 ((satAdd s.lost x.lost:Nat):Int))).alloc (.cells #[.int .u64 x.now, .int .u64 x.delivered, .int .u64 x.prior, .int .u64 x.interval, .int .u64 x.rtt, .int .u64 x.acked, .int .u64 x.lost, .int .u64 x.flight, .bool x.limited] 266)).drew)=w1 at*
  have h0:w1.cell? ⟨b,0,none⟩=some (.bool false):=by rw[←HU.out];exact P0.out.1.cell 0
  have h1:w1.cell? ⟨b,1,none⟩=some (.bool true):=by rw[←HM.out];exact P0.out.1.cell 1
  have h3:w1.cell? ⟨b,3,none⟩=some (.int .i64 s.n):=P0.out.1.cell 3;have f3:=P0.out.1.free 3;have hb1:=P0.out.1.lt;have e6:w1.cell? ⟨w.heap.size,6,none⟩=some (.int .u64 x.lost):=A0.out.cell 6;have e8:w1.cell? ⟨w.heap.size,8,none⟩=some (.bool false):=by rw[←HL.out];exact A0.out.cell 8
  go_wp2;first | rw[Exit.noGoto_normal] | rw[Exit.noGoto_exit] | skip
  go_end0
  exact⟨rfl,P0.out⟩
end
end Go.Proofs.YtojgokiobdpclaaGreat
