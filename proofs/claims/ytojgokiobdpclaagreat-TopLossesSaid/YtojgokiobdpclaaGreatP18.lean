import Derived.Test.YtojgokiobdpclaaGreatP05
namespace Go.Proofs.YtojgokiobdpclaaGreat
set_option linter.unusedVariables false
set_option linter.unusedSimpArgs false
set_option maxRecDepth 8000
set_option maxHeartbeats 8000000
section
open Go.RowKit Go.Lib
theorem acked_mf (b:Nat) (s:SA) (now size:Nat) (x:ST) (V A S R:Nat) (hV:satAdd s.d size=V) (hA:satAdd s.acks size=A) (hS:satSub x.at_ x.fa=S) (hR:satSub now x.at_=R)
  (hs:s.ok) (hn:now<18446744073709551616) (hz:size<18446744073709551616) (hx:x.ok) (w:World) (h:At w b 224 (sam s)) (c1:s.mark<V) (hi:s.is=false):
  Calls Tryz.prog 132 #[.pointer (some ⟨b,0,none⟩), .int .u64 now, .int .u64 size,stv x] w fun e w'=>e= .returned (.tuple #[])∧Put w w' b 224 (sam { s with d:=V,da:=now,mark:=0,acks:=A,is:=true,prior:=x.d,priorAt:=x.da,lim:=x.lim,sending:=S,rtt:=R,fa:=x.at_ }):=by
 have h0:=h.ce 0;have h1:=h.ce 1;have f0:=h.free 0;have f1:=h.free 1;have hlt:=h.lt;have H:=zH h;have C1:=add_any s.d size hs.1 hz;have C2:=add_any s.acks size hs.2.2.2.1 hz;have C3:=sub_any x.at_ x.fa hx.1 hx.2.2;have C4:=sub_any now x.at_ hn hx.1;rw[hV]at C1;rw[hA]at C2;rw[hS]at C3;rw[hR]at C4;have D1:=zH C1;have D2:=zH C2;have D3:=zH C3;have D4:=zH C4;clear h hs hn hz hx hV hA hS hR C1 C2 C3 C4;unfold stv;have y1:decide (s.mark<V)=true:=by simpa using c1
 clear c1;have HI:=zH hi;clear hi;go_enter Tryz.func132,Tryz.ntmps132
 go_wp2_with fail
 refine(D1.out _).mono ?_;rintro e w' ⟨rfl,rfl⟩;go_wp2_with fail
 refine wp_named (fun w1=>Put w w1 b 224 (sam { s with d:=V,da:=now })∧At w1 w.heap.size 190 (cellsT x)) ⟨(((Put.same H.out).s 0 _).s 1 _).a _,(by have hh:=At.made ((w.setCell ⟨b,0,none⟩ (.int .u64 V)).setCell ⟨b,1,none⟩ (.int .u64 now)) 190 (cellsT x);rw[show((w.setCell ⟨b,0,none⟩ (.int .u64 V)).setCell ⟨b,1,none⟩ (.int .u64 now)).heap.size=w.heap.size from by simp]at hh;exact hh)⟩ (fun w1 hw1=> ?_);obtain⟨p1,A1⟩:=hw1;have g0:=p1.1.ce 0;have g3:=p1.1.ce 3;have g5:=p1.1.ce 5;have k3:=p1.1.free 3;have k5:=p1.1.free 5;have P1:=zH p1;have B1:=zH A1;clear p1 A1 h0 h1 f0 f1;go_quiet (fail)
 go_wp2_with fail
 refine(D2.out _).mono ?_;rintro e w' ⟨rfl,rfl⟩;go_wp2_with fail
 refine wp_named (fun w2=>Put w1 w2 b 224 (sam { s with d:=V,da:=now,mark:=0,acks:=A })) (((((Put.same P1.out.1).dn _).s 3 _).s 5 _)) (fun w2 p2=> ?_);have i4:w2.cell? ⟨b,4,none⟩=some (.bool false):=by rw[←HI.out];exact p2.1.cell 4
 have i6:=p2.1.ce 6;have B2:=p2.other B1.out (by omega);have e0:=B2.ce 0;have e1:=B2.ce 1;have e2:=B2.ce 2;have e4:=B2.ce 4;have k4:=p2.1.free 4;have i7:=p2.1.ce 7;have iL:=p2.1.ce 8;have k6:=p2.1.free 6;have k7:=p2.1.free 7;have kL:=p2.1.free 8;have hb2:=p2.1.lt;have P2:=zH p2;have Q2:=zH B2;clear p2 B2 g0 g3 g5 k3 k5;go_quiet (fail)
 go_wp2_with fail
 go_region
 go_wp2_with fail
 refine wp_named (fun w3=>Put w2 w3 b 224 (sam { s with d:=V,da:=now,mark:=0,acks:=A,prior:=x.d,priorAt:=x.da,lim:=x.lim })) ((((((Put.same P2.out.1).dn _).s 6 _).s 7 _).s 8 _)) (fun w3 p3=> ?_);have j2:=p3.1.ce 2;have j4:w3.cell? ⟨b,4,none⟩=some (.bool false):=by rw[←HI.out];exact p3.1.cell 4
 have jS:=p3.1.ce 9;have jR:=p3.1.ce 10;have Q3:=p3.other Q2.out (by omega);have m0:=Q3.ce 0;have m3:=Q3.ce 3;have l2:=p3.1.free 2;have l4:=p3.1.free 4;have lS:=p3.1.free 9;have lR:=p3.1.free 10;have hb3:=p3.1.lt;have P3:=zH p3;clear p3 Q3 i4 i6 i7 iL e0 e1 e2 e4 k4 k6 k7 kL;go_region_with (go_at_call 162;((first | with_reducible refine(D3.out _).mono ?_ | with_reducible refine(D4.out _).mono ?_);rintro e w' ⟨rfl,rfl⟩))
 all_goals
  go_wp2;(first | go_end0 | refine bodyPost_ret (results_none rfl _ _ _) rfl ?_)
  exact⟨rfl,(((((P1.out.then_ P2.out).then_ P3.out).s 9 _).s 10 _).s 2 _).s 4 _ |>.d⟩
theorem acked_mt (b:Nat) (s:SA) (now size:Nat) (x:ST) (V A S R:Nat) (hV:satAdd s.d size=V) (hA:satAdd s.acks size=A) (hS:satSub x.at_ x.fa=S) (hR:satSub now x.at_=R)
  (hs:s.ok) (hn:now<18446744073709551616) (hz:size<18446744073709551616) (hx:x.ok) (w:World) (h:At w b 224 (sam s)) (c1:s.mark<V) (hi:s.is=true) (c2:s.prior≤x.d):
  Calls Tryz.prog 132 #[.pointer (some ⟨b,0,none⟩), .int .u64 now, .int .u64 size,stv x] w fun e w'=>e= .returned (.tuple #[])∧Put w w' b 224 (sam { s with d:=V,da:=now,mark:=0,acks:=A,is:=true,prior:=x.d,priorAt:=x.da,lim:=x.lim,sending:=S,rtt:=R,fa:=x.at_ }):=by
 have h0:=h.ce 0;have h1:=h.ce 1;have f0:=h.free 0;have f1:=h.free 1;have hlt:=h.lt;have H:=zH h;have C1:=add_any s.d size hs.1 hz;have C2:=add_any s.acks size hs.2.2.2.1 hz;have C3:=sub_any x.at_ x.fa hx.1 hx.2.2;have C4:=sub_any now x.at_ hn hx.1;rw[hV]at C1;rw[hA]at C2;rw[hS]at C3;rw[hR]at C4;have D1:=zH C1;have D2:=zH C2;have D3:=zH C3;have D4:=zH C4;clear h hs hn hz hx hV hA hS hR C1 C2 C3 C4;unfold stv;have y1:decide (s.mark<V)=true:=by simpa using c1
 clear c1;have HI:=zH hi;clear hi;have y2:decide (s.prior≤x.d)=true:=by simpa using c2
 clear c2;go_enter Tryz.func132,Tryz.ntmps132
 go_wp2_with fail
 refine(D1.out _).mono ?_;rintro e w' ⟨rfl,rfl⟩;go_wp2_with fail
 refine wp_named (fun w1=>Put w w1 b 224 (sam { s with d:=V,da:=now })∧At w1 w.heap.size 190 (cellsT x)) ⟨(((Put.same H.out).s 0 _).s 1 _).a _,(by have hh:=At.made ((w.setCell ⟨b,0,none⟩ (.int .u64 V)).setCell ⟨b,1,none⟩ (.int .u64 now)) 190 (cellsT x);rw[show((w.setCell ⟨b,0,none⟩ (.int .u64 V)).setCell ⟨b,1,none⟩ (.int .u64 now)).heap.size=w.heap.size from by simp]at hh;exact hh)⟩ (fun w1 hw1=> ?_);obtain⟨p1,A1⟩:=hw1;have g0:=p1.1.ce 0;have g3:=p1.1.ce 3;have g5:=p1.1.ce 5;have k3:=p1.1.free 3;have k5:=p1.1.free 5;have P1:=zH p1;have B1:=zH A1;clear p1 A1 h0 h1 f0 f1;go_quiet (fail)
 go_wp2_with fail
 refine(D2.out _).mono ?_;rintro e w' ⟨rfl,rfl⟩;go_wp2_with fail
 refine wp_named (fun w2=>Put w1 w2 b 224 (sam { s with d:=V,da:=now,mark:=0,acks:=A })) (((((Put.same P1.out.1).dn _).s 3 _).s 5 _)) (fun w2 p2=> ?_);have i4:w2.cell? ⟨b,4,none⟩=some (.bool true):=by rw[←HI.out];exact p2.1.cell 4
 have i6:=p2.1.ce 6;have B2:=p2.other B1.out (by omega);have e0:=B2.ce 0;have e1:=B2.ce 1;have e2:=B2.ce 2;have e4:=B2.ce 4;have k4:=p2.1.free 4;have i7:=p2.1.ce 7;have iL:=p2.1.ce 8;have k6:=p2.1.free 6;have k7:=p2.1.free 7;have kL:=p2.1.free 8;have hb2:=p2.1.lt;have P2:=zH p2;have Q2:=zH B2;clear p2 B2 g0 g3 g5 k3 k5;go_quiet (fail)
 go_wp2_with fail
 go_region
 go_wp2_with fail
 refine wp_named (fun w3=>Put w2 w3 b 224 (sam { s with d:=V,da:=now,mark:=0,acks:=A,prior:=x.d,priorAt:=x.da,lim:=x.lim })) ((((((Put.same P2.out.1).dn _).s 6 _).s 7 _).s 8 _)) (fun w3 p3=> ?_);have j2:=p3.1.ce 2;have j4:w3.cell? ⟨b,4,none⟩=some (.bool true):=by rw[←HI.out];exact p3.1.cell 4
 have jS:=p3.1.ce 9;have jR:=p3.1.ce 10;have Q3:=p3.other Q2.out (by omega);have m0:=Q3.ce 0;have m3:=Q3.ce 3;have l2:=p3.1.free 2;have l4:=p3.1.free 4;have lS:=p3.1.free 9;have lR:=p3.1.free 10;have hb3:=p3.1.lt;have P3:=zH p3;clear p3 Q3 i4 i6 i7 iL e0 e1 e2 e4 k4 k6 k7 kL;go_region_with (go_at_call 162;((first | with_reducible refine(D3.out _).mono ?_ | with_reducible refine(D4.out _).mono ?_);rintro e w' ⟨rfl,rfl⟩))
 all_goals
  go_wp2;(first | go_end0 | refine bodyPost_ret (results_none rfl _ _ _) rfl ?_)
  exact⟨rfl,(((((P1.out.then_ P2.out).then_ P3.out).s 9 _).s 10 _).s 2 _).s 4 _ |>.d⟩
theorem acked_mn (b:Nat) (s:SA) (now size:Nat) (x:ST) (V A S R:Nat) (hV:satAdd s.d size=V) (hA:satAdd s.acks size=A) (hS:satSub x.at_ x.fa=S) (hR:satSub now x.at_=R)
  (hs:s.ok) (hn:now<18446744073709551616) (hz:size<18446744073709551616) (hx:x.ok) (w:World) (h:At w b 224 (sam s)) (c1:s.mark<V) (hi:s.is=true) (c2: ¬ s.prior≤x.d):
  Calls Tryz.prog 132 #[.pointer (some ⟨b,0,none⟩), .int .u64 now, .int .u64 size,stv x] w fun e w'=>e= .returned (.tuple #[])∧Put w w' b 224 (sam { s with d:=V,da:=now,mark:=0,acks:=A,is:=true }):=by
 have h0:=h.ce 0;have h1:=h.ce 1;have f0:=h.free 0;have f1:=h.free 1;have hlt:=h.lt;have H:=zH h;have C1:=add_any s.d size hs.1 hz;have C2:=add_any s.acks size hs.2.2.2.1 hz;have C3:=sub_any x.at_ x.fa hx.1 hx.2.2;have C4:=sub_any now x.at_ hn hx.1;rw[hV]at C1;rw[hA]at C2;rw[hS]at C3;rw[hR]at C4;have D1:=zH C1;have D2:=zH C2;have D3:=zH C3;have D4:=zH C4;clear h hs hn hz hx hV hA hS hR C1 C2 C3 C4;unfold stv;have y1:decide (s.mark<V)=true:=by simpa using c1
 clear c1;have HI:=zH hi;clear hi;have y2:decide (s.prior≤x.d)=false:=by simpa using c2
 clear c2;go_enter Tryz.func132,Tryz.ntmps132
 go_wp2_with fail
 refine(D1.out _).mono ?_;rintro e w' ⟨rfl,rfl⟩;go_wp2_with fail
 refine wp_named (fun w1=>Put w w1 b 224 (sam { s with d:=V,da:=now })∧At w1 w.heap.size 190 (cellsT x)) ⟨(((Put.same H.out).s 0 _).s 1 _).a _,(by have hh:=At.made ((w.setCell ⟨b,0,none⟩ (.int .u64 V)).setCell ⟨b,1,none⟩ (.int .u64 now)) 190 (cellsT x);rw[show((w.setCell ⟨b,0,none⟩ (.int .u64 V)).setCell ⟨b,1,none⟩ (.int .u64 now)).heap.size=w.heap.size from by simp]at hh;exact hh)⟩ (fun w1 hw1=> ?_);obtain⟨p1,A1⟩:=hw1;have g0:=p1.1.ce 0;have g3:=p1.1.ce 3;have g5:=p1.1.ce 5;have k3:=p1.1.free 3;have k5:=p1.1.free 5;have P1:=zH p1;have B1:=zH A1;clear p1 A1 h0 h1 f0 f1;go_quiet (fail)
 go_wp2_with fail
 refine(D2.out _).mono ?_;rintro e w' ⟨rfl,rfl⟩;go_wp2_with fail
 refine wp_named (fun w2=>Put w1 w2 b 224 (sam { s with d:=V,da:=now,mark:=0,acks:=A })) (((((Put.same P1.out.1).dn _).s 3 _).s 5 _)) (fun w2 p2=> ?_);have i4:w2.cell? ⟨b,4,none⟩=some (.bool true):=by rw[←HI.out];exact p2.1.cell 4
 have i6:=p2.1.ce 6;have B2:=p2.other B1.out (by omega);have e0:=B2.ce 0;have e1:=B2.ce 1;have e2:=B2.ce 2;have e4:=B2.ce 4;have k4:=p2.1.free 4;have hb2:=p2.1.lt;have P2:=zH p2;have Q2:=zH B2;clear p2 B2 g0 g3 g5 k3 k5;go_quiet (fail)
 go_wp2;(first | go_end0 | refine bodyPost_ret (results_none rfl _ _ _) rfl ?_)
 exact⟨rfl,((P1.out.then_ P2.out).dn _).s 4 _⟩
end
end Go.Proofs.YtojgokiobdpclaaGreat
