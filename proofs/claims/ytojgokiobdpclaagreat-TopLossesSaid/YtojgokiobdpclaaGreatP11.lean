import Derived.Test.YtojgokiobdpclaaGreatP05
import Derived.Laws.Bits64b
import Derived.Deep.RegionWith
namespace Go.Proofs.YtojgokiobdpclaaGreat
set_option linter.unusedVariables false
set_option linter.unusedSimpArgs false
set_option maxRecDepth 8000
set_option maxHeartbeats 8000000
section
open Go.RowKit Go.Lib
def MeasPost (b:Nat) (s:PL) (x:SM) (w:World) (e:Ending) (w':World):Prop:=
 e= .returned (.tuple #[.int .u64 ((if isF s x then bwF s x else 0:Nat):Int), .bool (isF s x)])∧Put w w' b 247 (pol s)
theorem measured_any (b:Nat) (s:PL) (x:SM) (w:World) (h:At w b 247 (pol s)) (hs:s.ok) (hx:x.ok):
  Calls Tryz.prog 215 #[.pointer (some ⟨b,0,none⟩),smp x] w (MeasPost b s x w):=by
 have h4:w.cell? ⟨b,4,none⟩=some (.int .u64 s.lost):=h.cell 4;have h5:w.cell? ⟨b,5,none⟩=some (.int .u64 s.t0):=h.cell 5;have h6:w.cell? ⟨b,6,none⟩=some (.int .u64 s.d0):=h.cell 6;have h7:w.cell? ⟨b,7,none⟩=some (.int .u64 s.l0):=h.cell 7;have hlt:=h.lt;have H:=zH h;clear h;obtain⟨k1,k2,k3,k4,k5⟩:=hs;obtain⟨k6,k7,k8⟩:=hx;have C1:=zH (sub_any x.delivered s.d0 k7 k4);have C2:=zH (sub_any s.lost s.l0 k2 k5);have C3:=zH (sub_any x.now s.t0 k6 k3);have md:dF s x<18446744073709551616:=satSub_lt k7;have mt:tF s x<18446744073709551616:=satSub_lt k6;have C4:Hid (∀ w:World,Calls Tryz.prog 156 #[.int .u64 (dF s x:Nat), .int .u64 50, .int .u64 256] w fun e w'=>e= .returned (.int .u64 (mulDiv (dF s x) 50 256:Nat))∧w=w'):=zH (muldiv_any (dF s x) 50 256 md (by omega) (by omega));have C5:Hid (∀ w:World,Calls Tryz.prog 156 #[.int .u64 (dF s x:Nat), .int .u64 1000000000, .int .u64 (tF s x:Nat)] w fun e w'=>e= .returned (.int .u64 (mulDiv (dF s x) 1000000000 (tF s x):Nat))∧w=w'):=zH (muldiv_any (dF s x) 1000000000 (tF s x) md (by omega) mt);have M:Hid (mulDiv (dF s x) 50 256=mulDiv (dF s x) 50 256):=zH rfl;have hp:MeasPost b s x w=fun e w'=>MeasPost b s x w e w':=rfl
 unfold MeasPost isF bwF;change Hid (∀ w,Calls Tryz.prog _ _ w fun e w'=>e= .returned (.int .u64 (dF s x:Nat))∧_)at C1
 change Hid (∀ w,Calls Tryz.prog _ _ w fun e w'=>e= .returned (.int .u64 (lF s:Nat))∧_)at C2
 change Hid (∀ w,Calls Tryz.prog _ _ w fun e w'=>e= .returned (.int .u64 (tF s x:Nat))∧_)at C3
 clear hp md mt M;generalize dF s x=D at*
 generalize tF s x=T at*
 generalize lF s=L at*
 generalize mulDiv D 50 256=Q at*
 generalize mulDiv D 1000000000 T=R at*
 unfold smp;by_cases hD:D=0
 ·have y1:((D:Int)==0)=true:=by rw[beq_iff_eq];omega
  have y3:decide (D≠0)=false:=by simpa using hD
  rw[y3];clear y3 hD;go_enter Tryz.func215,Tryz.ntmps215
  go_wp2_with fail
  go_quiet ((go_at_call 162;first | with_reducible exact still (C1.out _) | with_reducible exact still (C2.out _) | with_reducible exact still (C3.out _)))
  go_wp2;all_goals go_ret2
  all_goals exact⟨by simp,((Put.same H.out).a _).dn _⟩
 have y1:((D:Int)==0)=false:=by rw[beq_eq_false_iff_ne];omega
 by_cases hT:T=0
 ·have y2:((T:Int)==0)=true:=by rw[beq_iff_eq];omega
  have y3:decide (T≠0)=false:=by simpa using hT
  rw[y3];clear y3 hT;go_enter Tryz.func215,Tryz.ntmps215
  go_wp2_with fail
  go_quiet ((go_at_call 162;first | with_reducible exact still (C1.out _) | with_reducible exact still (C2.out _) | with_reducible exact still (C3.out _)))
  go_wp2;all_goals go_ret2
  all_goals exact⟨by simp,((Put.same H.out).a _).dn _⟩
 have y2:((T:Int)==0)=false:=by rw[beq_eq_false_iff_ne];omega
 have y3:decide (D≠0)=true:=by simpa using hD
 have y4:decide (T≠0)=true:=by simpa using hT
 rw[y3,y4];clear y3 y4 hD hT;by_cases hL:L<Q
 ·have y5:decide (L<Q)=true:=by simpa using hL
  have y6:decide (Q≤L)=false:=by simp;omega
  rw[y6];clear y6 hL;go_enter Tryz.func215,Tryz.ntmps215
  go_wp2_with fail
  go_quiet ((go_at_call 162;first | with_reducible exact still (C1.out _) | with_reducible exact still (C2.out _) | with_reducible exact still (C3.out _)))
  go_wp2_with fail
  refine(C4.out _).mono ?_;rintro e w' ⟨rfl,rfl⟩;go_wp2;all_goals go_ret2
  all_goals exact⟨by simp,((Put.same H.out).a _).dn _⟩
 ·have y5:decide (L<Q)=false:=by simpa using hL
  have y6:decide (Q≤L)=true:=by simp;omega
  rw[y6];clear y6 hL;go_enter Tryz.func215,Tryz.ntmps215
  go_wp2_with fail
  go_quiet ((go_at_call 162;first | with_reducible exact still (C1.out _) | with_reducible exact still (C2.out _) | with_reducible exact still (C3.out _)))
  go_wp2_with fail
  refine(C4.out _).mono ?_;rintro e w' ⟨rfl,rfl⟩;go_wp2_with fail
  refine(C5.out _).mono ?_;rintro e w' ⟨rfl,rfl⟩;go_wp2;all_goals go_ret2
  all_goals exact⟨by simp,((Put.same H.out).a _).dn _⟩
theorem measured_yes (b:Nat) (s:PL) (x:SM) (w:World) (h:At w b 247 (pol s)) (hs:s.ok) (hx:x.ok) (hi:isF s x=true):
  Calls Tryz.prog 215 #[.pointer (some ⟨b,0,none⟩),smp x] w fun e w'=>e= .returned (.tuple #[.int .u64 (bwF s x:Nat), .bool true])∧Put w w' b 247 (pol s):=
 (measured_any b s x w h hs hx).mono fun e w' ⟨h1,h2⟩=>⟨by rw[h1,hi,if_pos rfl],h2⟩
theorem measured_no (b:Nat) (s:PL) (x:SM) (w:World) (h:At w b 247 (pol s)) (hs:s.ok) (hx:x.ok) (hi:isF s x=false):
  Calls Tryz.prog 215 #[.pointer (some ⟨b,0,none⟩),smp x] w fun e w'=>e= .returned (.tuple #[.int .u64 0, .bool false])∧Put w w' b 247 (pol s):=
 (measured_any b s x w h hs hx).mono fun e w' ⟨h1,h2⟩=>⟨by rw[h1,hi,if_neg (by simp)];rfl,h2⟩
end
section
open Go.RowKit Go.Lib
def nearF (a b:Nat):Bool:=decide (max a b-min a b≤a / 8)
def endF (s:PL) (x:SM):PL:=
 if isF s x then(if decide (0<s.bw)&&nearF s.bw (bwF s x)then { s with bw:=(s.bw+bwF s x) / 2,use:=true,n:=0 }else beginF { s with bw:=bwF s x } x)else s
theorem and_one (a b:Nat) (ha:a<18446744073709551616) (hb:b<18446744073709551616):bits .and .u64 (bits .and .u64 (a:Int) (b:Int)) 1=(((a%2+b%2) / 2:Nat):Int):=by
 rw[bits_and_u64_nat _ _ ha hb];have h1:a&&& b≤a:=Nat.and_le_left;have:=bits_and_u64_nat (a&&& b) 1 (by omega) (by omega);simp only[Int.natCast_one]at this;rw[this,Nat.and_one_is_mod,Nat.and_mod_two_pow (n:=1)];have h3:a%2=0∨a%2=1:=by omega
 have h4:b%2=0∨b%2=1:=by omega
 simp only[Nat.pow_one];rcases h3 with h3 | h3<;>rcases h4 with h4 | h4<;>rw[h3,h4]<;>rfl
theorem bwF_lt (s:PL) (x:SM):bwF s x<18446744073709551616:=mulDiv_lt _ _ _
theorem end_any (b:Nat) (s:PL) (x:SM) (w:World) (h:At w b 247 (pol s)) (hs:s.ok) (hx:x.ok):
  Calls Tryz.prog 204 #[.pointer (some ⟨b,0,none⟩),smp x] w fun e w'=>e= .returned (.tuple #[])∧Put w w' b 247 (pol (endF s x)):=by
 have HS:=zH hs;have HX:=zH hx;have H:Hid (At (w.alloc (.cells #[.int .u64 x.now, .int .u64 x.delivered, .int .u64 x.prior, .int .u64 x.interval, .int .u64 x.rtt, .int .u64 x.acked, .int .u64 x.lost, .int .u64 x.flight, .bool x.limited] 266)) b 247 (pol s)):=zH (h.kept (World.grownBy_alloc _ _ none) (by simp));have hlt:=h.lt;have HG:=zH (((Put.same h).a (.cells #[.int .u64 x.now, .int .u64 x.delivered, .int .u64 x.prior, .int .u64 x.interval, .int .u64 x.rtt, .int .u64 x.acked, .int .u64 x.lost, .int .u64 x.flight, .bool x.limited] 266)));clear h hs hx;unfold endF;rcases Bool.eq_false_or_eq_true (isF s x)with hi | hi
 ·rw[if_pos hi]
  have CM:=zH (fun w h=>measured_yes b s x w h HS.out HX.out hi);have hB:=bwF_lt s x;generalize bwF s x=B at*
  clear hi;obtain⟨P,hP⟩: ∃ P,max s.bw B-min s.bw B=P:=⟨_,rfl⟩;obtain⟨E,hE⟩: ∃ E,s.bw / 8=E:=⟨_,rfl⟩;have CA:=apart_any s.bw B HS.out.1 hB;rw[hP]at CA;have CA:=zH CA;have q1:(s.bw:Int) / 8=E:=by omega
  have q2:(s.bw:Int).tdiv 8=E:=by rw[Int.tdiv_eq_ediv_of_nonneg (by omega)];omega
  have q3:IntKind.u64.wrap (E:Int)=E:=by rw[IntKind.wrap_u64];have:=HS.out.1;omega
  have hN:nearF s.bw B=decide (P≤E):=by unfold nearF;rw[hP,hE]
  rw[hN];have HB:=zH hB;clear hN hP hE hB;change Hid (∀(w:World) (h:At w b 247 (pol s)),Calls Tryz.prog 215 #[.pointer (some ⟨b,0,none⟩), .agg #[.int .u64 x.now, .int .u64 x.delivered, .int .u64 x.prior, .int .u64 x.interval, .int .u64 x.rtt, .int .u64 x.acked, .int .u64 x.lost, .int .u64 x.flight, .bool x.limited]] w _)at CM
  by_cases hn:0<s.bw
  ·have y1:decide (0<s.bw)=true:=by simpa using hn
   by_cases hm:P≤E
   ·have y2:decide (P≤E)=true:=by simpa using hm
    rw[y1,y2,if_pos (by rfl)];clear hn hm;obtain⟨D1,i1⟩: ∃ D,s.bw / 2=D:=⟨_,rfl⟩;obtain⟨D2,i2⟩: ∃ D,B / 2=D:=⟨_,rfl⟩;obtain⟨G,i3⟩: ∃ G,(s.bw%2+B%2) / 2=G:=⟨_,rfl⟩;obtain⟨M,i4⟩: ∃ M,(s.bw+B) / 2=M:=⟨_,rfl⟩;have hb1:=HS.out.1;have hb2:=HB.out;have g3:=and_one s.bw B hb1 hb2;rw[i3]at g3;rw[i4];have j1:(s.bw:Int) / 2=D1:=by omega
    have j2:(B:Int) / 2=D2:=by omega
    have k1:(s.bw:Int).tdiv 2=D1:=by rw[Int.tdiv_eq_ediv_of_nonneg (by omega)];omega
    have k2:(B:Int).tdiv 2=D2:=by rw[Int.tdiv_eq_ediv_of_nonneg (by omega)];omega
    have r1:IntKind.u64.wrap (D1:Int)=D1:=by rw[IntKind.wrap_u64];omega
    have r2:IntKind.u64.wrap (D2:Int)=D2:=by rw[IntKind.wrap_u64];omega
    have r3:IntKind.u64.wrap ((D1:Int)+D2)=(D1:Int)+D2:=by rw[IntKind.wrap_u64];omega
    have r4:IntKind.u64.wrap ((D1:Int)+D2+G)=M:=by rw[IntKind.wrap_u64];omega
    have HF:=zH (And.intro g3 (And.intro j1 (And.intro j2 (And.intro k1 (And.intro k2 (And.intro r1 (And.intro r2 (And.intro r3 r4))))))));clear g3 j1 j2 k1 k2 r1 r2 r3 r4 i1 i2 i3 i4 hb1 hb2;unfold smp;go_enter Tryz.func204,Tryz.ntmps204
    go_wp2_with fail
    refine(CM.out _ H.out).mono ?_;rintro e w1 ⟨rfl,p1⟩;have c0:w1.cell? ⟨b,0,none⟩=some (.bool s.use):=p1.1.cell 0;have c2:w1.cell? ⟨b,2,none⟩=some (.int .u64 s.bw):=p1.1.cell 2;have c3:w1.cell? ⟨b,3,none⟩=some (.int .i64 s.n):=p1.1.cell 3;have f0:=p1.1.free 0;have f2:=p1.1.free 2;have f3:=p1.1.free 3;have P1:=zH (HG.out.then_ p1);clear p1;go_wp2;go_quiet ((go_at_call 216;exact still (CA.out _)))
    go_wp2;obtain⟨g3,j1,j2,k1,k2,r1,r2,r3,r4⟩:=HF.out;clear q1 q2 q3;go_region
    go_wp2;go_end0
    exact⟨rfl,(((P1.out.dn _).s 2 _).s 0 _).s 3 _⟩
   ·have y2:decide (P≤E)=false:=by simpa using hm
    rw[y1,y2,if_neg (by simp)];clear hn hm;unfold smp;go_enter Tryz.func204,Tryz.ntmps204
    go_wp2_with fail
    refine(CM.out _ H.out).mono ?_;rintro e w1 ⟨rfl,p1⟩;have c2:w1.cell? ⟨b,2,none⟩=some (.int .u64 s.bw):=p1.1.cell 2;have f2:=p1.1.free 2;have A1:At w1 w.heap.size 266 #[.int .u64 x.now, .int .u64 x.delivered, .int .u64 x.prior, .int .u64 x.interval, .int .u64 x.rtt, .int .u64 x.acked, .int .u64 x.lost, .int .u64 x.flight, .bool x.limited]:=p1.other (At.made w _ _) (by omega);have e0:w1.cell? ⟨w.heap.size,0,none⟩=some (.int .u64 x.now):=A1.cell 0;have e1:w1.cell? ⟨w.heap.size,1,none⟩=some (.int .u64 x.delivered):=A1.cell 1;have e2:w1.cell? ⟨w.heap.size,2,none⟩=some (.int .u64 x.prior):=A1.cell 2;have e3:w1.cell? ⟨w.heap.size,3,none⟩=some (.int .u64 x.interval):=A1.cell 3;have e4:w1.cell? ⟨w.heap.size,4,none⟩=some (.int .u64 x.rtt):=A1.cell 4;have e5:w1.cell? ⟨w.heap.size,5,none⟩=some (.int .u64 x.acked):=A1.cell 5;have e6:w1.cell? ⟨w.heap.size,6,none⟩=some (.int .u64 x.lost):=A1.cell 6;have e7:w1.cell? ⟨w.heap.size,7,none⟩=some (.int .u64 x.flight):=A1.cell 7;have e8:w1.cell? ⟨w.heap.size,8,none⟩=some (.bool x.limited):=A1.cell 8;have hne:=hlt;clear A1;have P1:=zH (HG.out.then_ p1);clear p1;go_wp2;go_quiet ((go_at_call 216;exact still (CA.out _)))
    go_wp2_with fail
    refine(begin_any b { s with bw:=B } x _ ((P1.out.dn _).s 2 _).1).mono ?_;rintro e w2 ⟨rfl,p2⟩;have P2:=zH (((P1.out.dn _).s 2 _).then_ p2);clear p2;go_wp2;go_end0
    exact⟨rfl,P2.out⟩
  ·have y1:decide (0<s.bw)=false:=by simpa using hn
   rw[y1,if_neg (by simp)];clear hn;unfold smp;go_enter Tryz.func204,Tryz.ntmps204
   go_wp2_with fail
   refine(CM.out _ H.out).mono ?_;rintro e w1 ⟨rfl,p1⟩;have c2:w1.cell? ⟨b,2,none⟩=some (.int .u64 s.bw):=p1.1.cell 2;have f2:=p1.1.free 2;have A1:At w1 w.heap.size 266 #[.int .u64 x.now, .int .u64 x.delivered, .int .u64 x.prior, .int .u64 x.interval, .int .u64 x.rtt, .int .u64 x.acked, .int .u64 x.lost, .int .u64 x.flight, .bool x.limited]:=p1.other (At.made w _ _) (by omega);have e0:w1.cell? ⟨w.heap.size,0,none⟩=some (.int .u64 x.now):=A1.cell 0;have e1:w1.cell? ⟨w.heap.size,1,none⟩=some (.int .u64 x.delivered):=A1.cell 1;have e2:w1.cell? ⟨w.heap.size,2,none⟩=some (.int .u64 x.prior):=A1.cell 2;have e3:w1.cell? ⟨w.heap.size,3,none⟩=some (.int .u64 x.interval):=A1.cell 3;have e4:w1.cell? ⟨w.heap.size,4,none⟩=some (.int .u64 x.rtt):=A1.cell 4;have e5:w1.cell? ⟨w.heap.size,5,none⟩=some (.int .u64 x.acked):=A1.cell 5;have e6:w1.cell? ⟨w.heap.size,6,none⟩=some (.int .u64 x.lost):=A1.cell 6;have e7:w1.cell? ⟨w.heap.size,7,none⟩=some (.int .u64 x.flight):=A1.cell 7;have e8:w1.cell? ⟨w.heap.size,8,none⟩=some (.bool x.limited):=A1.cell 8;have hne:=hlt;clear A1;have P1:=zH (HG.out.then_ p1);clear p1;go_wp2;go_quiet (fail)
   go_wp2_with fail
   refine(begin_any b { s with bw:=B } x _ ((P1.out.dn _).s 2 _).1).mono ?_;rintro e w2 ⟨rfl,p2⟩;have P2:=zH (((P1.out.dn _).s 2 _).then_ p2);clear p2;go_wp2;go_end0
   exact⟨rfl,P2.out⟩
 ·rw[if_neg (by simp[hi])]
  have CM:=zH (fun w h=>measured_no b s x w h HS.out HX.out hi);clear hi;change Hid (∀(w:World) (h:At w b 247 (pol s)),Calls Tryz.prog 215 #[.pointer (some ⟨b,0,none⟩), .agg #[.int .u64 x.now, .int .u64 x.delivered, .int .u64 x.prior, .int .u64 x.interval, .int .u64 x.rtt, .int .u64 x.acked, .int .u64 x.lost, .int .u64 x.flight, .bool x.limited]] w _)at CM
  unfold smp;go_enter Tryz.func204,Tryz.ntmps204
  go_wp2_with fail
  refine(CM.out _ H.out).mono ?_;rintro e w1 ⟨rfl,p1⟩;have P1:=zH (HG.out.then_ p1);clear p1;go_wp2;go_end0
  exact⟨rfl,P1.out⟩
end
section
open Go.RowKit Go.Lib
def addL (s:PL) (x:SM):PL:={ s with lost:=satAdd s.lost x.lost }
def incF (s:PL) (start:Bool):PL:=if start then { s with n:=s.n+1 }else s
def polF (s:PL) (start:Bool) (x:SM):PL:=
 if s.use then
  (if start then(if s.n=47 then { leaveF (addL s x)with n:=0 }else { addL s x with n:=s.n+1 })else addL s x)
 else if s.samples then
  (if x.limited then leaveF (addL s x)
  else if 16<(incF s start).n then leaveF (incF (addL s x) start)
  else if 4≤(incF s start).n∧0<x.lost then endF (incF (addL s x) start) x
  else incF (addL s x) start)
 else(if 0<x.lost then beginF (addL s x) x else addL s x)
def cellsS (x:SM):Array Value:= #[.int .u64 x.now, .int .u64 x.delivered, .int .u64 x.prior, .int .u64 x.interval, .int .u64 x.rtt, .int .u64 x.acked, .int .u64 x.lost, .int .u64 x.flight, .bool x.limited]
theorem pupd_fresh (b:Nat) (s:PL) (start:Bool) (x:SM) (w:World) (h:At w b 247 (pol s)) (hs:s.ok) (hx:x.ok) (hu:s.use=false) (hm:s.samples=false):
  Calls Tryz.prog 187 #[.pointer (some ⟨b,0,none⟩), .bool start,smp x] w fun e w'=>e= .returned (.tuple #[])∧Put w w' b 247 (pol (polF s start x)):=by
 have P0:=zH ((((Put.same h).s 4 (.int .u64 ((satAdd s.lost x.lost:Nat):Int))).a (.cells (cellsS x) 266)).d);have hlt:=h.lt;have h0:w.cell? ⟨b,0,none⟩=some (.bool false):=by rw[←hu];exact h.cell 0
 have h1:w.cell? ⟨b,1,none⟩=some (.bool false):=by rw[←hm];exact h.cell 1
 have h4:w.cell? ⟨b,4,none⟩=some (.int .u64 s.lost):=h.cell 4;have f4:=h.free 4;have CA:=zH (add_any s.lost x.lost hs.2.1 hx.2.2);clear h hs hx;unfold polF;rw[if_neg (by simp[hu]),if_neg (by simp[hm])];clear hu hm;by_cases hl:0<x.lost
 ·rw[if_pos hl]
  have y1:decide (0<x.lost)=true:=by simpa using hl
  clear hl;unfold smp;go_enter Tryz.func187,Tryz.ntmps187
  go_wp2;go_step3
  go_wp2;go_step3
  go_wp2;refine wp_loop_rounds 1 ?_;rw[rounds_succ];go_wp2_with fail
  go_region_with (go_at_call 119;(refine(CA.out _).mono ?_;rintro e w' ⟨rfl,rfl⟩))
  all_goals
   go_wp2_with fail
   refine(begin_any b (addL s x) x _ P0.out.1).mono ?_;rintro e w2 ⟨rfl,p2⟩;have P2:=zH (P0.out.then_ p2);clear p2;go_wp2;first | rw[Exit.noGoto_normal] | rw[Exit.noGoto_exit] | skip
   go_end0
   exact⟨rfl,P2.out⟩
 ·rw[if_neg hl]
  have y1:decide (0<x.lost)=false:=by simpa using hl
  clear hl;unfold smp;go_enter Tryz.func187,Tryz.ntmps187
  go_wp2;go_step3
  go_wp2;go_step3
  go_wp2;refine wp_loop_rounds 1 ?_;rw[rounds_succ];go_wp2_with fail
  go_region_with (go_at_call 119;(refine(CA.out _).mono ?_;rintro e w' ⟨rfl,rfl⟩))
  all_goals
   go_wp2;first | rw[Exit.noGoto_normal] | rw[Exit.noGoto_exit] | skip
   go_end0
   exact⟨rfl,P0.out⟩
end
end Go.Proofs.YtojgokiobdpclaaGreat
