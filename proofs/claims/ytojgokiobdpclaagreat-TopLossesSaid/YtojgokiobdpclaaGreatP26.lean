import Derived.Test.YtojgokiobdpclaaGreatP23
import Derived.Test.YtojgokiobdpclaaGreatP25
namespace Go.Proofs.YtojgokiobdpclaaGreat
set_option linter.unusedVariables false
set_option linter.unusedSimpArgs false
set_option maxRecDepth 8000
set_option maxHeartbeats 8000000
section
open Go.RowKit Go.Lib
theorem SM.big.ok {x:SM} (h:x.big):x.ok:=⟨h.now,h.dl,h.ls⟩
theorem cruise_ok {s:BB} (h:s.ok) {now:Nat} (hn:now<18446744073709551616):(s.cruise now).ok:=⟨h.wm,h.rn,h.pp,by show 2<8;omega,hn,h.pr,h.pl,h.mss,by show 2<4;omega,h.rate,h.cwnd,h.was,h.upto⟩
theorem measure_ok {s:BB} (h:s.ok) (x:SM):(s.measure x).ok:=by
 unfold BB.measure;split
 ·exact h
 ·split
  ·exact⟨wmF_ok h.wm h.rn.1 (mulDiv_lt _ _ _),h.rn,h.pp,h.cp,h.cs,h.pr,h.pl,h.mss,h.mode,h.rate,h.cwnd,h.was,h.upto⟩
  ·exact h
theorem modes1_ok {s:BB} (h:s.ok) {x:SM} (hx:x.big):(s.modes1 x).ok:=by
 unfold BB.modes1;split
 ·exact cruise_ok h hx.now
 ·exact h
theorem modes_ok {s:BB} (h:s.ok) {x:SM} (hx:x.big):(s.modes x).ok:=by
 unfold BB.modes;split
 ·exact modes1_ok (s:={ s with mode:=1 }) ⟨h.wm,h.rn,h.pp,h.cp,h.cs,h.pr,h.pl,h.mss,by show 1<4;omega,h.rate,h.cwnd,h.was,h.upto⟩ hx
 ·exact modes1_ok h hx
theorem pace_ok {s:BB} (h:s.ok):s.pace.ok:=by
 unfold BB.pace;split
 ·exact h
 ·split
  ·exact⟨h.wm,h.rn,h.pp,h.cp,h.cs,h.pr,h.pl,h.mss,h.mode,by have:=trate_lt s.bw s.gain;show max _ 1<_;omega,h.cwnd,h.was,h.upto⟩
  ·exact h
theorem recover_ok {s:BB} (h:s.ok) (x:SM) (start:Bool):(s.recover x start).ok:=by
 have h1:=h.cwnd;have h2:=h.was;unfold BB.recover;split
 ·exact⟨h.wm,h.rn,h.pp,h.cp,h.cs,h.pr,h.pl,h.mss,h.mode,h.rate,h.cwnd,by show max _ _<_;omega,satAdd_lt⟩
 ·split
  ·split
   ·exact⟨h.wm,h.rn,h.pp,h.cp,h.cs,h.pr,h.pl,h.mss,h.mode,h.rate,h.cwnd,h.was,h.upto⟩
   ·split
    ·exact⟨h.wm,h.rn,h.pp,h.cp,h.cs,h.pr,h.pl,h.mss,h.mode,h.rate,h.cwnd,h.was,h.upto⟩
    ·exact⟨h.wm,h.rn,h.pp,h.cp,h.cs,h.pr,h.pl,h.mss,h.mode,h.rate,by show max _ _<_;omega,by show 0<_;omega,h.upto⟩
  ·exact h
theorem s1F_P (P:Nat→Prop) {s:PS} {now rtt:Nat} (h:P s.best∧P s.stamp) (hn:P now) (hr:P rtt):P (s1F s now rtt).best∧P (s1F s now rtt).stamp:=by
 unfold s1F;split
 ·exact⟨hr,hn⟩
 ·exact h
theorem leaves_P (P:Nat→Prop) (z:PS) (now:Nat) (start:Bool) (flight floor:Nat) (h:P z.best∧P z.stamp) (hn:P now):P (leavesF z now start flight floor).2.best∧P (leavesF z now start flight floor).2.stamp:=by
 unfold leavesF;generalize satAdd now 200000000=q
 by_cases a:z.till=0
 ·simp only[a,if_true]
  by_cases c:flight≤floor
  ·simp only[c,if_true];exact h
  ·simp only[c,if_false];exact h
 ·simp only[a,if_false]
  by_cases c:(!(z.round||start)||decide (now≤z.till))=true
  ·simp only[c,if_true];exact h
  ·simp only[c];exact⟨h.1,hn⟩
theorem updF_P (P:Nat→Prop) {s:PS} {now rtt:Nat} {start:Bool} {flight floor:Nat} (h:P s.best∧P s.stamp) (hn:P now) (hr:P rtt):P (updF s now rtt start flight floor).2.2.best∧P (updF s now rtt start flight floor).2.2.stamp:=by
 have h1:=s1F_P P h hn hr;have h2:=leaves_P P (s1F s now rtt) now start flight floor h1 hn;unfold updF;generalize leavesF (s1F s now rtt) now start flight floor=L at h2 ⊢
 generalize s1F s now rtt=z at h1 ⊢
 generalize expF s now=e
 cases e<;>cases s.inn<;>first | exact h1 | exact h2
theorem updF_lt {s:PS} {now rtt:Nat} {start:Bool} {flight floor:Nat} (h:s.best<18446744073709551616∧s.stamp<18446744073709551616) (hn:now<18446744073709551616) (hr:rtt<18446744073709551616):(updF s now rtt start flight floor).2.2.best<18446744073709551616∧(updF s now rtt start flight floor).2.2.stamp<18446744073709551616:=
 updF_P (fun n=>n<18446744073709551616) h hn hr
theorem look_ok {s:BB} (h:s.ok) {x:SM} (hx:x.big) (start:Bool):(s.look x start).ok:=by
 have h1:=h.cwnd;have h2:=h.was;have hp:=updF_lt (start:=start) (flight:=x.flight) (floor:=4*s.mss) h.pr hx.now hx.rt;unfold BB.look;split
 ·exact⟨h.wm,h.rn,h.pp,h.cp,h.cs,hp,h.pl,h.mss,by show 3<4;omega,h.rate,h.cwnd,by show max _ _<_;omega,h.upto⟩
 ·split
  ·have hq:({ s with pr:=(s.lookU x start).2.2,cwnd:=max s.cwnd s.was,was:=0,mode:=0 }:BB).ok:=⟨h.wm,h.rn,h.pp,h.cp,h.cs,hp,h.pl,h.mss,by show 0<4;omega,h.rate,by show max _ _<_;omega,by show 0<_;omega,h.upto⟩
   split
   ·exact cruise_ok hq hx.now
   ·exact hq
  ·exact⟨h.wm,h.rn,h.pp,h.cp,h.cs,hp,h.pl,h.mss,h.mode,h.rate,h.cwnd,h.was,h.upto⟩
theorem window_ok {s:BB} (h:s.ok) {x:SM} (hx:x.big) (tso:Nat):(s.window x tso).ok:=by
 have h1:=h.cwnd;have hm:=h.mss;have hw1:s.win1 x<18446744073709551616:=by unfold BB.win1 satSub;omega
 have hf:satAdd x.flight x.acked<18446744073709551616:=satAdd_lt;have ha:satAdd (s.win1 x) x.acked<18446744073709551616:=satAdd_lt;have hw2:s.win2 x tso<18446744073709551616:=by
  unfold BB.win2;split
  ·omega
  ·split
   ·split
    ·omega
    ·split
     ·exact ha
     ·exact hw1
   ·exact hw1
 refine⟨h.wm,h.rn,h.pp,h.cp,h.cs,h.pr,h.pl,h.mss,h.mode,h.rate, ?_,h.was,h.upto⟩;show(if s.mode=3 then 4*s.mss else max (s.win2 x tso) (4*s.mss))<_
 split<;>omega
def BB.turn (s:BB) (x:SM):BB:=if s.mode=2∧s.pl.use=false then(if nextB s.cp s.cs x.now s.pr.best x.lost x.flight (s.bdp 320) (s.bdp 256)=true then { s with cp:=(s.cp+1)%8,cs:=x.now }else s)else s
theorem turn_ok {s:BB} (h:s.ok) {x:SM} (hx:x.big):(s.turn x).ok:=by
 unfold BB.turn;split
 ·split
  ·exact⟨h.wm,h.rn,h.pp,Nat.mod_lt _ (by omega),hx.now,h.pr,h.pl,h.mss,h.mode,h.rate,h.cwnd,h.was,h.upto⟩
  ·exact h
 ·exact h
def BB.up1 (s:BB) (x:SM):BB:={ s with rn:=rndF s.rn x }
def BB.up2 (s:BB) (x:SM):BB:={ s.up1 x with pl:=polF s.pl (SM.has s.rn x) x }
def BB.up3 (s:BB) (x:SM):BB:=(s.up2 x).measure x
def BB.up4 (s:BB) (x:SM):BB:=(s.up3 x).turn x
def BB.up5 (s:BB) (x:SM):BB:={ s.up4 x with pp:=pupF (s.up4 x).pp (SM.has s.rn x) x.limited (s.up4 x).wm.v0 }
def BB.up6 (s:BB) (x:SM):BB:=(s.up5 x).modes x
def BB.up7 (s:BB) (x:SM):BB:=(s.up6 x).look x (SM.has s.rn x)
def BB.up8 (s:BB) (x:SM):BB:=(s.up7 x).pace
def BB.up9 (s:BB) (x:SM):BB:=(s.up8 x).recover x (SM.has s.rn x)
def BB.update (s:BB) (x:SM) (tso:Nat):BB:=(s.up9 x).window x tso
theorem up1_ok {s:BB} (h:s.ok) {x:SM} (hx:x.big):(s.up1 x).ok:=⟨h.wm,rndF_ok h.rn hx.dl,h.pp,h.cp,h.cs,h.pr,h.pl,h.mss,h.mode,h.rate,h.cwnd,h.was,h.upto⟩
theorem up2_ok {s:BB} (h:s.ok) {x:SM} (hx:x.big):(s.up2 x).ok:=by
 have k:=up1_ok h hx;exact⟨k.wm,k.rn,k.pp,k.cp,k.cs,k.pr,polF_inv h.pl hx.ok,k.mss,k.mode,k.rate,k.cwnd,k.was,k.upto⟩
theorem up3_ok {s:BB} (h:s.ok) {x:SM} (hx:x.big):(s.up3 x).ok:=measure_ok (up2_ok h hx) x
theorem up4_ok {s:BB} (h:s.ok) {x:SM} (hx:x.big):(s.up4 x).ok:=turn_ok (up3_ok h hx) hx
theorem up5_ok {s:BB} (h:s.ok) {x:SM} (hx:x.big):(s.up5 x).ok:=by
 have k:=up4_ok h hx;exact⟨k.wm,k.rn,pupF_ok k.pp k.wm.2.2.1,k.cp,k.cs,k.pr,k.pl,k.mss,k.mode,k.rate,k.cwnd,k.was,k.upto⟩
theorem up6_ok {s:BB} (h:s.ok) {x:SM} (hx:x.big):(s.up6 x).ok:=modes_ok (up5_ok h hx) hx
theorem up7_ok {s:BB} (h:s.ok) {x:SM} (hx:x.big):(s.up7 x).ok:=look_ok (up6_ok h hx) hx _
theorem up8_ok {s:BB} (h:s.ok) {x:SM} (hx:x.big):(s.up8 x).ok:=pace_ok (up7_ok h hx)
theorem up9_ok {s:BB} (h:s.ok) {x:SM} (hx:x.big):(s.up9 x).ok:=recover_ok (up8_ok h hx) x _
theorem update_ok {s:BB} (h:s.ok) {x:SM} (hx:x.big) (tso:Nat):(s.update x tso).ok:=window_ok (up9_ok h hx) hx tso
end
section
open Go.RowKit Go.Lib
structure UpS (w wq:World) (B n0:Nat) (s:BB) (x:SM):Prop where
 b:BbAt wq B s
 d:Bbd B w wq
 a:At wq n0 266 (smc x)
 z:At wq (n0+1) 35 #[.int .i64 0, .int .i64 0, .int .u64 0, .int .u64 0, .int .u64 0, .int .u64 0, .int .u64 0, .int .u64 0, .bool false, .bool false]
section
variable {w wq w':World} {B n0:Nat} {s s':BB} {x:SM}
theorem UpS.below (h:UpS w wq B n0 s x) (hB:Below wq.heap.size wq w'):UpS w w' B n0 s x:=⟨h.b.below hB,h.d.below hB,h.a.below hB h.a.lt,h.z.below hB h.z.lt⟩
theorem UpS.turn (h:UpS w wq B n0 s x) (hn:B+6<n0) (b:BbAt w' B s') (d:Bbd B wq w'):UpS w w' B n0 s' x:=⟨b,h.d.trans d,(d.block n0 h.a.lt (by omega)).trans h.a,(d.block (n0+1) h.z.lt (by omega)).trans h.z⟩
theorem UpS.cells (h:UpS w wq B n0 s x):wq.cell? ⟨n0,0,none⟩=some (.int .u64 x.now)∧wq.cell? ⟨n0,1,none⟩=some (.int .u64 x.delivered)∧wq.cell? ⟨n0,2,none⟩=some (.int .u64 x.prior)∧wq.cell? ⟨n0,3,none⟩=some (.int .u64 x.interval)∧wq.cell? ⟨n0,4,none⟩=some (.int .u64 x.rtt)∧wq.cell? ⟨n0,5,none⟩=some (.int .u64 x.acked)∧wq.cell? ⟨n0,6,none⟩=some (.int .u64 x.lost)∧wq.cell? ⟨n0,7,none⟩=some (.int .u64 x.flight)∧wq.cell? ⟨n0,8,none⟩=some (.bool x.limited):=
 ⟨h.a.cell 0,h.a.cell 1,h.a.cell 2,h.a.cell 3,h.a.cell 4,h.a.cell 5,h.a.cell 6,h.a.cell 7,h.a.cell 8⟩
theorem UpS.ptrs (h:UpS w wq B n0 s x):wq.cell? ⟨B+6,0,none⟩=some (.pointer (some ⟨B,0,none⟩))∧wq.cell? ⟨B+6,1,none⟩=some (.pointer (some ⟨B+1,0,none⟩))∧wq.cell? ⟨B+6,2,none⟩=some (.pointer (some ⟨B+2,0,none⟩))∧wq.cell? ⟨B+6,3,none⟩=some (.pointer (some ⟨B+3,0,none⟩))∧wq.cell? ⟨B+6,4,none⟩=some (.pointer (some ⟨B+4,0,none⟩))∧wq.cell? ⟨B+6,5,none⟩=some (.pointer (some ⟨B+5,0,none⟩))∧wq.cell? ⟨B+6,7,none⟩=some (.int .i64 s.mode):=
 ⟨h.b.m.cell 0,h.b.m.cell 1,h.b.m.cell 2,h.b.m.cell 3,h.b.m.cell 4,h.b.m.cell 5,h.b.m.cell 7⟩
end
theorem bturn_any (B n0:Nat) (s:BB) (hs:s.ok) (x:SM) (hx:x.big) (hc:s.mode=2∧s.pl.use=false) (w wq:World) (hn:B+6<n0) (h:UpS w wq B n0 s x):
  Calls Tryz.prog 189 #[.pointer (some ⟨B+3,0,none⟩), .int .u64 x.now, .int .u64 s.pr.best, .int .u64 x.lost, .int .u64 x.flight, .int .u64 (s.bdp 320), .int .u64 (s.bdp 256)] wq fun e w'=>(∃ v,e= .returned v)∧UpS w w' B n0 (s.turn x) x:=by
 unfold BB.turn;rw[if_pos hc];by_cases hy:nextB s.cp s.cs x.now s.pr.best x.lost x.flight (s.bdp 320) (s.bdp 256)=true
 ·rw[if_pos hy]
  refine(update_yes (B+3) s.cp s.cs x.now s.pr.best x.lost x.flight (s.bdp 320) (s.bdp 256) hs.cp hs.cs hx.now wq h.b.cy hy).mono ?_;rintro e w' ⟨rfl,P⟩;obtain⟨k1,k2⟩:=h.b.putcy P;exact⟨⟨_,rfl⟩,h.turn hn k1 k2⟩
 ·rw[if_neg hy]
  refine(update_no (B+3) s.cp s.cs x.now s.pr.best x.lost x.flight (s.bdp 320) (s.bdp 256) hs.cs hx.now wq h.b.cy (by simpa using hy)).mono ?_;rintro e w' ⟨rfl,rfl⟩;exact⟨⟨_,rfl⟩,h⟩
end
section
open Go.RowKit Go.Lib
theorem bupdate_any (B:Nat) (s:BB) (hs:s.ok) (x:SM) (hx:x.big) (tso:Nat) (htso:tso<18446744073709551616) (w:World) (h:BbAt w B s):
  Calls Tryz.prog 163 #[.pointer (some ⟨B+6,0,none⟩),smp x, .int .u64 tso] w fun e w'=>e= .returned (mdv (s.update x tso))∧BbAt w' B (s.update x tso)∧Bbd B w w':=by
 obtain⟨n0,e0⟩: ∃ z,w.heap.size=z:=⟨_,rfl⟩;have hm:=h.m.lt;rw[e0]at hm;have U0:Hid (∀ W,W=(w.alloc (.cells (smc x) 266)).alloc (.cells #[.int .i64 0, .int .i64 0, .int .u64 0, .int .u64 0, .int .u64 0, .int .u64 0, .int .u64 0, .int .u64 0, .bool false, .bool false] 35)→UpS w W B n0 s x):=by
  refine zH fun W hW=> ?_
  subst hW;have b1:Below w.heap.size w ((w.alloc (.cells (smc x) 266)).alloc (.cells #[.int .i64 0, .int .i64 0, .int .u64 0, .int .u64 0, .int .u64 0, .int .u64 0, .int .u64 0, .int .u64 0, .bool false, .bool false] 35)):=((Below.refl _ w).alloc (Nat.le_refl _) _).alloc (by simp) _;exact⟨h.below b1,Bbd.of_below b1,by rw[←e0];exact(At.made w _ _).al _,At.mk1 _ _ (by simp[e0])⟩
 have C1:=zH (fun w' (hU:UpS w w' B n0 s x)=>rndupd_any (B+1) s.rn x w' hU.b.rn);have C2:=zH (fun w' (hU:UpS w w' B n0 (s.up1 x) x)=>pupd_any (B+5) s.pl (SM.has s.rn x) x w' hU.b.pl hs.pl hx.ok);have C3:=zH (fun w' (hU:UpS w w' B n0 (s.up2 x) x)=>bmeasure_any B (s.up2 x) (up2_ok hs hx) x hx w' hU.b);have C5:=zH (fun w' (hU:UpS w w' B n0 (s.up4 x) x)=>pup_any (B+2) (s.up4 x).pp (SM.has s.rn x) x.limited (s.up4 x).wm.v0 (up4_ok hs hx).pp w' hU.b.pp);have C5b:=zH (fun w' (hU:UpS w w' B n0 (s.up4 x) x)=>wmbest_any B (s.up4 x).wm w' hU.b.wm);have C6:=zH (fun w' (hU:UpS w w' B n0 (s.up5 x) x)=>bmodes_any B (s.up5 x) (up5_ok hs hx) x hx w' hU.b);have C7:=zH (fun w' (hU:UpS w w' B n0 (s.up6 x) x)=>blook_any B (s.up6 x) (up6_ok hs hx) x hx (SM.has s.rn x) w' hU.b);have C8:=zH (fun w' (hU:UpS w w' B n0 (s.up7 x) x)=>bpace_any B (s.up7 x) (up7_ok hs hx) w' hU.b);have C9:=zH (fun w' (hU:UpS w w' B n0 (s.up8 x) x)=>brecover_any B (s.up8 x) (up8_ok hs hx) x hx (SM.has s.rn x) w' hU.b);have C10:=zH (fun w' (hU:UpS w w' B n0 (s.up9 x) x)=>bwindow_any B (s.up9 x) (up9_ok hs hx) x hx tso htso w' hU.b);have C11:=zH (fun w' (hU:UpS w w' B n0 (s.update x tso) x)=>bstate_any B (s.update x tso) w' hU.b);have CP:=zH (fun w' (hU:UpS w w' B n0 (s.up3 x) x)=>bpol_any B (s.up3 x) w' hU.b);have CB:=zH (fun w' (hU:UpS w w' B n0 (s.up3 x) x)=>best_any (B+4) (s.up3 x).pr w' hU.b.pr);have CD:=zH (fun w' gn (hg:gn<18446744073709551616) (hU:UpS w w' B n0 (s.up3 x) x)=>bbdp_any B (s.up3 x) (up3_ok hs hx) gn hg w' hU.b)
 have CT:=zH (fun w' hc (hU:UpS w w' B n0 (s.up3 x) x)=>bturn_any B n0 (s.up3 x) (up3_ok hs hx) x hx hc w w' hm hU);obtain⟨st,est⟩: ∃ z,SM.has s.rn x=z:=⟨_,rfl⟩;rw[est]at C1 C2 C5 C7 C9;have HST:=zH est;unfold smp at C1 C2 C3 C6 C7 C9 C10 ⊢;obtain⟨u,eu⟩: ∃ u,s.update x tso=u:=⟨_,rfl⟩;rw[eu]at C11 ⊢;have HEU:=zH eu;unfold mdv at C11 ⊢;obtain⟨ubw,eubw⟩: ∃ z,u.bw=z:=⟨_,rfl⟩;rw[eubw]at C11 ⊢;obtain⟨ugn,eugn⟩: ∃ z,u.gain=z:=⟨_,rfl⟩;rw[eugn]at C11 ⊢;clear h hs hx est eu eubw eugn;go_enter Tryz.func163,Tryz.ntmps163
 go_upto_region 3 with fail
 refine wp_named (fun W=>UpS w W B n0 s x) (U0.out _ rfl) (fun W hU=> ?_);obtain⟨a0,a1,a2,a3,a4,a5,a6,a7,a8⟩:=hU.cells;obtain⟨p0,p1,p2,p3,p4,p5,p7⟩:=hU.ptrs;have HU:=zH hU;have HUD:=zH (hU.below (Below.drew (Below.refl _ _)));clear hU;go_still_tail 5,(by kernel_rfl)
 change wpList _ _ _ _ _ W.drew
 go_wp2_with fail
 refine(C1.out _ HUD.out).mono ?_;rintro e w1 ⟨rfl,P1⟩;have X:=HUD.out.b.putrn P1;have HN:=zH (show UpS w w1 B n0 (s.up1 x) x from HUD.out.turn hm X.1 X.2);clear X P1;go_upto_region 4 with fail
 refine wp_named (fun W=>UpS w W B n0 (s.up1 x) x) HN.out (fun W4 hU=> ?_);clear HN;clear a0 a1 a2 a3 a4 a5 a6 a7 a8 p0 p1 p2 p3 p4 p5 p7 HU HUD;obtain⟨a0,a1,a2,a3,a4,a5,a6,a7,a8⟩:=hU.cells;obtain⟨p0,p1,p2,p3,p4,p5,p7⟩:=hU.ptrs;have HU:=zH hU;have HUD:=zH (hU.below (Below.drew (Below.refl _ _)));clear hU;go_still_tail 6,(by kernel_rfl)
 change wpList _ _ _ _ _ W4.drew
 go_wp2_with fail
 refine(C2.out _ HUD.out).mono ?_;rintro e w2 ⟨rfl,P2⟩;have X:=HUD.out.b.putpl P2;have HN:=zH (show UpS w w2 B n0 (s.up2 x) x from HUD.out.turn hm (by unfold BB.up2;rw[HST.out];exact X.1) X.2);clear X P2;go_upto_region 5 with fail
 refine wp_named (fun W=>UpS w W B n0 (s.up2 x) x) HN.out (fun W5 hU=> ?_);clear HN;clear a0 a1 a2 a3 a4 a5 a6 a7 a8 p0 p1 p2 p3 p4 p5 p7 HU HUD;obtain⟨a0,a1,a2,a3,a4,a5,a6,a7,a8⟩:=hU.cells;obtain⟨p0,p1,p2,p3,p4,p5,p7⟩:=hU.ptrs;have HU:=zH hU;have HUD:=zH (hU.below (Below.drew (Below.refl _ _)));clear hU;go_wp2_with fail
 refine(C3.out _ HU.out).mono ?_;rintro e w3 ⟨⟨v3,rfl⟩,X1,X2⟩;have HN:=zH (show UpS w w3 B n0 (s.up3 x) x from HU.out.turn hm X1 X2);clear X1 X2;go_upto_region 6 with fail
 refine wp_named (fun W=>UpS w W B n0 (s.up3 x) x) HN.out (fun W6 hU=> ?_);clear HN;clear a0 a1 a2 a3 a4 a5 a6 a7 a8 p0 p1 p2 p3 p4 p5 p7 HU HUD;obtain⟨a0,a1,a2,a3,a4,a5,a6,a7,a8⟩:=hU.cells;obtain⟨p0,p1,p2,p3,p4,p5,p7⟩:=hU.ptrs;have HU:=zH hU;have HUD:=zH (hU.below (Below.drew (Below.refl _ _)));clear hU;by_cases h2:(s.up3 x).mode=2
 ·cases hu:(s.up3 x).pl.use with
  | false=>
   have hc:(s.up3 x).mode=2∧(s.up3 x).pl.use=false:=⟨h2,hu⟩;have CP2:=zH (CP.out _ HU.out);rw[hu]at CP2;rw[h2]at p7;have HC:=zH hc;clear h2 hu;go_wp2_with fail
   refine CP2.out.mono ?_;rintro e w7 ⟨rfl,rfl⟩;have SF:Hid (∀ wq,UpS w wq B n0 (s.up3 x) x∨UpS w wq B n0 (s.up4 x) x→wq.cell? ⟨B+6,3,none⟩=some (.pointer (some ⟨B+3,0,none⟩))∧wq.cell? ⟨n0,0,none⟩=some (.int .u64 x.now)∧wq.cell? ⟨B+6,4,none⟩=some (.pointer (some ⟨B+4,0,none⟩))∧wq.cell? ⟨n0,6,none⟩=some (.int .u64 x.lost)∧wq.cell? ⟨n0,7,none⟩=some (.int .u64 x.flight)):=by
    refine zH fun wq h=> ?_
    rcases h with h | h
    ·exact⟨h.ptrs.2.2.2.1,h.cells.1,h.ptrs.2.2.2.2.1,h.cells.2.2.2.2.2.2.1,h.cells.2.2.2.2.2.2.2.1⟩
    ·exact⟨h.ptrs.2.2.2.1,h.cells.1,h.ptrs.2.2.2.2.1,h.cells.2.2.2.2.2.2.1,h.cells.2.2.2.2.2.2.2.1⟩
   go_upto_region 7 with fail
   refine wp_region_held_drew (S:=fun wq=>wq.cell? ⟨B+6,3,none⟩=some (.pointer (some ⟨B+3,0,none⟩))∧wq.cell? ⟨n0,0,none⟩=some (.int .u64 x.now)∧wq.cell? ⟨B+6,4,none⟩=some (.pointer (some ⟨B+4,0,none⟩))∧wq.cell? ⟨n0,6,none⟩=some (.int .u64 x.lost)∧wq.cell? ⟨n0,7,none⟩=some (.int .u64 x.flight)) (by kernel_rfl) (SF.out _ (.inl HUD.out)) (fun hHeld=> ?_);refine zt 0 ?_;refine zt 1 ?_;refine zt 2 ?_;refine zt 3 ?_;refine zt 4 ?_;refine zt 5 ?_;refine zt 6 ?_;refine zt 7 ?_;refine zt 8 ?_;refine zt 9 ?_;refine zt 11 ?_;refine zt 12 ?_;refine zt 13 ?_;refine zt 14 ?_;refine zt 15 ?_;refine zt 17 ?_;refine zc 10 (fun K hK=> ?_);go_simp;(first | refine(CB.out _ U18).mono ?_ | refine(CB.out _ U16).mono ?_ | refine(CB.out _ HUD.out).mono ?_);rintro e w10 ⟨rfl,rfl⟩
   refine hK.out _ _ ?_ (fun hHeld=> ?_);focus exact hHeld
   clear hK K;refine zl ?_;refine zc 16 (fun K hK=> ?_);go_simp;(first | refine(CD.out _ 320 (by decide) U18).mono ?_ | refine(CD.out _ 320 (by decide) HUD.out).mono ?_);rintro e w16 ⟨rfl,hB16⟩;have U16:UpS w w16 B n0 (s.up3 x) x:=(by first | exact U18.below hB16 | exact HUD.out.below hB16)
   refine hK.out _ _ ?_ (fun hHeld=> ?_);focus exact SF.out _ (.inl U16)
   clear hK K;refine zl ?_;refine zc 18 (fun K hK=> ?_);go_simp;(first | refine(CD.out _ 256 (by decide) U16).mono ?_ | refine(CD.out _ 256 (by decide) HUD.out).mono ?_);rintro e w18 ⟨rfl,hB18⟩;have U18:UpS w w18 B n0 (s.up3 x) x:=(by first | exact U16.below hB18 | exact HUD.out.below hB18)
   refine hK.out _ _ ?_ (fun hHeld=> ?_);focus exact SF.out _ (.inl U18)
   clear hK K;refine zl ?_;refine zc 19 (fun K hK=> ?_);go_simp;(first | refine(CT.out _ hc U18).mono ?_ | refine(CT.out _ hc U16).mono ?_);rintro e w19 ⟨⟨v19,rfl⟩,U19⟩
   refine hK.out _ _ ?_ (fun hHeld=> ?_);focus exact SF.out _ (.inr U19)
   clear hK K;refine zl ?_;refine dnZ ?_;have HN:=zH U19;clear U16 U18 U19 hB16 hB18 hHeld SF;go_upto_region 8 with fail
   refine wp_named (fun W=>UpS w W B n0 (s.up4 x) x) HN.out (fun W8 hU=> ?_);clear HN;clear a0 a1 a2 a3 a4 a5 a6 a7 a8 p0 p1 p2 p3 p4 p5 p7 HU HUD;obtain⟨a0,a1,a2,a3,a4,a5,a6,a7,a8⟩:=hU.cells;obtain⟨p0,p1,p2,p3,p4,p5,p7⟩:=hU.ptrs;have HU:=zH hU;have HUD:=zH (hU.below (Below.drew (Below.refl _ _)));clear hU;refine wp_region_still_tail 12 (by kernel_rfl) (by kernel_rfl) ?_;simp only[List.take_succ_cons,List.take_zero,List.drop_succ_cons,List.drop_zero];iterate 11 still_step
   still_call (still0 (C5b.out _ HUD.out))
   try refine wpStill_nil ?_
   change wpList _ _ _ _ _ W8.drew
   go_wp2_with fail
   refine(C5.out _ HUD.out).mono ?_;rintro e w9 ⟨rfl,P5⟩;have X:=HUD.out.b.putpp P5;have HN:=zH (show UpS w w9 B n0 (s.up5 x) x from HUD.out.turn hm (by unfold BB.up5;rw[HST.out];exact X.1) X.2);clear X P5;go_upto_region 9 with fail
   refine wp_named (fun W=>UpS w W B n0 (s.up5 x) x) HN.out (fun W9 hU=> ?_);clear HN;clear a0 a1 a2 a3 a4 a5 a6 a7 a8 p0 p1 p2 p3 p4 p5 p7 HU HUD;obtain⟨a0,a1,a2,a3,a4,a5,a6,a7,a8⟩:=hU.cells;obtain⟨p0,p1,p2,p3,p4,p5,p7⟩:=hU.ptrs;have HU:=zH hU;have HUD:=zH (hU.below (Below.drew (Below.refl _ _)));clear hU;go_wp2_with fail
   refine(C6.out _ HU.out).mono ?_;rintro e w9 ⟨⟨v6,rfl⟩,X1,X2⟩;have HN:=zH (show UpS w w9 B n0 (s.up6 x) x from HU.out.turn hm X1 X2);clear X1 X2;go_upto_region 10 with fail
   refine wp_named (fun W=>UpS w W B n0 (s.up6 x) x) HN.out (fun W10 hU=> ?_);clear HN;clear a0 a1 a2 a3 a4 a5 a6 a7 a8 p0 p1 p2 p3 p4 p5 p7 HU HUD;obtain⟨a0,a1,a2,a3,a4,a5,a6,a7,a8⟩:=hU.cells;obtain⟨p0,p1,p2,p3,p4,p5,p7⟩:=hU.ptrs;have HU:=zH hU;have HUD:=zH (hU.below (Below.drew (Below.refl _ _)));clear hU;go_wp2_with fail
   refine(C7.out _ HU.out).mono ?_;rintro e w9 ⟨⟨v7,rfl⟩,X1,X2⟩;have HN:=zH (show UpS w w9 B n0 (s.up7 x) x from HU.out.turn hm (by unfold BB.up7;rw[HST.out];exact X1) X2);clear X1 X2;go_upto_region 11 with fail
   refine wp_named (fun W=>UpS w W B n0 (s.up7 x) x) HN.out (fun W11 hU=> ?_);clear HN;clear a0 a1 a2 a3 a4 a5 a6 a7 a8 p0 p1 p2 p3 p4 p5 p7 HU HUD;obtain⟨a0,a1,a2,a3,a4,a5,a6,a7,a8⟩:=hU.cells;obtain⟨p0,p1,p2,p3,p4,p5,p7⟩:=hU.ptrs;have HU:=zH hU;have HUD:=zH (hU.below (Below.drew (Below.refl _ _)));clear hU;go_wp2_with fail
   refine(C8.out _ HU.out).mono ?_;rintro e w9 ⟨⟨v8,rfl⟩,X1,X2⟩;have HN:=zH (show UpS w w9 B n0 (s.up8 x) x from HU.out.turn hm X1 X2);clear X1 X2;go_upto_region 12 with fail
   refine wp_named (fun W=>UpS w W B n0 (s.up8 x) x) HN.out (fun W12 hU=> ?_);clear HN;clear a0 a1 a2 a3 a4 a5 a6 a7 a8 p0 p1 p2 p3 p4 p5 p7 HU HUD;obtain⟨a0,a1,a2,a3,a4,a5,a6,a7,a8⟩:=hU.cells;obtain⟨p0,p1,p2,p3,p4,p5,p7⟩:=hU.ptrs;have HU:=zH hU;have HUD:=zH (hU.below (Below.drew (Below.refl _ _)));clear hU;go_wp2_with fail
   refine(C9.out _ HU.out).mono ?_;rintro e w9 ⟨⟨v9,rfl⟩,X1,X2⟩;have HN:=zH (show UpS w w9 B n0 (s.up9 x) x from HU.out.turn hm (by unfold BB.up9;rw[HST.out];exact X1) X2);clear X1 X2;go_upto_region 13 with fail
   refine wp_named (fun W=>UpS w W B n0 (s.up9 x) x) HN.out (fun W13 hU=> ?_);clear HN;clear a0 a1 a2 a3 a4 a5 a6 a7 a8 p0 p1 p2 p3 p4 p5 p7 HU HUD;obtain⟨a0,a1,a2,a3,a4,a5,a6,a7,a8⟩:=hU.cells;obtain⟨p0,p1,p2,p3,p4,p5,p7⟩:=hU.ptrs;have HU:=zH hU;have HUD:=zH (hU.below (Below.drew (Below.refl _ _)));clear hU;go_wp2_with fail
   refine(C10.out _ HU.out).mono ?_;rintro e w9 ⟨⟨v10,rfl⟩,X1,X2⟩;have HN:=zH (show UpS w w9 B n0 (s.update x tso) x from HU.out.turn hm X1 X2);clear X1 X2;go_upto_region 14 with fail
   refine wp_named (fun W=>UpS w W B n0 (s.update x tso) x) HN.out (fun W14 hU=> ?_);clear HN;clear a0 a1 a2 a3 a4 a5 a6 a7 a8 p0 p1 p2 p3 p4 p5 p7 HU HUD;obtain⟨a0,a1,a2,a3,a4,a5,a6,a7,a8⟩:=hU.cells;obtain⟨p0,p1,p2,p3,p4,p5,p7⟩:=hU.ptrs;have HU:=zH hU;have HUD:=zH (hU.below (Below.drew (Below.refl _ _)));clear hU;have HU1:=HU.out;rw[HEU.out]at HU1;go_wp2_with fail
   refine(C11.out _ HU1).mono ?_;rintro e w14 ⟨rfl,hB⟩;have HU2:=HU1.below hB;have HZ:=HU2.z;have y0:=HZ.cell 0;have yf0:=HZ.free 0;have y1:=HZ.cell 1;have yf1:=HZ.free 1;have y2:=HZ.cell 2;have yf2:=HZ.free 2;have y3:=HZ.cell 3;have yf3:=HZ.free 3;have y4:=HZ.cell 4;have yf4:=HZ.free 4;have y5:=HZ.cell 5;have yf5:=HZ.free 5;have y6:=HZ.cell 6;have yf6:=HZ.free 6;have y7:=HZ.cell 7;have yf7:=HZ.free 7;have y8:=HZ.cell 8;have yf8:=HZ.free 8;have y9:=HZ.cell 9;have yf9:=HZ.free 9;simp only[List.getElem?_toArray,List.getElem?_cons_zero,List.getElem?_cons_succ]at y0 y1 y2 y3 y4 y5 y6 y7 y8 y9;have A1:=((((((((((HZ.set (u:= .int .i64 (u.mode:Nat)) 0).set (u:= .int .i64 (u.cp:Nat)) 1).set (u:= .int .u64 (u.rate:Nat)) 2).set (u:= .int .u64 (u.cwnd:Nat)) 3).set (u:= .int .u64 (ubw:Nat)) 4).set (u:= .int .u64 (u.pr.best:Nat)) 5).set (u:= .int .u64 (ugn:Nat)) 6).set (u:= .int .u64 (u.rn.n:Nat)) 7).set (u:= .bool u.pp.full) 8).set (u:= .bool u.pl.use) 9);have d0:=A1.cell 0;have d1:=A1.cell 1;have d2:=A1.cell 2;have d3:=A1.cell 3;have d4:=A1.cell 4;have d5:=A1.cell 5;have d6:=A1.cell 6;have d7:=A1.cell 7;have d8:=A1.cell 8;have d9:=A1.cell 9;simp only[List.setIfInBounds_toArray,List.set_cons_zero,List.set_cons_succ,List.getElem?_toArray,List.getElem?_cons_zero,List.getElem?_cons_succ]at d0 d1 d2 d3 d4 d5 d6 d7 d8 d9;have G:=((((((((((grown_set w14 (n0+1) 0 (.int .i64 (u.mode:Nat))).trans (grown_set _ (n0+1) 1 (.int .i64 (u.cp:Nat)))).trans (grown_set _ (n0+1) 2 (.int .u64 (u.rate:Nat)))).trans (grown_set _ (n0+1) 3 (.int .u64 (u.cwnd:Nat)))).trans (grown_set _ (n0+1) 4 (.int .u64 (ubw:Nat)))).trans (grown_set _ (n0+1) 5 (.int .u64 (u.pr.best:Nat)))).trans (grown_set _ (n0+1) 6 (.int .u64 (ugn:Nat)))).trans (grown_set _ (n0+1) 7 (.int .u64 (u.rn.n:Nat)))).trans (grown_set _ (n0+1) 8 (.bool u.pp.full))).trans (grown_set _ (n0+1) 9 (.bool u.pl.use)))
   have hsz:=HU2.z.lt;have HE:Hid (BbAt _ B u∧Bbd B w _):=zH ⟨⟨HU2.b.wm.kept G (by simp;omega),HU2.b.rn.kept G (by simp;omega),HU2.b.pp.kept G (by simp;omega),HU2.b.cy.kept G (by simp;omega),HU2.b.pr.kept G (by simp;omega),HU2.b.pl.kept G (by simp;omega),HU2.b.m.kept G (by simp;omega)⟩,⟨G.os.trans HU2.d.os,G.tape.trans HU2.d.tape,G.output.trans HU2.d.output,Nat.le_trans HU2.d.size G.size,fun k hk hb=>(G.block k (Nat.lt_of_lt_of_le hk HU2.d.size) (by simp;omega)).trans (HU2.d.block k hk hb)⟩⟩;have D0:=zH d0;have D1:=zH d1;have D2:=zH d2;have D3:=zH d3;have D4:=zH d4;have D5:=zH d5;have D6:=zH d6;have D7:=zH d7;have D8:=zH d8;have D9:=zH d9;clear HU1 HU2 HZ A1 G hB d0 d1 d2 d3 d4 d5 d6 d7 d8 d9;go_wp2_with fail
   refine q_named (fun W3=>(W3.cell? ⟨n0+1,0,none⟩=some (.int .i64 (u.mode:Nat))∧W3.cell? ⟨n0+1,1,none⟩=some (.int .i64 (u.cp:Nat))∧W3.cell? ⟨n0+1,2,none⟩=some (.int .u64 (u.rate:Nat))∧W3.cell? ⟨n0+1,3,none⟩=some (.int .u64 (u.cwnd:Nat))∧W3.cell? ⟨n0+1,4,none⟩=some (.int .u64 (ubw:Nat))∧W3.cell? ⟨n0+1,5,none⟩=some (.int .u64 (u.pr.best:Nat))∧W3.cell? ⟨n0+1,6,none⟩=some (.int .u64 (ugn:Nat))∧W3.cell? ⟨n0+1,7,none⟩=some (.int .u64 (u.rn.n:Nat))∧W3.cell? ⟨n0+1,8,none⟩=some (.bool u.pp.full)∧W3.cell? ⟨n0+1,9,none⟩=some (.bool u.pl.use))∧BbAt W3 B u∧Bbd B w W3) ⟨⟨D0.out,D1.out,D2.out,D3.out,D4.out,D5.out,D6.out,D7.out,D8.out,D9.out⟩,HE.out⟩ (fun W3 hW=> ?_);obtain⟨⟨g0,g1,g2,g3,g4,g5,g6,g7,g8,g9⟩,hX,hY⟩:=hW;clear D0 D1 D2 D3 D4 D5 D6 D7 D8 D9 HE;refine bodyPost_ret (v:= .agg #[.int .i64 (u.mode:Nat), .int .i64 (u.cp:Nat), .int .u64 (u.rate:Nat), .int .u64 (u.cwnd:Nat), .int .u64 (ubw:Nat), .int .u64 (u.pr.best:Nat), .int .u64 (ugn:Nat), .int .u64 (u.rn.n:Nat), .bool u.pp.full, .bool u.pl.use]) ?_ rfl ⟨rfl,hX,hY⟩;simp[results,Tryz.f163,go_sem,g0,g1,g2,g3,g4,g5,g6,g7,g8,g9]
  | true=>
   have CP2:=zH (CP.out _ HU.out);rw[hu]at CP2;rw[h2]at p7;have HN:=zH (show UpS w W6 B n0 (s.up4 x) x from by unfold BB.up4 BB.turn;rw[if_neg (by rintro⟨_,h⟩;rw[hu]at h;cases h)];exact HU.out);clear h2 hu;go_wp2_with fail
   refine CP2.out.mono ?_;rintro e w7 ⟨rfl,rfl⟩;go_upto_region 8 with fail
   refine wp_named (fun W=>UpS w W B n0 (s.up4 x) x) HN.out (fun W8 hU=> ?_);clear HN;clear a0 a1 a2 a3 a4 a5 a6 a7 a8 p0 p1 p2 p3 p4 p5 p7 HU HUD;obtain⟨a0,a1,a2,a3,a4,a5,a6,a7,a8⟩:=hU.cells;obtain⟨p0,p1,p2,p3,p4,p5,p7⟩:=hU.ptrs;have HU:=zH hU;have HUD:=zH (hU.below (Below.drew (Below.refl _ _)));clear hU;refine wp_region_still_tail 12 (by kernel_rfl) (by kernel_rfl) ?_;simp only[List.take_succ_cons,List.take_zero,List.drop_succ_cons,List.drop_zero];iterate 11 still_step
   still_call (still0 (C5b.out _ HUD.out))
   try refine wpStill_nil ?_
   change wpList _ _ _ _ _ W8.drew
   go_wp2_with fail
   refine(C5.out _ HUD.out).mono ?_;rintro e w9 ⟨rfl,P5⟩;have X:=HUD.out.b.putpp P5;have HN:=zH (show UpS w w9 B n0 (s.up5 x) x from HUD.out.turn hm (by unfold BB.up5;rw[HST.out];exact X.1) X.2);clear X P5;go_upto_region 9 with fail
   refine wp_named (fun W=>UpS w W B n0 (s.up5 x) x) HN.out (fun W9 hU=> ?_);clear HN;clear a0 a1 a2 a3 a4 a5 a6 a7 a8 p0 p1 p2 p3 p4 p5 p7 HU HUD;obtain⟨a0,a1,a2,a3,a4,a5,a6,a7,a8⟩:=hU.cells;obtain⟨p0,p1,p2,p3,p4,p5,p7⟩:=hU.ptrs;have HU:=zH hU;have HUD:=zH (hU.below (Below.drew (Below.refl _ _)));clear hU;go_wp2_with fail
   refine(C6.out _ HU.out).mono ?_;rintro e w9 ⟨⟨v6,rfl⟩,X1,X2⟩;have HN:=zH (show UpS w w9 B n0 (s.up6 x) x from HU.out.turn hm X1 X2);clear X1 X2;go_upto_region 10 with fail
   refine wp_named (fun W=>UpS w W B n0 (s.up6 x) x) HN.out (fun W10 hU=> ?_);clear HN;clear a0 a1 a2 a3 a4 a5 a6 a7 a8 p0 p1 p2 p3 p4 p5 p7 HU HUD;obtain⟨a0,a1,a2,a3,a4,a5,a6,a7,a8⟩:=hU.cells;obtain⟨p0,p1,p2,p3,p4,p5,p7⟩:=hU.ptrs;have HU:=zH hU;have HUD:=zH (hU.below (Below.drew (Below.refl _ _)));clear hU;go_wp2_with fail
   refine(C7.out _ HU.out).mono ?_;rintro e w9 ⟨⟨v7,rfl⟩,X1,X2⟩;have HN:=zH (show UpS w w9 B n0 (s.up7 x) x from HU.out.turn hm (by unfold BB.up7;rw[HST.out];exact X1) X2);clear X1 X2;go_upto_region 11 with fail
   refine wp_named (fun W=>UpS w W B n0 (s.up7 x) x) HN.out (fun W11 hU=> ?_);clear HN;clear a0 a1 a2 a3 a4 a5 a6 a7 a8 p0 p1 p2 p3 p4 p5 p7 HU HUD;obtain⟨a0,a1,a2,a3,a4,a5,a6,a7,a8⟩:=hU.cells;obtain⟨p0,p1,p2,p3,p4,p5,p7⟩:=hU.ptrs;have HU:=zH hU;have HUD:=zH (hU.below (Below.drew (Below.refl _ _)));clear hU;go_wp2_with fail
   refine(C8.out _ HU.out).mono ?_;rintro e w9 ⟨⟨v8,rfl⟩,X1,X2⟩;have HN:=zH (show UpS w w9 B n0 (s.up8 x) x from HU.out.turn hm X1 X2);clear X1 X2;go_upto_region 12 with fail
   refine wp_named (fun W=>UpS w W B n0 (s.up8 x) x) HN.out (fun W12 hU=> ?_);clear HN;clear a0 a1 a2 a3 a4 a5 a6 a7 a8 p0 p1 p2 p3 p4 p5 p7 HU HUD;obtain⟨a0,a1,a2,a3,a4,a5,a6,a7,a8⟩:=hU.cells;obtain⟨p0,p1,p2,p3,p4,p5,p7⟩:=hU.ptrs;have HU:=zH hU;have HUD:=zH (hU.below (Below.drew (Below.refl _ _)));clear hU;go_wp2_with fail
   refine(C9.out _ HU.out).mono ?_;rintro e w9 ⟨⟨v9,rfl⟩,X1,X2⟩;have HN:=zH (show UpS w w9 B n0 (s.up9 x) x from HU.out.turn hm (by unfold BB.up9;rw[HST.out];exact X1) X2);clear X1 X2;go_upto_region 13 with fail
   refine wp_named (fun W=>UpS w W B n0 (s.up9 x) x) HN.out (fun W13 hU=> ?_);clear HN;clear a0 a1 a2 a3 a4 a5 a6 a7 a8 p0 p1 p2 p3 p4 p5 p7 HU HUD;obtain⟨a0,a1,a2,a3,a4,a5,a6,a7,a8⟩:=hU.cells;obtain⟨p0,p1,p2,p3,p4,p5,p7⟩:=hU.ptrs;have HU:=zH hU;have HUD:=zH (hU.below (Below.drew (Below.refl _ _)));clear hU;go_wp2_with fail
   refine(C10.out _ HU.out).mono ?_;rintro e w9 ⟨⟨v10,rfl⟩,X1,X2⟩;have HN:=zH (show UpS w w9 B n0 (s.update x tso) x from HU.out.turn hm X1 X2);clear X1 X2;go_upto_region 14 with fail
   refine wp_named (fun W=>UpS w W B n0 (s.update x tso) x) HN.out (fun W14 hU=> ?_);clear HN;clear a0 a1 a2 a3 a4 a5 a6 a7 a8 p0 p1 p2 p3 p4 p5 p7 HU HUD;obtain⟨a0,a1,a2,a3,a4,a5,a6,a7,a8⟩:=hU.cells;obtain⟨p0,p1,p2,p3,p4,p5,p7⟩:=hU.ptrs;have HU:=zH hU;have HUD:=zH (hU.below (Below.drew (Below.refl _ _)));clear hU;have HU1:=HU.out;rw[HEU.out]at HU1;go_wp2_with fail
   refine(C11.out _ HU1).mono ?_;rintro e w14 ⟨rfl,hB⟩;have HU2:=HU1.below hB;have HZ:=HU2.z;have y0:=HZ.cell 0;have yf0:=HZ.free 0;have y1:=HZ.cell 1;have yf1:=HZ.free 1;have y2:=HZ.cell 2;have yf2:=HZ.free 2;have y3:=HZ.cell 3;have yf3:=HZ.free 3;have y4:=HZ.cell 4;have yf4:=HZ.free 4;have y5:=HZ.cell 5;have yf5:=HZ.free 5;have y6:=HZ.cell 6;have yf6:=HZ.free 6;have y7:=HZ.cell 7;have yf7:=HZ.free 7;have y8:=HZ.cell 8;have yf8:=HZ.free 8;have y9:=HZ.cell 9;have yf9:=HZ.free 9;simp only[List.getElem?_toArray,List.getElem?_cons_zero,List.getElem?_cons_succ]at y0 y1 y2 y3 y4 y5 y6 y7 y8 y9;have A1:=((((((((((HZ.set (u:= .int .i64 (u.mode:Nat)) 0).set (u:= .int .i64 (u.cp:Nat)) 1).set (u:= .int .u64 (u.rate:Nat)) 2).set (u:= .int .u64 (u.cwnd:Nat)) 3).set (u:= .int .u64 (ubw:Nat)) 4).set (u:= .int .u64 (u.pr.best:Nat)) 5).set (u:= .int .u64 (ugn:Nat)) 6).set (u:= .int .u64 (u.rn.n:Nat)) 7).set (u:= .bool u.pp.full) 8).set (u:= .bool u.pl.use) 9);have d0:=A1.cell 0;have d1:=A1.cell 1;have d2:=A1.cell 2;have d3:=A1.cell 3;have d4:=A1.cell 4;have d5:=A1.cell 5;have d6:=A1.cell 6;have d7:=A1.cell 7;have d8:=A1.cell 8;have d9:=A1.cell 9;simp only[List.setIfInBounds_toArray,List.set_cons_zero,List.set_cons_succ,List.getElem?_toArray,List.getElem?_cons_zero,List.getElem?_cons_succ]at d0 d1 d2 d3 d4 d5 d6 d7 d8 d9;have G:=((((((((((grown_set w14 (n0+1) 0 (.int .i64 (u.mode:Nat))).trans (grown_set _ (n0+1) 1 (.int .i64 (u.cp:Nat)))).trans (grown_set _ (n0+1) 2 (.int .u64 (u.rate:Nat)))).trans (grown_set _ (n0+1) 3 (.int .u64 (u.cwnd:Nat)))).trans (grown_set _ (n0+1) 4 (.int .u64 (ubw:Nat)))).trans (grown_set _ (n0+1) 5 (.int .u64 (u.pr.best:Nat)))).trans (grown_set _ (n0+1) 6 (.int .u64 (ugn:Nat)))).trans (grown_set _ (n0+1) 7 (.int .u64 (u.rn.n:Nat)))).trans (grown_set _ (n0+1) 8 (.bool u.pp.full))).trans (grown_set _ (n0+1) 9 (.bool u.pl.use)))
   have hsz:=HU2.z.lt;have HE:Hid (BbAt _ B u∧Bbd B w _):=zH ⟨⟨HU2.b.wm.kept G (by simp;omega),HU2.b.rn.kept G (by simp;omega),HU2.b.pp.kept G (by simp;omega),HU2.b.cy.kept G (by simp;omega),HU2.b.pr.kept G (by simp;omega),HU2.b.pl.kept G (by simp;omega),HU2.b.m.kept G (by simp;omega)⟩,⟨G.os.trans HU2.d.os,G.tape.trans HU2.d.tape,G.output.trans HU2.d.output,Nat.le_trans HU2.d.size G.size,fun k hk hb=>(G.block k (Nat.lt_of_lt_of_le hk HU2.d.size) (by simp;omega)).trans (HU2.d.block k hk hb)⟩⟩;have D0:=zH d0;have D1:=zH d1;have D2:=zH d2;have D3:=zH d3;have D4:=zH d4;have D5:=zH d5;have D6:=zH d6;have D7:=zH d7;have D8:=zH d8;have D9:=zH d9;clear HU1 HU2 HZ A1 G hB d0 d1 d2 d3 d4 d5 d6 d7 d8 d9;go_wp2_with fail
   refine q_named (fun W3=>(W3.cell? ⟨n0+1,0,none⟩=some (.int .i64 (u.mode:Nat))∧W3.cell? ⟨n0+1,1,none⟩=some (.int .i64 (u.cp:Nat))∧W3.cell? ⟨n0+1,2,none⟩=some (.int .u64 (u.rate:Nat))∧W3.cell? ⟨n0+1,3,none⟩=some (.int .u64 (u.cwnd:Nat))∧W3.cell? ⟨n0+1,4,none⟩=some (.int .u64 (ubw:Nat))∧W3.cell? ⟨n0+1,5,none⟩=some (.int .u64 (u.pr.best:Nat))∧W3.cell? ⟨n0+1,6,none⟩=some (.int .u64 (ugn:Nat))∧W3.cell? ⟨n0+1,7,none⟩=some (.int .u64 (u.rn.n:Nat))∧W3.cell? ⟨n0+1,8,none⟩=some (.bool u.pp.full)∧W3.cell? ⟨n0+1,9,none⟩=some (.bool u.pl.use))∧BbAt W3 B u∧Bbd B w W3) ⟨⟨D0.out,D1.out,D2.out,D3.out,D4.out,D5.out,D6.out,D7.out,D8.out,D9.out⟩,HE.out⟩ (fun W3 hW=> ?_);obtain⟨⟨g0,g1,g2,g3,g4,g5,g6,g7,g8,g9⟩,hX,hY⟩:=hW;clear D0 D1 D2 D3 D4 D5 D6 D7 D8 D9 HE;refine bodyPost_ret (v:= .agg #[.int .i64 (u.mode:Nat), .int .i64 (u.cp:Nat), .int .u64 (u.rate:Nat), .int .u64 (u.cwnd:Nat), .int .u64 (ubw:Nat), .int .u64 (u.pr.best:Nat), .int .u64 (ugn:Nat), .int .u64 (u.rn.n:Nat), .bool u.pp.full, .bool u.pl.use]) ?_ rfl ⟨rfl,hX,hY⟩;simp[results,Tryz.f163,go_sem,g0,g1,g2,g3,g4,g5,g6,g7,g8,g9]
 ·have HN:=zH (show UpS w W6 B n0 (s.up4 x) x from by unfold BB.up4 BB.turn;rw[if_neg (fun h=>h2 h.1)];exact HU.out)
  obtain⟨md,hmd⟩: ∃ z,(s.up3 x).mode=z:=⟨_,rfl⟩;rw[hmd]at p7;have e2:((md:Int)==2)=false:=by rw[beq_eq_false_iff_ne];omega
  clear h2 hmd;go_upto_region 8 with fail
  refine wp_named (fun W=>UpS w W B n0 (s.up4 x) x) HN.out (fun W8 hU=> ?_);clear HN;clear a0 a1 a2 a3 a4 a5 a6 a7 a8 p0 p1 p2 p3 p4 p5 p7 HU HUD;obtain⟨a0,a1,a2,a3,a4,a5,a6,a7,a8⟩:=hU.cells;obtain⟨p0,p1,p2,p3,p4,p5,p7⟩:=hU.ptrs;have HU:=zH hU;have HUD:=zH (hU.below (Below.drew (Below.refl _ _)));clear hU;refine wp_region_still_tail 12 (by kernel_rfl) (by kernel_rfl) ?_;simp only[List.take_succ_cons,List.take_zero,List.drop_succ_cons,List.drop_zero];iterate 11 still_step
  still_call (still0 (C5b.out _ HUD.out))
  try refine wpStill_nil ?_
  change wpList _ _ _ _ _ W8.drew
  go_wp2_with fail
  refine(C5.out _ HUD.out).mono ?_;rintro e w9 ⟨rfl,P5⟩;have X:=HUD.out.b.putpp P5;have HN:=zH (show UpS w w9 B n0 (s.up5 x) x from HUD.out.turn hm (by unfold BB.up5;rw[HST.out];exact X.1) X.2);clear X P5;go_upto_region 9 with fail
  refine wp_named (fun W=>UpS w W B n0 (s.up5 x) x) HN.out (fun W9 hU=> ?_);clear HN;clear a0 a1 a2 a3 a4 a5 a6 a7 a8 p0 p1 p2 p3 p4 p5 p7 HU HUD;obtain⟨a0,a1,a2,a3,a4,a5,a6,a7,a8⟩:=hU.cells;obtain⟨p0,p1,p2,p3,p4,p5,p7⟩:=hU.ptrs;have HU:=zH hU;have HUD:=zH (hU.below (Below.drew (Below.refl _ _)));clear hU;go_wp2_with fail
  refine(C6.out _ HU.out).mono ?_;rintro e w9 ⟨⟨v6,rfl⟩,X1,X2⟩;have HN:=zH (show UpS w w9 B n0 (s.up6 x) x from HU.out.turn hm X1 X2);clear X1 X2;go_upto_region 10 with fail
  refine wp_named (fun W=>UpS w W B n0 (s.up6 x) x) HN.out (fun W10 hU=> ?_);clear HN;clear a0 a1 a2 a3 a4 a5 a6 a7 a8 p0 p1 p2 p3 p4 p5 p7 HU HUD;obtain⟨a0,a1,a2,a3,a4,a5,a6,a7,a8⟩:=hU.cells;obtain⟨p0,p1,p2,p3,p4,p5,p7⟩:=hU.ptrs;have HU:=zH hU;have HUD:=zH (hU.below (Below.drew (Below.refl _ _)));clear hU;go_wp2_with fail
  refine(C7.out _ HU.out).mono ?_;rintro e w9 ⟨⟨v7,rfl⟩,X1,X2⟩;have HN:=zH (show UpS w w9 B n0 (s.up7 x) x from HU.out.turn hm (by unfold BB.up7;rw[HST.out];exact X1) X2);clear X1 X2;go_upto_region 11 with fail
  refine wp_named (fun W=>UpS w W B n0 (s.up7 x) x) HN.out (fun W11 hU=> ?_);clear HN;clear a0 a1 a2 a3 a4 a5 a6 a7 a8 p0 p1 p2 p3 p4 p5 p7 HU HUD;obtain⟨a0,a1,a2,a3,a4,a5,a6,a7,a8⟩:=hU.cells;obtain⟨p0,p1,p2,p3,p4,p5,p7⟩:=hU.ptrs;have HU:=zH hU;have HUD:=zH (hU.below (Below.drew (Below.refl _ _)));clear hU;go_wp2_with fail
  refine(C8.out _ HU.out).mono ?_;rintro e w9 ⟨⟨v8,rfl⟩,X1,X2⟩;have HN:=zH (show UpS w w9 B n0 (s.up8 x) x from HU.out.turn hm X1 X2);clear X1 X2;go_upto_region 12 with fail
  refine wp_named (fun W=>UpS w W B n0 (s.up8 x) x) HN.out (fun W12 hU=> ?_);clear HN;clear a0 a1 a2 a3 a4 a5 a6 a7 a8 p0 p1 p2 p3 p4 p5 p7 HU HUD;obtain⟨a0,a1,a2,a3,a4,a5,a6,a7,a8⟩:=hU.cells;obtain⟨p0,p1,p2,p3,p4,p5,p7⟩:=hU.ptrs;have HU:=zH hU;have HUD:=zH (hU.below (Below.drew (Below.refl _ _)));clear hU;go_wp2_with fail
  refine(C9.out _ HU.out).mono ?_;rintro e w9 ⟨⟨v9,rfl⟩,X1,X2⟩;have HN:=zH (show UpS w w9 B n0 (s.up9 x) x from HU.out.turn hm (by unfold BB.up9;rw[HST.out];exact X1) X2);clear X1 X2;go_upto_region 13 with fail
  refine wp_named (fun W=>UpS w W B n0 (s.up9 x) x) HN.out (fun W13 hU=> ?_);clear HN;clear a0 a1 a2 a3 a4 a5 a6 a7 a8 p0 p1 p2 p3 p4 p5 p7 HU HUD;obtain⟨a0,a1,a2,a3,a4,a5,a6,a7,a8⟩:=hU.cells;obtain⟨p0,p1,p2,p3,p4,p5,p7⟩:=hU.ptrs;have HU:=zH hU;have HUD:=zH (hU.below (Below.drew (Below.refl _ _)));clear hU;go_wp2_with fail
  refine(C10.out _ HU.out).mono ?_;rintro e w9 ⟨⟨v10,rfl⟩,X1,X2⟩;have HN:=zH (show UpS w w9 B n0 (s.update x tso) x from HU.out.turn hm X1 X2);clear X1 X2;go_upto_region 14 with fail
  refine wp_named (fun W=>UpS w W B n0 (s.update x tso) x) HN.out (fun W14 hU=> ?_);clear HN;clear a0 a1 a2 a3 a4 a5 a6 a7 a8 p0 p1 p2 p3 p4 p5 p7 HU HUD;obtain⟨a0,a1,a2,a3,a4,a5,a6,a7,a8⟩:=hU.cells;obtain⟨p0,p1,p2,p3,p4,p5,p7⟩:=hU.ptrs;have HU:=zH hU;have HUD:=zH (hU.below (Below.drew (Below.refl _ _)));clear hU;have HU1:=HU.out;rw[HEU.out]at HU1;go_wp2_with fail
  refine(C11.out _ HU1).mono ?_;rintro e w14 ⟨rfl,hB⟩;have HU2:=HU1.below hB;have HZ:=HU2.z;have y0:=HZ.cell 0;have yf0:=HZ.free 0;have y1:=HZ.cell 1;have yf1:=HZ.free 1;have y2:=HZ.cell 2;have yf2:=HZ.free 2;have y3:=HZ.cell 3;have yf3:=HZ.free 3;have y4:=HZ.cell 4;have yf4:=HZ.free 4;have y5:=HZ.cell 5;have yf5:=HZ.free 5;have y6:=HZ.cell 6;have yf6:=HZ.free 6;have y7:=HZ.cell 7;have yf7:=HZ.free 7;have y8:=HZ.cell 8;have yf8:=HZ.free 8;have y9:=HZ.cell 9;have yf9:=HZ.free 9;simp only[List.getElem?_toArray,List.getElem?_cons_zero,List.getElem?_cons_succ]at y0 y1 y2 y3 y4 y5 y6 y7 y8 y9;have A1:=((((((((((HZ.set (u:= .int .i64 (u.mode:Nat)) 0).set (u:= .int .i64 (u.cp:Nat)) 1).set (u:= .int .u64 (u.rate:Nat)) 2).set (u:= .int .u64 (u.cwnd:Nat)) 3).set (u:= .int .u64 (ubw:Nat)) 4).set (u:= .int .u64 (u.pr.best:Nat)) 5).set (u:= .int .u64 (ugn:Nat)) 6).set (u:= .int .u64 (u.rn.n:Nat)) 7).set (u:= .bool u.pp.full) 8).set (u:= .bool u.pl.use) 9);have d0:=A1.cell 0;have d1:=A1.cell 1;have d2:=A1.cell 2;have d3:=A1.cell 3;have d4:=A1.cell 4;have d5:=A1.cell 5;have d6:=A1.cell 6;have d7:=A1.cell 7;have d8:=A1.cell 8;have d9:=A1.cell 9;simp only[List.setIfInBounds_toArray,List.set_cons_zero,List.set_cons_succ,List.getElem?_toArray,List.getElem?_cons_zero,List.getElem?_cons_succ]at d0 d1 d2 d3 d4 d5 d6 d7 d8 d9;have G:=((((((((((grown_set w14 (n0+1) 0 (.int .i64 (u.mode:Nat))).trans (grown_set _ (n0+1) 1 (.int .i64 (u.cp:Nat)))).trans (grown_set _ (n0+1) 2 (.int .u64 (u.rate:Nat)))).trans (grown_set _ (n0+1) 3 (.int .u64 (u.cwnd:Nat)))).trans (grown_set _ (n0+1) 4 (.int .u64 (ubw:Nat)))).trans (grown_set _ (n0+1) 5 (.int .u64 (u.pr.best:Nat)))).trans (grown_set _ (n0+1) 6 (.int .u64 (ugn:Nat)))).trans (grown_set _ (n0+1) 7 (.int .u64 (u.rn.n:Nat)))).trans (grown_set _ (n0+1) 8 (.bool u.pp.full))).trans (grown_set _ (n0+1) 9 (.bool u.pl.use)))
  have hsz:=HU2.z.lt;have HE:Hid (BbAt _ B u∧Bbd B w _):=zH ⟨⟨HU2.b.wm.kept G (by simp;omega),HU2.b.rn.kept G (by simp;omega),HU2.b.pp.kept G (by simp;omega),HU2.b.cy.kept G (by simp;omega),HU2.b.pr.kept G (by simp;omega),HU2.b.pl.kept G (by simp;omega),HU2.b.m.kept G (by simp;omega)⟩,⟨G.os.trans HU2.d.os,G.tape.trans HU2.d.tape,G.output.trans HU2.d.output,Nat.le_trans HU2.d.size G.size,fun k hk hb=>(G.block k (Nat.lt_of_lt_of_le hk HU2.d.size) (by simp;omega)).trans (HU2.d.block k hk hb)⟩⟩;have D0:=zH d0;have D1:=zH d1;have D2:=zH d2;have D3:=zH d3;have D4:=zH d4;have D5:=zH d5;have D6:=zH d6;have D7:=zH d7;have D8:=zH d8;have D9:=zH d9;clear HU1 HU2 HZ A1 G hB d0 d1 d2 d3 d4 d5 d6 d7 d8 d9;go_wp2_with fail
  refine q_named (fun W3=>(W3.cell? ⟨n0+1,0,none⟩=some (.int .i64 (u.mode:Nat))∧W3.cell? ⟨n0+1,1,none⟩=some (.int .i64 (u.cp:Nat))∧W3.cell? ⟨n0+1,2,none⟩=some (.int .u64 (u.rate:Nat))∧W3.cell? ⟨n0+1,3,none⟩=some (.int .u64 (u.cwnd:Nat))∧W3.cell? ⟨n0+1,4,none⟩=some (.int .u64 (ubw:Nat))∧W3.cell? ⟨n0+1,5,none⟩=some (.int .u64 (u.pr.best:Nat))∧W3.cell? ⟨n0+1,6,none⟩=some (.int .u64 (ugn:Nat))∧W3.cell? ⟨n0+1,7,none⟩=some (.int .u64 (u.rn.n:Nat))∧W3.cell? ⟨n0+1,8,none⟩=some (.bool u.pp.full)∧W3.cell? ⟨n0+1,9,none⟩=some (.bool u.pl.use))∧BbAt W3 B u∧Bbd B w W3) ⟨⟨D0.out,D1.out,D2.out,D3.out,D4.out,D5.out,D6.out,D7.out,D8.out,D9.out⟩,HE.out⟩ (fun W3 hW=> ?_);obtain⟨⟨g0,g1,g2,g3,g4,g5,g6,g7,g8,g9⟩,hX,hY⟩:=hW;clear D0 D1 D2 D3 D4 D5 D6 D7 D8 D9 HE;refine bodyPost_ret (v:= .agg #[.int .i64 (u.mode:Nat), .int .i64 (u.cp:Nat), .int .u64 (u.rate:Nat), .int .u64 (u.cwnd:Nat), .int .u64 (ubw:Nat), .int .u64 (u.pr.best:Nat), .int .u64 (ugn:Nat), .int .u64 (u.rn.n:Nat), .bool u.pp.full, .bool u.pl.use]) ?_ rfl ⟨rfl,hX,hY⟩;simp[results,Tryz.f163,go_sem,g0,g1,g2,g3,g4,g5,g6,g7,g8,g9]
end
end Go.Proofs.YtojgokiobdpclaaGreat
