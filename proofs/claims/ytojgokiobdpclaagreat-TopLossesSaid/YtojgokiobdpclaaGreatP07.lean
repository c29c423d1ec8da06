import Derived.Test.YtojgokiobdpclaaGreatP06
import Derived.Deep.CutRange
import Derived.Deep.CutBlock
import Derived.Deep.DeepCutAuto
import Derived.Deep.RegionHeld3
namespace Go.Proofs.YtojgokiobdpclaaGreat
set_option linter.unusedVariables false
set_option linter.unusedSimpArgs false
set_option maxRecDepth 8000
set_option maxHeartbeats 8000000
section
open Go.RowKit Go.Lib
def ws1F (s:WM) (t:Nat):WM:=⟨s.wd,s.t0,s.v0,s.t1,s.v1,s.t2,s.v2,max s.last t⟩
def ws2F (s:WM) (tl v:Nat):WM:=if s.v1≤v then all1F s tl v else if s.v2≤v then all2F s tl v else s
def ws3F (s:WM) (tl v:Nat):WM:=
 if wnearF tl s.t0 s.wd=false then(if wnearF tl (pushF s tl v).t0 s.wd=false then pushF (pushF s tl v) tl v else pushF s tl v)
 else if s.t1=s.t0∧wnearF tl s.t0 (s.wd / 4)=false then all1F s tl v
 else if s.t2=s.t1∧wnearF tl s.t0 (s.wd / 2)=false then all2F s tl v else s
theorem at_ad {w:World} {b:Nat} {t:TypeId} {cs:Array Value} (h:At w b t cs) (o:Obj):At (w.alloc o).drew b t cs:=(h.kept (World.grownBy_alloc w o none) (by simp)).drew
theorem gr_ad {w W:World} {row:Option Nat} (h:w.grownBy W row) (o:Obj):w.grownBy (W.alloc o).drew row:=(h.trans (World.grownBy_alloc _ _ _)).trans (by_drew _ _)
theorem wmupd_mx (b:Nat) (s:WM) (t tl v:Nat) (hs:s.ok) (htl:tl<18446744073709551616) (hm:max s.last t=tl) (hv:v<18446744073709551616) (hc1:v<s.v0) (hn1:wnearF tl s.t2 s.wd=true) (w:World) (h:At w b 252 (wmx s)):
  Calls Tryz.prog 205 #[.pointer (some ⟨b,0,none⟩), .int .u64 t, .int .u64 v] w fun e w'=>e= .returned (.int .u64 (ws3F (ws2F (ws1F s t) tl v) tl v).v0)∧Put w w' b 252 (wmx (ws3F (ws2F (ws1F s t) tl v) tl v)):=by
 have HN:Hid (∀(t st sv wd:Nat) (ht:t<18446744073709551616) (w:World),Calls Tryz.prog 217 #[.int .u64 t, .agg #[.int .u64 st, .int .u64 sv], .int .u64 wd] w fun e w'=>e= .returned (.bool (wnearF t st wd))∧w'=w.alloc (.cells #[.int .u64 st, .int .u64 sv] 249)):=zH wmnear_any;have C1:Hid (∀(s:WM) (w:World) (h:At w b 252 (wmx s)),Calls Tryz.prog 219 #[.pointer (some ⟨b,0,none⟩), .int .i64 1, .agg #[.int .u64 tl, .int .u64 v]] w fun e w'=>e= .returned (.tuple #[])∧Put w w' b 252 (wmx (all1F s tl v))):=zH (fun s w h=>wmall1_any b s tl v w h);have C2:Hid (∀(s:WM) (w:World) (h:At w b 252 (wmx s)),Calls Tryz.prog 219 #[.pointer (some ⟨b,0,none⟩), .int .i64 2, .agg #[.int .u64 tl, .int .u64 v]] w fun e w'=>e= .returned (.tuple #[])∧Put w w' b 252 (wmx (all2F s tl v))):=zH (fun s w h=>wmall2_any b s tl v w h);have CP:Hid (∀(s:WM) (w:World) (h:At w b 252 (wmx s)),Calls Tryz.prog 220 #[.pointer (some ⟨b,0,none⟩), .agg #[.int .u64 tl, .int .u64 v]] w fun e w'=>e= .returned (.tuple #[])∧Put w w' b 252 (wmx (pushF s tl v))):=zH (fun s w h=>wmpush_any b s tl v w h);have em:(if s.last<t then(t:Int)else(s.last:Int))=(tl:Int):=by split<;>omega
 have e1:ws1F s t=⟨s.wd,s.t0,s.v0,s.t1,s.v1,s.t2,s.v2,tl⟩:=by rw[ws1F,hm]
 rw[e1];have h1:w.cell? ⟨b,1,none⟩=some (.int .u64 s.t0):=h.cell 1;have h0:w.cell? ⟨b,0,none⟩=some (.int .u64 s.wd):=h.cell 0;have h2:w.cell? ⟨b,2,none⟩=some (.int .u64 s.v0):=h.cell 2;have h3:w.cell? ⟨b,3,none⟩=some (.int .u64 s.t1):=h.cell 3;have h4:w.cell? ⟨b,4,none⟩=some (.int .u64 s.v1):=h.cell 4;have h5:w.cell? ⟨b,5,none⟩=some (.int .u64 s.t2):=h.cell 5;have h6:w.cell? ⟨b,6,none⟩=some (.int .u64 s.v2):=h.cell 6;have h7:w.cell? ⟨b,7,none⟩=some (.int .u64 s.last):=h.cell 7;have f7:=h.free 7;have hblt:=h.lt;have HA:=zH h;have hc1':decide (s.v0≤v)=false:=by simpa using hc1
 obtain⟨s2,hs2⟩: ∃ x,ws2F ⟨s.wd,s.t0,s.v0,s.t1,s.v1,s.t2,s.v2,tl⟩ tl v=x:=⟨_,rfl⟩;rw[hs2];have hwd:s2.wd<18446744073709551616:=by
  have:s2.wd=s.wd:=by rw[←hs2];unfold ws2F;split;rfl;split<;>rfl
  rw[this];exact hs.1
 obtain⟨s3,hs3⟩: ∃ x,ws3F s2 tl v=x:=⟨_,rfl⟩;rw[hs3];have hs2:=zH hs2;have hs3:=zH hs3;clear h e1 hc1
 ·go_enter Tryz.func205,Tryz.ntmps205
  go_wp2_with fail
  go_step3
  go_upto_region 3 with fail
  refine wp_region_lit ?_;iterate 10 (refine wpList_plain rfl fun K hK=> ?_;go_simp;refine hK _ _ ?_;clear hK K)
  refine wpList_nil ?_;clear em hm;go_wp2_with fail
  obtain⟨n,eh⟩: ∃ m,w.heap.size=m:=⟨_,rfl⟩;have P0:=(((Put.same HA.out).s 7 (.int .u64 tl)).a (.cells #[.int .u64 tl, .int .u64 v] 249));have M0:=At.made (w.setCell ⟨b,7,none⟩ (.int .u64 tl)) 249 #[.int .u64 tl, .int .u64 v];rw[show(w.setCell ⟨b,7,none⟩ (.int .u64 tl)).heap.size=n from by simp[World.setCell,eh]]at M0;simp only[eh];rw[eh]at hblt;refine wp_name (fun W=>At W b 252 (wmx ⟨s.wd,s.t0,s.v0,s.t1,s.v1,s.t2,s.v2,tl⟩)∧At W n 249 #[.int .u64 tl, .int .u64 v]∧w.grownBy W (some b)) ⟨P0.1,M0,P0.2⟩ ?_;rintro W ⟨Aa,Ba,Ga⟩;clear P0 M0 h0 h1 h2 h3 h4 h5 h6 h7 f7;have ca0:W.cell? ⟨b,0,none⟩=some (.int .u64 s.wd):=Aa.cell 0;have ca1:W.cell? ⟨b,1,none⟩=some (.int .u64 s.t0):=Aa.cell 1;have ca2:W.cell? ⟨b,2,none⟩=some (.int .u64 s.v0):=Aa.cell 2;have ca3:W.cell? ⟨b,3,none⟩=some (.int .u64 s.t1):=Aa.cell 3;have ca4:W.cell? ⟨b,4,none⟩=some (.int .u64 s.v1):=Aa.cell 4;have ca5:W.cell? ⟨b,5,none⟩=some (.int .u64 s.t2):=Aa.cell 5;have ca6:W.cell? ⟨b,6,none⟩=some (.int .u64 s.v2):=Aa.cell 6;have ca7:W.cell? ⟨b,7,none⟩=some (.int .u64 tl):=Aa.cell 7;have da0:W.cell? ⟨n,0,none⟩=some (.int .u64 tl):=Ba.cell 0;have da1:W.cell? ⟨n,1,none⟩=some (.int .u64 v):=Ba.cell 1;have Aa:=zH Aa;have Ba:=zH Ba;have Ga:=zH Ga;go_still_tail 20,(by kernel_rfl)
  go_wp2_with fail
  refine(HN.out _ _ _ _ htl _).mono ?_;rintro e w' ⟨rfl,rfl⟩;rw[hn1];go_wp2_with fail
  go_step3
  go_upto_block 0 with fail
  go_cut [] (fun wx=>At wx b 252 (wmx s2)∧At wx n 249 #[.int .u64 tl, .int .u64 v]∧w.grownBy wx (some b))
  case first=>
   go_wp2_with fail
   refine wp_name (fun W=>At W b 252 (wmx ⟨s.wd,s.t0,s.v0,s.t1,s.v1,s.t2,s.v2,tl⟩)∧At W n 249 #[.int .u64 tl, .int .u64 v]∧w.grownBy W (some b)) ⟨at_ad Aa.out _,at_ad Ba.out _,gr_ad Ga.out _⟩ ?_;rintro W1 ⟨Ab,Bb,Gb⟩;have cb0:W1.cell? ⟨b,0,none⟩=some (.int .u64 s.wd):=Ab.cell 0;have cb1:W1.cell? ⟨b,1,none⟩=some (.int .u64 s.t0):=Ab.cell 1;have cb2:W1.cell? ⟨b,2,none⟩=some (.int .u64 s.v0):=Ab.cell 2;have cb3:W1.cell? ⟨b,3,none⟩=some (.int .u64 s.t1):=Ab.cell 3;have cb4:W1.cell? ⟨b,4,none⟩=some (.int .u64 s.v1):=Ab.cell 4;have cb5:W1.cell? ⟨b,5,none⟩=some (.int .u64 s.t2):=Ab.cell 5;have cb6:W1.cell? ⟨b,6,none⟩=some (.int .u64 s.v2):=Ab.cell 6;have cb7:W1.cell? ⟨b,7,none⟩=some (.int .u64 tl):=Ab.cell 7;have db0:W1.cell? ⟨n,0,none⟩=some (.int .u64 tl):=Bb.cell 0;have db1:W1.cell? ⟨n,1,none⟩=some (.int .u64 v):=Bb.cell 1;have Ab:=zH Ab;have Bb:=zH Bb;have Gb:=zH Gb;clear ca0 ca1 ca2 ca3 ca4 ca5 ca6 ca7 da0 da1 Aa Ba Ga;refine wp_loop_rounds 4 ?_;by_cases q1:s.v1≤v
   ·have es:Hid (s2=all1F ⟨s.wd,s.t0,s.v0,s.t1,s.v1,s.t2,s.v2,tl⟩ tl v):=zH (hs2.out.symm.trans (if_pos q1))
    rw[rounds_succ];go_wp2_with fail
    rw[rounds_succ];go_wp2_with fail
    refine(C1.out _ _ Ab.out).mono ?_;rintro e w' ⟨rfl,P⟩;go_wp2_with fail
    go_meet
    exact⟨by rw[es.out];exact P.1,P.other Bb.out (by omega),Gb.out.trans P.2⟩
   ·by_cases q2:s.v2≤v
    ·have es:Hid (s2=all2F ⟨s.wd,s.t0,s.v0,s.t1,s.v1,s.t2,s.v2,tl⟩ tl v):=zH (hs2.out.symm.trans<|(if_neg q1).trans (if_pos q2))
     rw[rounds_succ];go_wp2_with fail
     rw[rounds_succ];go_wp2_with fail
     rw[rounds_succ];go_wp2_with fail
     refine(C2.out _ _ Ab.out).mono ?_;rintro e w' ⟨rfl,P⟩;go_wp2_with fail
     go_meet
     exact⟨by rw[es.out];exact P.1,P.other Bb.out (by omega),Gb.out.trans P.2⟩
    ·have es:Hid (s2=⟨s.wd,s.t0,s.v0,s.t1,s.v1,s.t2,s.v2,tl⟩):=zH (hs2.out.symm.trans<|(if_neg q1).trans (if_neg q2))
     rw[rounds_succ];go_wp2_with fail
     rw[rounds_succ];go_wp2_with fail
     rw[rounds_succ];go_wp2_with fail
     rw[rounds_succ];go_wp2_with fail
     go_meet
     exact⟨by rw[es.out];exact Ab.out,Bb.out,Gb.out⟩
  case rest=>
   obtain⟨Ac,Bc,Gc⟩:=hcut;have cc0:wc.cell? ⟨b,0,none⟩=some (.int .u64 s2.wd):=Ac.cell 0;have cc1:wc.cell? ⟨b,1,none⟩=some (.int .u64 s2.t0):=Ac.cell 1;have cc2:wc.cell? ⟨b,2,none⟩=some (.int .u64 s2.v0):=Ac.cell 2;have cc3:wc.cell? ⟨b,3,none⟩=some (.int .u64 s2.t1):=Ac.cell 3;have cc4:wc.cell? ⟨b,4,none⟩=some (.int .u64 s2.v1):=Ac.cell 4;have cc5:wc.cell? ⟨b,5,none⟩=some (.int .u64 s2.t2):=Ac.cell 5;have cc6:wc.cell? ⟨b,6,none⟩=some (.int .u64 s2.v2):=Ac.cell 6;have cc7:wc.cell? ⟨b,7,none⟩=some (.int .u64 s2.last):=Ac.cell 7;have dc0:wc.cell? ⟨n,0,none⟩=some (.int .u64 tl):=Bc.cell 0;have dc1:wc.cell? ⟨n,1,none⟩=some (.int .u64 v):=Bc.cell 1;have Ac:=zH Ac;have Bc:=zH Bc;have Gc:=zH Gc;clear ca0 ca1 ca2 ca3 ca4 ca5 ca6 ca7 da0 da1 Aa Ba Ga hn1 hc1';go_wp2_with fail
   go_still_tail 11,(by kernel_rfl)
   go_wp2_with fail
   refine(HN.out _ _ _ _ htl _).mono ?_;rintro e w' ⟨rfl,rfl⟩;cases n2:wnearF tl s2.t0 s2.wd
   ·go_upto_region 15 with fail
    refine wp_name (fun W=>At W b 252 (wmx s2)∧At W n 249 #[.int .u64 tl, .int .u64 v]∧w.grownBy W (some b)) ⟨at_ad Ac.out _,at_ad Bc.out _,gr_ad Gc.out _⟩ ?_;rintro Wd ⟨Ad,Bd,Gd⟩;have cd0:Wd.cell? ⟨b,0,none⟩=some (.int .u64 s2.wd):=Ad.cell 0;have cd1:Wd.cell? ⟨b,1,none⟩=some (.int .u64 s2.t0):=Ad.cell 1;have cd2:Wd.cell? ⟨b,2,none⟩=some (.int .u64 s2.v0):=Ad.cell 2;have cd3:Wd.cell? ⟨b,3,none⟩=some (.int .u64 s2.t1):=Ad.cell 3;have cd4:Wd.cell? ⟨b,4,none⟩=some (.int .u64 s2.v1):=Ad.cell 4;have cd5:Wd.cell? ⟨b,5,none⟩=some (.int .u64 s2.t2):=Ad.cell 5;have cd6:Wd.cell? ⟨b,6,none⟩=some (.int .u64 s2.v2):=Ad.cell 6;have cd7:Wd.cell? ⟨b,7,none⟩=some (.int .u64 s2.last):=Ad.cell 7;have dd0:Wd.cell? ⟨n,0,none⟩=some (.int .u64 tl):=Bd.cell 0;have dd1:Wd.cell? ⟨n,1,none⟩=some (.int .u64 v):=Bd.cell 1;have Ad:=zH Ad;have Bd:=zH Bd;have Gd:=zH Gd;clear cc0 cc1 cc2 cc3 cc4 cc5 cc6 cc7 dc0 dc1 Ac Bc Gc;go_wp2_with fail
    refine(CP.out _ _ Ad.out).mono ?_;rintro e w2 ⟨rfl,P2⟩;go_upto_region 16 with fail
    refine wp_name (fun W=>At W b 252 (wmx (pushF s2 tl v))∧At W n 249 #[.int .u64 tl, .int .u64 v]∧w.grownBy W (some b)) ⟨P2.1,P2.other Bd.out (by omega),Gd.out.trans P2.2⟩ ?_;rintro We ⟨Ae,Be,Ge⟩;have ce0:We.cell? ⟨b,0,none⟩=some (.int .u64 s2.wd):=Ae.cell 0;have ce1:We.cell? ⟨b,1,none⟩=some (.int .u64 s2.t1):=Ae.cell 1;have ce2:We.cell? ⟨b,2,none⟩=some (.int .u64 s2.v1):=Ae.cell 2;have ce3:We.cell? ⟨b,3,none⟩=some (.int .u64 s2.t2):=Ae.cell 3;have ce4:We.cell? ⟨b,4,none⟩=some (.int .u64 s2.v2):=Ae.cell 4;have ce5:We.cell? ⟨b,5,none⟩=some (.int .u64 tl):=Ae.cell 5;have ce6:We.cell? ⟨b,6,none⟩=some (.int .u64 v):=Ae.cell 6;have ce7:We.cell? ⟨b,7,none⟩=some (.int .u64 s2.last):=Ae.cell 7;have de0:We.cell? ⟨n,0,none⟩=some (.int .u64 tl):=Be.cell 0;have de1:We.cell? ⟨n,1,none⟩=some (.int .u64 v):=Be.cell 1;have Ae:=zH Ae;have Be:=zH Be;have Ge:=zH Ge;clear cd0 cd1 cd2 cd3 cd4 cd5 cd6 cd7 dd0 dd1 Ad Bd Gd P2;go_still_tail 11,(by kernel_rfl)
    go_wp2_with fail
    refine(HN.out _ _ _ _ htl _).mono ?_;rintro e w' ⟨rfl,rfl⟩;cases n3:wnearF tl s2.t1 s2.wd
    ·go_upto_region 17 with fail
     refine wp_name (fun W=>At W b 252 (wmx (pushF s2 tl v))∧At W n 249 #[.int .u64 tl, .int .u64 v]∧w.grownBy W (some b)) ⟨at_ad Ae.out _,at_ad Be.out _,gr_ad Ge.out _⟩ ?_;rintro Wf ⟨Af,Bf,Gf⟩;have cf0:Wf.cell? ⟨b,0,none⟩=some (.int .u64 s2.wd):=Af.cell 0;have cf1:Wf.cell? ⟨b,1,none⟩=some (.int .u64 s2.t1):=Af.cell 1;have cf2:Wf.cell? ⟨b,2,none⟩=some (.int .u64 s2.v1):=Af.cell 2;have cf3:Wf.cell? ⟨b,3,none⟩=some (.int .u64 s2.t2):=Af.cell 3;have cf4:Wf.cell? ⟨b,4,none⟩=some (.int .u64 s2.v2):=Af.cell 4;have cf5:Wf.cell? ⟨b,5,none⟩=some (.int .u64 tl):=Af.cell 5;have cf6:Wf.cell? ⟨b,6,none⟩=some (.int .u64 v):=Af.cell 6;have cf7:Wf.cell? ⟨b,7,none⟩=some (.int .u64 s2.last):=Af.cell 7;have df0:Wf.cell? ⟨n,0,none⟩=some (.int .u64 tl):=Bf.cell 0;have df1:Wf.cell? ⟨n,1,none⟩=some (.int .u64 v):=Bf.cell 1;have Af:=zH Af;have Bf:=zH Bf;have Gf:=zH Gf;clear ce0 ce1 ce2 ce3 ce4 ce5 ce6 ce7 de0 de1 Ae Be Ge;go_wp2_with fail
     refine(CP.out _ _ Af.out).mono ?_;rintro e w4 ⟨rfl,P4⟩;have r1:w4.cell? ⟨b,2,none⟩=some (.int .u64 s2.v2):=P4.1.cell 2;go_wp2_with fail
     (try rw[Exit.noGoto_ret])
     go_ret
     rw[show s3=pushF (pushF s2 tl v) tl v from hs3.out.symm.trans ((if_pos n2).trans (if_pos n3))];exact And.intro rfl ⟨P4.1,Gf.out.trans P4.2⟩
    ·go_upto_region 22 with fail
     refine wp_name (fun W=>At W b 252 (wmx (pushF s2 tl v))∧At W n 249 #[.int .u64 tl, .int .u64 v]∧w.grownBy W (some b)) ⟨at_ad Ae.out _,at_ad Be.out _,gr_ad Ge.out _⟩ ?_;rintro Wf ⟨Af,Bf,Gf⟩;have cf0:Wf.cell? ⟨b,0,none⟩=some (.int .u64 s2.wd):=Af.cell 0;have cf1:Wf.cell? ⟨b,1,none⟩=some (.int .u64 s2.t1):=Af.cell 1;have cf2:Wf.cell? ⟨b,2,none⟩=some (.int .u64 s2.v1):=Af.cell 2;have cf3:Wf.cell? ⟨b,3,none⟩=some (.int .u64 s2.t2):=Af.cell 3;have cf4:Wf.cell? ⟨b,4,none⟩=some (.int .u64 s2.v2):=Af.cell 4;have cf5:Wf.cell? ⟨b,5,none⟩=some (.int .u64 tl):=Af.cell 5;have cf6:Wf.cell? ⟨b,6,none⟩=some (.int .u64 v):=Af.cell 6;have cf7:Wf.cell? ⟨b,7,none⟩=some (.int .u64 s2.last):=Af.cell 7;have df0:Wf.cell? ⟨n,0,none⟩=some (.int .u64 tl):=Bf.cell 0;have df1:Wf.cell? ⟨n,1,none⟩=some (.int .u64 v):=Bf.cell 1;have Af:=zH Af;have Bf:=zH Bf;have Gf:=zH Gf;clear ce0 ce1 ce2 ce3 ce4 ce5 ce6 ce7 de0 de1 Ae Be Ge;go_wp2_with fail
     (try rw[Exit.noGoto_ret])
     go_ret
     rw[show s3=pushF s2 tl v from hs3.out.symm.trans ((if_pos n2).trans (if_neg (by rw[show wnearF tl (pushF s2 tl v).t0 s2.wd=true from n3];simp)))];exact And.intro rfl ⟨Af.out,Gf.out⟩
   ·have n2': ¬ wnearF tl s2.t0 s2.wd=false:=by rw[n2];simp
    go_upto_region 18 with fail
    refine wp_name (fun W=>At W b 252 (wmx s2)∧At W n 249 #[.int .u64 tl, .int .u64 v]∧w.grownBy W (some b)) ⟨at_ad Ac.out _,at_ad Bc.out _,gr_ad Gc.out _⟩ ?_;rintro Wd ⟨Ad,Bd,Gd⟩;have cd0:Wd.cell? ⟨b,0,none⟩=some (.int .u64 s2.wd):=Ad.cell 0;have cd1:Wd.cell? ⟨b,1,none⟩=some (.int .u64 s2.t0):=Ad.cell 1;have cd2:Wd.cell? ⟨b,2,none⟩=some (.int .u64 s2.v0):=Ad.cell 2;have cd3:Wd.cell? ⟨b,3,none⟩=some (.int .u64 s2.t1):=Ad.cell 3;have cd4:Wd.cell? ⟨b,4,none⟩=some (.int .u64 s2.v1):=Ad.cell 4;have cd5:Wd.cell? ⟨b,5,none⟩=some (.int .u64 s2.t2):=Ad.cell 5;have cd6:Wd.cell? ⟨b,6,none⟩=some (.int .u64 s2.v2):=Ad.cell 6;have cd7:Wd.cell? ⟨b,7,none⟩=some (.int .u64 s2.last):=Ad.cell 7;have dd0:Wd.cell? ⟨n,0,none⟩=some (.int .u64 tl):=Bd.cell 0;have dd1:Wd.cell? ⟨n,1,none⟩=some (.int .u64 v):=Bd.cell 1;have Ad:=zH Ad;have Bd:=zH Bd;have Gd:=zH Gd;clear cc0 cc1 cc2 cc3 cc4 cc5 cc6 cc7 dc0 dc1 Ac Bc Gc;have n2:=zH n2;have n2':=zH n2';have HWD:=zH hwd;have HTL:=zH htl;have HNB:Hid (n≠b):=zH (by omega);by_cases k1:s2.t1=s2.t0
    ·obtain⟨q4,z0⟩: ∃ q,s2.wd / 4=q:=⟨_,rfl⟩
     have z1:(s2.wd:Int) / 4=(q4:Int):=by omega
     have z2:Int.tdiv (s2.wd:Int) 4=(q4:Int):=by rw[Int.tdiv_eq_ediv_of_nonneg (by omega)];exact z1
     have z3:IntKind.u64.wrap (q4:Int)=q4:=wrapu_of q4 (by omega);rw[k1]at cd3;have z0:=zH z0;replace k1:=zH k1;clear hwd htl hv hblt;go_still_tail 26,(by kernel_rfl)
     go_wp2_with fail
     refine(HN.out _ _ _ _ HTL.out _).mono ?_;rintro e w' ⟨rfl,rfl⟩;clear z1 z2 z3;cases n4:wnearF tl s2.t0 q4
     ·go_upto_region 19 with fail
      refine wp_name (fun W=>At W b 252 (wmx s2)∧At W n 249 #[.int .u64 tl, .int .u64 v]∧w.grownBy W (some b)) ⟨at_ad Ad.out _,at_ad Bd.out _,gr_ad Gd.out _⟩ ?_;rintro Wg ⟨Ag,Bg,Gg⟩;have cg0:Wg.cell? ⟨b,0,none⟩=some (.int .u64 s2.wd):=Ag.cell 0;have cg1:Wg.cell? ⟨b,1,none⟩=some (.int .u64 s2.t0):=Ag.cell 1;have cg2:Wg.cell? ⟨b,2,none⟩=some (.int .u64 s2.v0):=Ag.cell 2;have cg3:Wg.cell? ⟨b,3,none⟩=some (.int .u64 s2.t1):=Ag.cell 3;have cg4:Wg.cell? ⟨b,4,none⟩=some (.int .u64 s2.v1):=Ag.cell 4;have cg5:Wg.cell? ⟨b,5,none⟩=some (.int .u64 s2.t2):=Ag.cell 5;have cg6:Wg.cell? ⟨b,6,none⟩=some (.int .u64 s2.v2):=Ag.cell 6;have cg7:Wg.cell? ⟨b,7,none⟩=some (.int .u64 s2.last):=Ag.cell 7;have dg0:Wg.cell? ⟨n,0,none⟩=some (.int .u64 tl):=Bg.cell 0;have dg1:Wg.cell? ⟨n,1,none⟩=some (.int .u64 v):=Bg.cell 1;have Ag:=zH Ag;have Bg:=zH Bg;have Gg:=zH Gg;clear cd0 cd1 cd2 cd3 cd4 cd5 cd6 cd7 dd0 dd1 Ad Bd Gd;go_wp2_with fail
      refine(C1.out _ _ Ag.out).mono ?_;rintro e w4 ⟨rfl,P4⟩;have r1:w4.cell? ⟨b,2,none⟩=some (.int .u64 s2.v0):=P4.1.cell 2;go_wp2_with fail
      (try rw[Exit.noGoto_ret])
      go_ret
      rw[show s3=all1F s2 tl v from hs3.out.symm.trans ((if_neg n2'.out).trans (if_pos ⟨k1.out,by rw[z0.out];exact n4⟩))];exact And.intro rfl ⟨P4.1,Gg.out.trans P4.2⟩
     ·have hne:Hid (¬(s2.t1=s2.t0∧wnearF tl s2.t0 (s2.wd / 4)=false)):=zH (by rw[z0.out,n4];simp)
      clear n4;go_upto_region 20 with fail
      refine wp_name (fun W=>At W b 252 (wmx s2)∧At W n 249 #[.int .u64 tl, .int .u64 v]∧w.grownBy W (some b)) ⟨at_ad Ad.out _,at_ad Bd.out _,gr_ad Gd.out _⟩ ?_;rintro Wh ⟨Ah,Bh,Gh⟩;have ch0:Wh.cell? ⟨b,0,none⟩=some (.int .u64 s2.wd):=Ah.cell 0;have ch1:Wh.cell? ⟨b,1,none⟩=some (.int .u64 s2.t0):=Ah.cell 1;have ch2:Wh.cell? ⟨b,2,none⟩=some (.int .u64 s2.v0):=Ah.cell 2;have ch3:Wh.cell? ⟨b,3,none⟩=some (.int .u64 s2.t1):=Ah.cell 3;have ch4:Wh.cell? ⟨b,4,none⟩=some (.int .u64 s2.v1):=Ah.cell 4;have ch5:Wh.cell? ⟨b,5,none⟩=some (.int .u64 s2.t2):=Ah.cell 5;have ch6:Wh.cell? ⟨b,6,none⟩=some (.int .u64 s2.v2):=Ah.cell 6;have ch7:Wh.cell? ⟨b,7,none⟩=some (.int .u64 s2.last):=Ah.cell 7;have dh0:Wh.cell? ⟨n,0,none⟩=some (.int .u64 tl):=Bh.cell 0;have dh1:Wh.cell? ⟨n,1,none⟩=some (.int .u64 v):=Bh.cell 1;have Ah:=zH Ah;have Bh:=zH Bh;have Gh:=zH Gh;clear cd0 cd1 cd2 cd3 cd4 cd5 cd6 cd7 dd0 dd1 Ad Bd Gd;have k3q:True:=trivial;by_cases k3:s2.t2=s2.t1
      ·obtain⟨q2,z0⟩: ∃ q,s2.wd / 2=q:=⟨_,rfl⟩
       have hwd:=HWD.out;have z1:(s2.wd:Int) / 2=(q2:Int):=by omega
       have z2:Int.tdiv (s2.wd:Int) 2=(q2:Int):=by rw[Int.tdiv_eq_ediv_of_nonneg (by omega)];exact z1
       have z3:IntKind.u64.wrap (q2:Int)=q2:=wrapu_of q2 (by omega);rw[k3]at ch5;have z0:=zH z0;replace k3:=zH k3;clear hwd;go_still_tail 26,(by kernel_rfl)
       go_wp2_with fail
       refine(HN.out _ _ _ _ HTL.out _).mono ?_;rintro e w' ⟨rfl,rfl⟩;clear z1 z2 z3;cases n5:wnearF tl s2.t0 q2
       ·go_upto_region 21 with fail
        refine wp_name (fun W=>At W b 252 (wmx s2)∧At W n 249 #[.int .u64 tl, .int .u64 v]∧w.grownBy W (some b)) ⟨at_ad Ah.out _,at_ad Bh.out _,gr_ad Gh.out _⟩ ?_;rintro Wi ⟨Ai,Bi,Gi⟩;have ci0:Wi.cell? ⟨b,0,none⟩=some (.int .u64 s2.wd):=Ai.cell 0;have ci1:Wi.cell? ⟨b,1,none⟩=some (.int .u64 s2.t0):=Ai.cell 1;have ci2:Wi.cell? ⟨b,2,none⟩=some (.int .u64 s2.v0):=Ai.cell 2;have ci3:Wi.cell? ⟨b,3,none⟩=some (.int .u64 s2.t1):=Ai.cell 3;have ci4:Wi.cell? ⟨b,4,none⟩=some (.int .u64 s2.v1):=Ai.cell 4;have ci5:Wi.cell? ⟨b,5,none⟩=some (.int .u64 s2.t2):=Ai.cell 5;have ci6:Wi.cell? ⟨b,6,none⟩=some (.int .u64 s2.v2):=Ai.cell 6;have ci7:Wi.cell? ⟨b,7,none⟩=some (.int .u64 s2.last):=Ai.cell 7;have di0:Wi.cell? ⟨n,0,none⟩=some (.int .u64 tl):=Bi.cell 0;have di1:Wi.cell? ⟨n,1,none⟩=some (.int .u64 v):=Bi.cell 1;have Ai:=zH Ai;have Bi:=zH Bi;have Gi:=zH Gi;clear ch0 ch1 ch2 ch3 ch4 ch5 ch6 ch7 dh0 dh1 Ah Bh Gh;go_wp2_with fail
        refine(C2.out _ _ Ai.out).mono ?_;rintro e w4 ⟨rfl,P4⟩;have r1:w4.cell? ⟨b,2,none⟩=some (.int .u64 s2.v0):=P4.1.cell 2;go_wp2_with fail
        (try rw[Exit.noGoto_ret])
        go_ret
        rw[show s3=all2F s2 tl v from hs3.out.symm.trans ((if_neg n2'.out).trans ((if_neg hne.out).trans (if_pos ⟨k3.out,by rw[z0.out];exact n5⟩)))];exact And.intro rfl ⟨P4.1,Gi.out.trans P4.2⟩
       ·have hnf:Hid (¬(s2.t2=s2.t1∧wnearF tl s2.t0 (s2.wd / 2)=false)):=zH (by rw[z0.out,n5];simp)
        clear n5;go_upto_region 22 with fail
        refine wp_name (fun W=>At W b 252 (wmx s2)∧At W n 249 #[.int .u64 tl, .int .u64 v]∧w.grownBy W (some b)) ⟨at_ad Ah.out _,at_ad Bh.out _,gr_ad Gh.out _⟩ ?_;rintro Wi ⟨Ai,Bi,Gi⟩;have ci0:Wi.cell? ⟨b,0,none⟩=some (.int .u64 s2.wd):=Ai.cell 0;have ci1:Wi.cell? ⟨b,1,none⟩=some (.int .u64 s2.t0):=Ai.cell 1;have ci2:Wi.cell? ⟨b,2,none⟩=some (.int .u64 s2.v0):=Ai.cell 2;have ci3:Wi.cell? ⟨b,3,none⟩=some (.int .u64 s2.t1):=Ai.cell 3;have ci4:Wi.cell? ⟨b,4,none⟩=some (.int .u64 s2.v1):=Ai.cell 4;have ci5:Wi.cell? ⟨b,5,none⟩=some (.int .u64 s2.t2):=Ai.cell 5;have ci6:Wi.cell? ⟨b,6,none⟩=some (.int .u64 s2.v2):=Ai.cell 6;have ci7:Wi.cell? ⟨b,7,none⟩=some (.int .u64 s2.last):=Ai.cell 7;have di0:Wi.cell? ⟨n,0,none⟩=some (.int .u64 tl):=Bi.cell 0;have di1:Wi.cell? ⟨n,1,none⟩=some (.int .u64 v):=Bi.cell 1;have Ai:=zH Ai;have Bi:=zH Bi;have Gi:=zH Gi;clear ch0 ch1 ch2 ch3 ch4 ch5 ch6 ch7 dh0 dh1 Ah Bh Gh;go_wp2_with fail
        (try rw[Exit.noGoto_ret])
        go_ret
        rw[show s3=s2 from hs3.out.symm.trans ((if_neg n2'.out).trans ((if_neg hne.out).trans (if_neg hnf.out)))];exact And.intro rfl ⟨Ai.out,Gi.out⟩
      ·have k3':((s2.t2:Int)==(s2.t1:Int))=false:=by rw[beq_eq_false_iff_ne];omega
       have hnf:Hid (¬(s2.t2=s2.t1∧wnearF tl s2.t0 (s2.wd / 2)=false)):=zH (fun h=>k3 h.1);replace k3:=zH k3;clear ch0 ch1 ch2 ch4 ch6 ch7 dh0 dh1;refine wp_region_held_drew (S:=fun wq=>wq.cell? ⟨b,5,none⟩=some (.int .u64 s2.t2)∧wq.cell? ⟨b,3,none⟩=some (.int .u64 s2.t1)∧Hid (At wq b 252 (wmx s2)∧w.grownBy wq (some b))) (by kernel_rfl) ⟨ch5,ch3,zH ⟨Ah.out,Gh.out.trans (by_drew _ _)⟩⟩ (fun hHeld=> ?_);clear ch5 ch3 Ah Bh Gh;refine zt 0 ?_;refine zt 1 ?_;refine zt 2 ?_;refine zt 3 ?_;refine zt 4 ?_;refine zt 5 ?_;refine zt 6 ?_;refine zt 7 ?_;refine zt 8 ?_;refine zt 9 ?_;refine zt 10 ?_;refine zt 11 ?_;refine zt 12 ?_;refine zt 13 ?_;refine zn 14 ?_;refine zn 15 ?_;refine zn 16 ?_;refine zn 17 ?_;refine zn 18 ?_;refine zn 19 ?_;refine zn 20 ?_;refine zn 21 ?_;refine zn 22 ?_;refine zn 23 ?_;refine zn 24 ?_;refine zn 25 ?_;refine zn 26 ?_;refine zn 27 ?_;refine zt 28 ?_;refine zt 29 ?_;refine dnZ ?_;clear k3';obtain⟨Ai,Gi⟩:=hHeld.2.2.out;have r1:=Ai.cell 2;simp only[wmx,List.getElem?_toArray,List.getElem?_cons_zero,List.getElem?_cons_succ]at r1;go_wp2_with fail
       (try rw[Exit.noGoto_ret])
       go_ret
       rw[show s3=s2 from hs3.out.symm.trans ((if_neg n2'.out).trans ((if_neg hne.out).trans (if_neg hnf.out)))];exact And.intro rfl ⟨Ai,Gi⟩
    ·have k1':((s2.t1:Int)==(s2.t0:Int))=false:=by rw[beq_eq_false_iff_ne];omega
     have hne:Hid (¬(s2.t1=s2.t0∧wnearF tl s2.t0 (s2.wd / 4)=false)):=zH (fun h=>k1 h.1);replace k1:=zH k1;clear hwd htl hv hblt cd0 cd2 cd4 cd5 cd6 cd7 dd0 dd1;refine wp_region_held_drew (S:=fun wq=>wq.cell? ⟨b,3,none⟩=some (.int .u64 s2.t1)∧wq.cell? ⟨b,1,none⟩=some (.int .u64 s2.t0)∧Hid (At wq b 252 (wmx s2)∧At wq n 249 #[.int .u64 tl, .int .u64 v]∧w.grownBy wq (some b))) (by kernel_rfl) ⟨cd3,cd1,zH ⟨Ad.out,Bd.out,Gd.out.trans (by_drew _ _)⟩⟩ (fun hHeld=> ?_);clear cd3 cd1 Ad Bd Gd;refine zt 0 ?_;refine zt 1 ?_;refine zt 2 ?_;refine zt 3 ?_;refine zt 4 ?_;refine zt 5 ?_;refine zt 6 ?_;refine zt 7 ?_;refine zt 8 ?_;refine zt 9 ?_;refine zt 10 ?_;refine zt 11 ?_;refine zt 12 ?_;refine zt 13 ?_;refine zn 14 ?_;refine zn 15 ?_;refine zn 16 ?_;refine zn 17 ?_;refine zn 18 ?_;refine zn 19 ?_;refine zn 20 ?_;refine zn 21 ?_;refine zn 22 ?_;refine zn 23 ?_;refine zn 24 ?_;refine zn 25 ?_;refine zn 26 ?_;refine zn 27 ?_;refine zt 28 ?_;refine zt 29 ?_;refine dnZ ?_;clear k1';obtain⟨Ad,Bd,Gd⟩:=hHeld.2.2.out;go_upto_region 20 with fail
     refine wp_name (fun W=>At W b 252 (wmx s2)∧At W n 249 #[.int .u64 tl, .int .u64 v]∧w.grownBy W (some b)) ⟨Ad,Bd,Gd⟩ ?_;rintro Wh ⟨Ah,Bh,Gh⟩;have ch0:Wh.cell? ⟨b,0,none⟩=some (.int .u64 s2.wd):=Ah.cell 0;have ch1:Wh.cell? ⟨b,1,none⟩=some (.int .u64 s2.t0):=Ah.cell 1;have ch2:Wh.cell? ⟨b,2,none⟩=some (.int .u64 s2.v0):=Ah.cell 2;have ch3:Wh.cell? ⟨b,3,none⟩=some (.int .u64 s2.t1):=Ah.cell 3;have ch4:Wh.cell? ⟨b,4,none⟩=some (.int .u64 s2.v1):=Ah.cell 4;have ch5:Wh.cell? ⟨b,5,none⟩=some (.int .u64 s2.t2):=Ah.cell 5;have ch6:Wh.cell? ⟨b,6,none⟩=some (.int .u64 s2.v2):=Ah.cell 6;have ch7:Wh.cell? ⟨b,7,none⟩=some (.int .u64 s2.last):=Ah.cell 7;have dh0:Wh.cell? ⟨n,0,none⟩=some (.int .u64 tl):=Bh.cell 0;have dh1:Wh.cell? ⟨n,1,none⟩=some (.int .u64 v):=Bh.cell 1;have Ah:=zH Ah;have Bh:=zH Bh;have Gh:=zH Gh;clear hHeld;have k3q:True:=trivial;by_cases k3:s2.t2=s2.t1
     ·obtain⟨q2,z0⟩: ∃ q,s2.wd / 2=q:=⟨_,rfl⟩
      have hwd:=HWD.out;have z1:(s2.wd:Int) / 2=(q2:Int):=by omega
      have z2:Int.tdiv (s2.wd:Int) 2=(q2:Int):=by rw[Int.tdiv_eq_ediv_of_nonneg (by omega)];exact z1
      have z3:IntKind.u64.wrap (q2:Int)=q2:=wrapu_of q2 (by omega);rw[k3]at ch5;have z0:=zH z0;replace k3:=zH k3;clear hwd;go_still_tail 26,(by kernel_rfl)
      go_wp2_with fail
      refine(HN.out _ _ _ _ HTL.out _).mono ?_;rintro e w' ⟨rfl,rfl⟩;clear z1 z2 z3;cases n5:wnearF tl s2.t0 q2
      ·go_upto_region 21 with fail
       refine wp_name (fun W=>At W b 252 (wmx s2)∧At W n 249 #[.int .u64 tl, .int .u64 v]∧w.grownBy W (some b)) ⟨at_ad Ah.out _,at_ad Bh.out _,gr_ad Gh.out _⟩ ?_;rintro Wi ⟨Ai,Bi,Gi⟩;have ci0:Wi.cell? ⟨b,0,none⟩=some (.int .u64 s2.wd):=Ai.cell 0;have ci1:Wi.cell? ⟨b,1,none⟩=some (.int .u64 s2.t0):=Ai.cell 1;have ci2:Wi.cell? ⟨b,2,none⟩=some (.int .u64 s2.v0):=Ai.cell 2;have ci3:Wi.cell? ⟨b,3,none⟩=some (.int .u64 s2.t1):=Ai.cell 3;have ci4:Wi.cell? ⟨b,4,none⟩=some (.int .u64 s2.v1):=Ai.cell 4;have ci5:Wi.cell? ⟨b,5,none⟩=some (.int .u64 s2.t2):=Ai.cell 5;have ci6:Wi.cell? ⟨b,6,none⟩=some (.int .u64 s2.v2):=Ai.cell 6;have ci7:Wi.cell? ⟨b,7,none⟩=some (.int .u64 s2.last):=Ai.cell 7;have di0:Wi.cell? ⟨n,0,none⟩=some (.int .u64 tl):=Bi.cell 0;have di1:Wi.cell? ⟨n,1,none⟩=some (.int .u64 v):=Bi.cell 1;have Ai:=zH Ai;have Bi:=zH Bi;have Gi:=zH Gi;clear ch0 ch1 ch2 ch3 ch4 ch5 ch6 ch7 dh0 dh1 Ah Bh Gh;go_wp2_with fail
       refine(C2.out _ _ Ai.out).mono ?_;rintro e w4 ⟨rfl,P4⟩;have r1:w4.cell? ⟨b,2,none⟩=some (.int .u64 s2.v0):=P4.1.cell 2;go_wp2_with fail
       (try rw[Exit.noGoto_ret])
       go_ret
       rw[show s3=all2F s2 tl v from hs3.out.symm.trans ((if_neg n2'.out).trans ((if_neg hne.out).trans (if_pos ⟨k3.out,by rw[z0.out];exact n5⟩)))];exact And.intro rfl ⟨P4.1,Gi.out.trans P4.2⟩
      ·have hnf:Hid (¬(s2.t2=s2.t1∧wnearF tl s2.t0 (s2.wd / 2)=false)):=zH (by rw[z0.out,n5];simp)
       clear n5;go_upto_region 22 with fail
       refine wp_name (fun W=>At W b 252 (wmx s2)∧At W n 249 #[.int .u64 tl, .int .u64 v]∧w.grownBy W (some b)) ⟨at_ad Ah.out _,at_ad Bh.out _,gr_ad Gh.out _⟩ ?_;rintro Wi ⟨Ai,Bi,Gi⟩;have ci0:Wi.cell? ⟨b,0,none⟩=some (.int .u64 s2.wd):=Ai.cell 0;have ci1:Wi.cell? ⟨b,1,none⟩=some (.int .u64 s2.t0):=Ai.cell 1;have ci2:Wi.cell? ⟨b,2,none⟩=some (.int .u64 s2.v0):=Ai.cell 2;have ci3:Wi.cell? ⟨b,3,none⟩=some (.int .u64 s2.t1):=Ai.cell 3;have ci4:Wi.cell? ⟨b,4,none⟩=some (.int .u64 s2.v1):=Ai.cell 4;have ci5:Wi.cell? ⟨b,5,none⟩=some (.int .u64 s2.t2):=Ai.cell 5;have ci6:Wi.cell? ⟨b,6,none⟩=some (.int .u64 s2.v2):=Ai.cell 6;have ci7:Wi.cell? ⟨b,7,none⟩=some (.int .u64 s2.last):=Ai.cell 7;have di0:Wi.cell? ⟨n,0,none⟩=some (.int .u64 tl):=Bi.cell 0;have di1:Wi.cell? ⟨n,1,none⟩=some (.int .u64 v):=Bi.cell 1;have Ai:=zH Ai;have Bi:=zH Bi;have Gi:=zH Gi;clear ch0 ch1 ch2 ch3 ch4 ch5 ch6 ch7 dh0 dh1 Ah Bh Gh;go_wp2_with fail
       (try rw[Exit.noGoto_ret])
       go_ret
       rw[show s3=s2 from hs3.out.symm.trans ((if_neg n2'.out).trans ((if_neg hne.out).trans (if_neg hnf.out)))];exact And.intro rfl ⟨Ai.out,Gi.out⟩
     ·have k3':((s2.t2:Int)==(s2.t1:Int))=false:=by rw[beq_eq_false_iff_ne];omega
      have hnf:Hid (¬(s2.t2=s2.t1∧wnearF tl s2.t0 (s2.wd / 2)=false)):=zH (fun h=>k3 h.1);replace k3:=zH k3;clear ch0 ch1 ch2 ch4 ch6 ch7 dh0 dh1;refine wp_region_held_drew (S:=fun wq=>wq.cell? ⟨b,5,none⟩=some (.int .u64 s2.t2)∧wq.cell? ⟨b,3,none⟩=some (.int .u64 s2.t1)∧Hid (At wq b 252 (wmx s2)∧w.grownBy wq (some b))) (by kernel_rfl) ⟨ch5,ch3,zH ⟨Ah.out,Gh.out.trans (by_drew _ _)⟩⟩ (fun hHeld=> ?_);clear ch5 ch3 Ah Bh Gh;refine zt 0 ?_;refine zt 1 ?_;refine zt 2 ?_;refine zt 3 ?_;refine zt 4 ?_;refine zt 5 ?_;refine zt 6 ?_;refine zt 7 ?_;refine zt 8 ?_;refine zt 9 ?_;refine zt 10 ?_;refine zt 11 ?_;refine zt 12 ?_;refine zt 13 ?_;refine zn 14 ?_;refine zn 15 ?_;refine zn 16 ?_;refine zn 17 ?_;refine zn 18 ?_;refine zn 19 ?_;refine zn 20 ?_;refine zn 21 ?_;refine zn 22 ?_;refine zn 23 ?_;refine zn 24 ?_;refine zn 25 ?_;refine zn 26 ?_;refine zn 27 ?_;refine zt 28 ?_;refine zt 29 ?_;refine dnZ ?_;clear k3';obtain⟨Ai,Gi⟩:=hHeld.2.2.out;have r1:=Ai.cell 2;simp only[wmx,List.getElem?_toArray,List.getElem?_cons_zero,List.getElem?_cons_succ]at r1;go_wp2_with fail
      (try rw[Exit.noGoto_ret])
      go_ret
      rw[show s3=s2 from hs3.out.symm.trans ((if_neg n2'.out).trans ((if_neg hne.out).trans (if_neg hnf.out)))];exact And.intro rfl ⟨Ai,Gi⟩
end
end Go.Proofs.YtojgokiobdpclaaGreat
