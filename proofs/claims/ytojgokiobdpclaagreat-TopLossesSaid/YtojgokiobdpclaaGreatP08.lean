import Derived.Test.YtojgokiobdpclaaGreatP07
namespace Go.Proofs.YtojgokiobdpclaaGreat
set_option linter.unusedVariables false
set_option linter.unusedSimpArgs false
set_option maxRecDepth 8000
set_option maxHeartbeats 8000000
section
open Go.RowKit Go.Lib
theorem wmupd_far_mx (b:Nat) (s:WM) (t tl v:Nat) (hs:s.ok) (htl:tl<18446744073709551616) (hm:max s.last t=tl) (hv:v<18446744073709551616) (hc1:v<s.v0) (hn1:wnearF tl s.t2 s.wd=false) (w:World) (h:At w b 252 (wmx s)):
  Calls Tryz.prog 205 #[.pointer (some ⟨b,0,none⟩), .int .u64 t, .int .u64 v] w fun e w'=>e= .returned (.int .u64 v)∧Put w w' b 252 (wmx ⟨s.wd,tl,v,tl,v,tl,v,tl⟩):=by
 have HN:Hid (∀(t st sv wd:Nat) (ht:t<18446744073709551616) (w:World),Calls Tryz.prog 217 #[.int .u64 t, .agg #[.int .u64 st, .int .u64 sv], .int .u64 wd] w fun e w'=>e= .returned (.bool (wnearF t st wd))∧w'=w.alloc (.cells #[.int .u64 st, .int .u64 sv] 249)):=zH wmnear_any;have CR:Hid (∀(w:World) (h:At w b 252 (wmx ⟨s.wd,s.t0,s.v0,s.t1,s.v1,s.t2,s.v2,tl⟩)),Calls Tryz.prog 218 #[.pointer (some ⟨b,0,none⟩), .int .u64 tl, .int .u64 v] w fun e w'=>e= .returned (.tuple #[])∧Put w w' b 252 (wmx ⟨s.wd,tl,v,tl,v,tl,v,tl⟩)):=zH (fun w h=>by
  have:=wmreset_any b _ tl v w h;simp only[rsF,Nat.max_self]at this;exact this)
 have h7:=h.ce 7;have f7:=h.free 7;have hblt:=h.lt;have HA:=zH h;clear h;go_enter Tryz.func205,Tryz.ntmps205
 go_wp2_with fail
 go_step3
 have em:(if s.last<t then(t:Int)else(s.last:Int))=(tl:Int):=by split<;>omega
 clear hm;go_wp2_with fail
 clear em;obtain⟨n,eh⟩: ∃ m,w.heap.size=m:=⟨_,rfl⟩;have P0:=(((Put.same HA.out).s 7 (.int .u64 tl)).a (.cells #[.int .u64 tl, .int .u64 v] 249));have M0:=At.made (w.setCell ⟨b,7,none⟩ (.int .u64 tl)) 249 #[.int .u64 tl, .int .u64 v];rw[show(w.setCell ⟨b,7,none⟩ (.int .u64 tl)).heap.size=n from by simp[World.setCell,eh]]at M0;simp only[eh];rw[eh]at hblt;refine wp_name (fun W=>At W b 252 (wmx ⟨s.wd,s.t0,s.v0,s.t1,s.v1,s.t2,s.v2,tl⟩)∧At W n 249 #[.int .u64 tl, .int .u64 v]∧w.grownBy W (some b)) ⟨P0.1,M0,P0.2⟩ ?_;rintro W ⟨Aa,Ba,Ga⟩;clear P0 M0 h7 f7;have ca0:=Aa.ce 0;have ca2:=Aa.ce 2;have ca5:=Aa.ce 5;have ca6:=Aa.ce 6;have da0:=Ba.ce 0;have da1:=Ba.ce 1;replace Aa:=zH Aa;replace Ba:=zH Ba;replace Ga:=zH Ga;have hc1':decide (s.v0≤v)=false:=by simpa using hc1
 clear hc1 hs hblt hv;go_still_tail 20,(by kernel_rfl)
 go_wp2_with fail
 refine(HN.out _ _ _ _ htl _).mono ?_;rintro e w' ⟨rfl,rfl⟩;rw[hn1];go_upto_region 6 with fail
 refine wp_name (fun W=>At W b 252 (wmx ⟨s.wd,s.t0,s.v0,s.t1,s.v1,s.t2,s.v2,tl⟩)∧At W n 249 #[.int .u64 tl, .int .u64 v]∧w.grownBy W (some b)) ⟨at_ad Aa.out _,at_ad Ba.out _,gr_ad Ga.out _⟩ ?_;rintro Wb ⟨Ab,Bb,Gb⟩;have db0:=Bb.ce 0;replace Ab:=zH Ab;replace Bb:=zH Bb;replace Gb:=zH Gb;go_wp2_with fail
 refine(CR.out _ Ab.out).mono ?_;rintro e w2 ⟨rfl,P2⟩;go_wp2_with fail
 (try rw[Exit.noGoto_ret])
 go_ret
 exact And.intro rfl ⟨P2.1,Gb.out.trans P2.2⟩
theorem wmupd_big_mx (b:Nat) (s:WM) (t tl v:Nat) (hs:s.ok) (htl:tl<18446744073709551616) (hm:max s.last t=tl) (hv:v<18446744073709551616) (hc1:s.v0≤v) (w:World) (h:At w b 252 (wmx s)):
  Calls Tryz.prog 205 #[.pointer (some ⟨b,0,none⟩), .int .u64 t, .int .u64 v] w fun e w'=>e= .returned (.int .u64 v)∧Put w w' b 252 (wmx ⟨s.wd,tl,v,tl,v,tl,v,tl⟩):=by
 have HN:Hid (∀(t st sv wd:Nat) (ht:t<18446744073709551616) (w:World),Calls Tryz.prog 217 #[.int .u64 t, .agg #[.int .u64 st, .int .u64 sv], .int .u64 wd] w fun e w'=>e= .returned (.bool (wnearF t st wd))∧w'=w.alloc (.cells #[.int .u64 st, .int .u64 sv] 249)):=zH wmnear_any;have CR:Hid (∀(w:World) (h:At w b 252 (wmx ⟨s.wd,s.t0,s.v0,s.t1,s.v1,s.t2,s.v2,tl⟩)),Calls Tryz.prog 218 #[.pointer (some ⟨b,0,none⟩), .int .u64 tl, .int .u64 v] w fun e w'=>e= .returned (.tuple #[])∧Put w w' b 252 (wmx ⟨s.wd,tl,v,tl,v,tl,v,tl⟩)):=zH (fun w h=>by
  have:=wmreset_any b _ tl v w h;simp only[rsF,Nat.max_self]at this;exact this)
 have h7:=h.ce 7;have f7:=h.free 7;have hblt:=h.lt;have HA:=zH h;clear h;go_enter Tryz.func205,Tryz.ntmps205
 go_wp2_with fail
 go_step3
 have em:(if s.last<t then(t:Int)else(s.last:Int))=(tl:Int):=by split<;>omega
 clear hm;go_wp2_with fail
 clear em;obtain⟨n,eh⟩: ∃ m,w.heap.size=m:=⟨_,rfl⟩;have P0:=(((Put.same HA.out).s 7 (.int .u64 tl)).a (.cells #[.int .u64 tl, .int .u64 v] 249));have M0:=At.made (w.setCell ⟨b,7,none⟩ (.int .u64 tl)) 249 #[.int .u64 tl, .int .u64 v];rw[show(w.setCell ⟨b,7,none⟩ (.int .u64 tl)).heap.size=n from by simp[World.setCell,eh]]at M0;simp only[eh];rw[eh]at hblt;refine wp_name (fun W=>At W b 252 (wmx ⟨s.wd,s.t0,s.v0,s.t1,s.v1,s.t2,s.v2,tl⟩)∧At W n 249 #[.int .u64 tl, .int .u64 v]∧w.grownBy W (some b)) ⟨P0.1,M0,P0.2⟩ ?_;rintro W ⟨Aa,Ba,Ga⟩;clear P0 M0 h7 f7;have ca0:=Aa.ce 0;have ca2:=Aa.ce 2;have ca5:=Aa.ce 5;have ca6:=Aa.ce 6;have da0:=Ba.ce 0;have da1:=Ba.ce 1;replace Aa:=zH Aa;replace Ba:=zH Ba;replace Ga:=zH Ga;have hc1':decide (s.v0≤v)=true:=by simpa using hc1
 clear hs hblt hv htl ca0 ca5 ca6 da0 da1;refine wp_region_held_drew (S:=fun wq=>wq.cell? ⟨b,2,none⟩=some (.int .u64 s.v0)∧Hid (At wq b 252 (wmx ⟨s.wd,s.t0,s.v0,s.t1,s.v1,s.t2,s.v2,tl⟩)∧At wq n 249 #[.int .u64 tl, .int .u64 v]∧w.grownBy wq (some b))) (by kernel_rfl) ⟨ca2,zH ⟨Aa.out,Ba.out,Ga.out.trans (by_drew _ _)⟩⟩ (fun hHeld=> ?_);clear ca2 Aa Ba Ga;refine zt 0 ?_;refine zt 1 ?_;refine zt 2 ?_;refine zt 3 ?_;refine zt 4 ?_;refine zt 5 ?_;refine zt 6 ?_;refine zt 7 ?_;refine zt 8 ?_;refine zn 9 ?_;refine zn 10 ?_;refine zn 11 ?_;refine zn 12 ?_;refine zn 13 ?_;refine zn 14 ?_;refine zn 15 ?_;refine zn 16 ?_;refine zn 17 ?_;refine zn 18 ?_;refine zn 19 ?_;refine zn 20 ?_;refine zn 21 ?_;refine zt 22 ?_;refine dnZ ?_;go_upto_region 6 with fail
 refine wp_name (fun W=>At W b 252 (wmx ⟨s.wd,s.t0,s.v0,s.t1,s.v1,s.t2,s.v2,tl⟩)∧At W n 249 #[.int .u64 tl, .int .u64 v]∧w.grownBy W (some b)) ⟨hHeld.2.out.1,hHeld.2.out.2.1,hHeld.2.out.2.2⟩ ?_;rintro Wb ⟨Ab,Bb,Gb⟩;have db0:=Bb.ce 0;replace Ab:=zH Ab;replace Bb:=zH Bb;replace Gb:=zH Gb;go_wp2_with fail
 refine(CR.out _ Ab.out).mono ?_;rintro e w2 ⟨rfl,P2⟩;go_wp2_with fail
 (try rw[Exit.noGoto_ret])
 go_ret
 exact And.intro rfl ⟨P2.1,Gb.out.trans P2.2⟩
end
end Go.Proofs.YtojgokiobdpclaaGreat
