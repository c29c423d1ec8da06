import Derived.Test.YtojgokiobdpclaaGreatP08
import Derived.Test.YtojgokiobdpclaaGreatP10
import Derived.Test.YtojgokiobdpclaaGreatP12
import Derived.Test.YtojgokiobdpclaaGreatP13
import Derived.StillTailTactics
namespace Go.Proofs.YtojgokiobdpclaaGreat
set_option linter.unusedVariables false
set_option linter.unusedSimpArgs false
set_option maxRecDepth 8000
set_option maxHeartbeats 8000000
section
open Go.RowKit Go.Lib
def wmF (s:WM) (t v:Nat):WM:=
 if v<s.v0∧wnearF (max s.last t) s.t2 s.wd=true then ws3F (ws2F (ws1F s t) (max s.last t) v) (max s.last t) v
 else⟨s.wd,max s.last t,v,max s.last t,v,max s.last t,v,max s.last t⟩
theorem wmupd_any (b:Nat) (s:WM) (t v:Nat) (hs:s.ok) (ht:t<18446744073709551616) (hv:v<18446744073709551616) (w:World) (h:At w b 252 (wmx s)):
  Calls Tryz.prog 205 #[.pointer (some ⟨b,0,none⟩), .int .u64 t, .int .u64 v] w fun e w'=>e= .returned (.int .u64 (wmF s t v).v0)∧Put w w' b 252 (wmx (wmF s t v)):=by
 have hsl:=hs.2.2.2.2.2.2.2;unfold wmF;rcases Nat.lt_or_ge s.last t with hl | hl
 ·rw[Nat.max_eq_right (Nat.le_of_lt hl)]
  by_cases c:v<s.v0
  ·cases n:wnearF t s.t2 s.wd
   ·rw[if_neg (by simp)]
    exact wmupd_far_mx b s t t v hs ht (Nat.max_eq_right (Nat.le_of_lt hl)) hv c n w h
   ·rw[if_pos ⟨c,rfl⟩]
    exact wmupd_mx b s t t v hs ht (Nat.max_eq_right (Nat.le_of_lt hl)) hv c n w h
  ·rw[if_neg (fun h=>c h.1)]
   exact wmupd_big_mx b s t t v hs ht (Nat.max_eq_right (Nat.le_of_lt hl)) hv (by omega) w h
 ·rw[Nat.max_eq_left hl]
  by_cases c:v<s.v0
  ·cases n:wnearF s.last s.t2 s.wd
   ·rw[if_neg (by simp)]
    exact wmupd_far_mx b s t s.last v hs hsl (Nat.max_eq_left hl) hv c n w h
   ·rw[if_pos ⟨c,rfl⟩]
    exact wmupd_mx b s t s.last v hs hsl (Nat.max_eq_left hl) hv c n w h
  ·rw[if_neg (fun h=>c h.1)]
   exact wmupd_big_mx b s t s.last v hs hsl (Nat.max_eq_left hl) hv (by omega) w h
theorem push_ok {s:WM} {t v:Nat} (h:s.ok) (ht:t<18446744073709551616) (hv:v<18446744073709551616):(pushF s t v).ok:=by
 obtain⟨h0,h1,h2,h3,h4,h5,h6,h7⟩:=h;exact⟨h0,h3,h4,h5,h6,ht,hv,h7⟩
theorem all1_ok {s:WM} {t v:Nat} (h:s.ok) (ht:t<18446744073709551616) (hv:v<18446744073709551616):(all1F s t v).ok:=by
 obtain⟨h0,h1,h2,h3,h4,h5,h6,h7⟩:=h;exact⟨h0,h1,h2,ht,hv,ht,hv,h7⟩
theorem all2_ok {s:WM} {t v:Nat} (h:s.ok) (ht:t<18446744073709551616) (hv:v<18446744073709551616):(all2F s t v).ok:=by
 obtain⟨h0,h1,h2,h3,h4,h5,h6,h7⟩:=h;exact⟨h0,h1,h2,h3,h4,ht,hv,h7⟩
theorem wmF_ok {s:WM} {t v:Nat} (h:s.ok) (ht:t<18446744073709551616) (hv:v<18446744073709551616):(wmF s t v).ok:=by
 have hm:max s.last t<18446744073709551616:=by have:=h.2.2.2.2.2.2.2;omega
 have h1:(ws1F s t).ok:=by
  obtain⟨h0,h1,h2,h3,h4,h5,h6,h7⟩:=h;exact⟨h0,h1,h2,h3,h4,h5,h6,hm⟩
 have h2:(ws2F (ws1F s t) (max s.last t) v).ok:=by
  unfold ws2F;split
  ·exact all1_ok h1 hm hv
  ·split
   ·exact all2_ok h1 hm hv
   ·exact h1
 unfold wmF;split
 ·unfold ws3F
  split
  ·split
   ·exact push_ok (push_ok h2 hm hv) hm hv
   ·exact push_ok h2 hm hv
  ·split
   ·exact all1_ok h2 hm hv
   ·split
    ·exact all2_ok h2 hm hv
    ·exact h2
 ·exact⟨h.1,hm,hv,hm,hv,hm,hv,hm⟩
end
section
open Go.RowKit Go.Lib
theorem upd_any (b:Nat) (s:PS) (now rtt:Nat) (start:Bool) (flight floor:Nat) (hst:s.stamp<18446744073709551616) (hn:now<18446744073709551616) (w:World) (h:At w b 199 (prb s)):
  Calls Tryz.prog 210 #[.pointer (some ⟨b,0,none⟩), .int .u64 now, .int .u64 rtt, .bool start, .int .u64 flight, .int .u64 floor] w
   fun e w'=>e= .returned (.tuple #[.bool (updF s now rtt start flight floor).1, .bool (updF s now rtt start flight floor).2.1])∧Put w w' b 199 (prb (updF s now rtt start flight floor).2.2):=by
 obtain⟨best,stamp,inn,till,round⟩:=s;have hst':stamp<18446744073709551616:=hst;rcases Nat.eq_zero_or_pos best with hb | hb
 ·rcases Nat.eq_zero_or_pos rtt with hr | hr
  ·cases inn
   ·exact upd_b0_r0_false b best stamp till now rtt round start flight floor hst' hn hb hr w h
   ·exact upd_b0_r0_true b best stamp till now rtt round start flight floor hst' hn hb hr w h
  ·cases inn
   ·exact upd_b0_r1_false b best stamp till now rtt round start flight floor hst' hn hb hr w h
   ·exact upd_b0_r1_true b best stamp till now rtt round start flight floor hst' hn hb hr w h
 ·by_cases hx:satAdd stamp 10000000000<now
  ·rcases Nat.eq_zero_or_pos rtt with hr | hr
   ·cases inn
    ·exact upd_x_r0_false b best stamp till now rtt round start flight floor hst' hn hb hx hr w h
    ·exact upd_x_r0_true b best stamp till now rtt round start flight floor hst' hn hb hx hr w h
   ·by_cases hl:rtt≤best
    ·cases inn
     ·exact upd_x_rle_false b best stamp till now rtt round start flight floor hst' hn hb hx hr hl w h
     ·exact upd_x_rle_true b best stamp till now rtt round start flight floor hst' hn hb hx hr hl w h
    ·cases inn
     ·exact upd_x_rgt_false b best stamp till now rtt round start flight floor hst' hn hb hx hr hl w h
     ·exact upd_x_rgt_true b best stamp till now rtt round start flight floor hst' hn hb hx hr hl w h
  ·rcases Nat.eq_zero_or_pos rtt with hr | hr
   ·cases inn
    ·exact upd_n_r0_false b best stamp till now rtt round start flight floor hst' hn hb hx hr w h
    ·exact upd_n_r0_true b best stamp till now rtt round start flight floor hst' hn hb hx hr w h
   ·by_cases hl:rtt≤best
    ·cases inn
     ·exact upd_n_rle_false b best stamp till now rtt round start flight floor hst' hn hb hx hr hl w h
     ·exact upd_n_rle_true b best stamp till now rtt round start flight floor hst' hn hb hx hr hl w h
    ·cases inn
     ·exact upd_n_rgt_false b best stamp till now rtt round start flight floor hst' hn hb hx hr hl w h
     ·exact upd_n_rgt_true b best stamp till now rtt round start flight floor hst' hn hb hx hr hl w h
theorem pnew_any (w:World):
  Calls Tryz.prog 126 #[] w fun e w'=>e= .returned (.pointer (some ⟨w.heap.size,0,none⟩))∧w'=w.alloc (.cells (prb ⟨0,0,false,0,false⟩) 199):=by
 go_enter Tryz.func126,Tryz.ntmps126
 go_wp2;go_ret
 exact⟨rfl,rfl⟩
theorem best_any (b:Nat) (s:PS) (w:World) (h:At w b 199 (prb s)):
  Calls Tryz.prog 75 #[.pointer (some ⟨b,0,none⟩)] w fun e w'=>e= .returned (.int .u64 s.best)∧w=w':=by
 have h0:=h.ce 0;clear h;go_enter Tryz.func75,Tryz.ntmps75
 go_wp2;go_ret
 exact⟨rfl,rfl⟩
end
section
open Go.RowKit Go.Lib
def PL.inv (s:PL):Prop:=s.ok∧(s.use=true→s.n≤47)∧(s.use=false→s.samples=true→s.n≤16)
def pol0:PL:=⟨false,false,0,0,0,0,0,0⟩
theorem pol0_inv:pol0.inv:=⟨⟨by decide,by decide,by decide,by decide,by decide⟩,by simp[pol0],by simp[pol0]⟩
theorem endF_inv {s:PL} {x:SM} (h:s.ok) (hx:x.ok) (hu:s.use=false) (hn:s.n≤16):(endF s x).inv:=by
 have hB:=bwF_lt s x;unfold endF;split
 ·split
  ·refine⟨⟨?_,h.2.1,h.2.2.1,h.2.2.2.1,h.2.2.2.2⟩,fun _=>by simp,fun h=>by simp at h⟩
   have:=h.1;simp only
   omega
  ·exact⟨⟨hB,h.2.1,hx.1,hx.2.1,h.2.1⟩,fun h'=>by simp[beginF,hu]at h',fun _ _=>by simp[beginF]⟩
 ·exact⟨h,fun h'=>by simp[hu]at h',fun _ _=>hn⟩
theorem polF_inv {s:PL} {start:Bool} {x:SM} (h:s.inv) (hx:x.ok):(polF s start x).inv:=by
 obtain⟨h1,h2,h3⟩:=h;have ha:(addL s x).ok:=⟨h1.1,satAdd_lt,h1.2.2⟩;have hl:(leaveF (addL s x)).ok:=⟨by simp[leaveF],ha.2⟩;unfold polF;cases hu:s.use
 ·cases hm:s.samples
  ·simp only[if_neg,Bool.false_eq_true,not_false_eq_true]
   split
   ·exact⟨⟨h1.1,ha.2.1,hx.1,hx.2.1,ha.2.1⟩,fun h=>by simp[beginF,addL,hu]at h,fun _ _=>by simp[beginF]⟩
   ·exact⟨ha,fun h=>by simp[addL,hu]at h,fun _ h=>by simp[addL,hm]at h⟩
  ·have h3':=h3 hu hm
   simp only[if_neg,if_pos,Bool.false_eq_true,not_false_eq_true];split
   ·exact⟨hl,fun h=>by simp[leaveF]at h,fun _ h=>by simp[leaveF]at h⟩
   ·have hi:(incF (addL s x) start).ok:=by unfold incF;split<;>exact ha
    have hi2:(incF (addL s x) start).use=false:=by unfold incF;split<;>exact hu
    have hi3:(incF (addL s x) start).n=(incF s start).n:=by unfold incF;split<;>rfl
    split
    ·exact⟨⟨by simp[leaveF],hi.2⟩,fun h=>by simp[leaveF]at h,fun _ h=>by simp[leaveF]at h⟩
    ·rename_i hn
     split
     ·exact endF_inv hi hx hi2 (by omega)
     ·exact⟨hi,fun h=>by simp[hi2]at h,fun _ _=>by omega⟩
 ·have h2':=h2 hu
  simp only[if_pos];split
  ·split
   ·exact⟨hl,fun _=>by simp,fun _ _=>by simp⟩
   ·exact⟨ha,fun _=>by simp;omega,fun h=>by simp[addL,hu]at h⟩
  ·exact⟨ha,fun _=>h2',fun h=>by simp[addL,hu]at h⟩
theorem pupd_any (b:Nat) (s:PL) (start:Bool) (x:SM) (w:World) (h:At w b 247 (pol s)) (hi:s.inv) (hx:x.ok):
  Calls Tryz.prog 187 #[.pointer (some ⟨b,0,none⟩), .bool start,smp x] w fun e w'=>e= .returned (.tuple #[])∧Put w w' b 247 (pol (polF s start x)):=by
 obtain⟨hs,h2,h3⟩:=hi;cases hu:s.use
 ·cases hm:s.samples
  ·exact pupd_fresh b s start x w h hs hx hu hm
  ·have h3':=h3 hu hm
   have e0:polF s start x=(if x.limited then leaveF (addL s x)else if 16<(incF s start).n then leaveF (incF (addL s x) start)else if 4≤(incF s start).n∧0<x.lost then endF (incF (addL s x) start) x else incF (addL s x) start):=by
    unfold polF;rw[if_neg (by simp[hu]),if_pos hm]
   rw[e0];cases hl:x.limited
   ·rw[if_neg (by simp)]
    cases start
    ·have e1:(incF s false).n=s.n:=rfl
     have e2:incF (addL s x) false=addL s x:=rfl;rw[e1,e2];by_cases c1:16<s.n
     ·omega
     ·rw[if_neg c1]
      by_cases c2:4≤s.n∧0<x.lost
      ·rw[if_pos c2];exact pupd_end_f b s x w h hs hx hu hm hl ⟨c2.1,by omega⟩ c2.2
      ·rw[if_neg c2]
       by_cases c3:s.n<4
       ·exact pupd_low_f b s x w h hs hx hu hm hl c3
       ·exact pupd_few_f b s x w h hs hx hu hm hl ⟨by omega,by omega⟩ (by omega)
    ·have e1:(incF s true).n=s.n+1:=rfl
     have e2:incF (addL s x) true={ addL s x with n:=s.n+1 }:=rfl;rw[e1,e2];by_cases c1:16<s.n+1
     ·rw[if_pos c1];exact pupd_out_t b s x w h hs hx hu hm hl ⟨c1,by omega⟩
     ·rw[if_neg c1]
      by_cases c2:4≤s.n+1∧0<x.lost
      ·rw[if_pos c2];exact pupd_end_t b s x w h hs hx hu hm hl ⟨c2.1,by omega⟩ c2.2
      ·rw[if_neg c2]
       by_cases c3:s.n+1<4
       ·exact pupd_low_t b s x w h hs hx hu hm hl c3
       ·exact pupd_few_t b s x w h hs hx hu hm hl ⟨by omega,by omega⟩ (by omega)
   ·rw[if_pos rfl]
    exact pupd_lim b s x w h hs hx hu hm hl start
 ·have h2':=h2 hu
  have e0:polF s start x=(if start then(if s.n=47 then { leaveF (addL s x)with n:=0 }else { addL s x with n:=s.n+1 })else addL s x):=by
   unfold polF;rw[if_pos hu]
  rw[e0];cases start
  ·exact pupd_use0 b s x w h hs hx hu
  ·rw[if_pos rfl]
   by_cases c:s.n=47
   ·rw[if_pos c];exact pupd_use2 b s x w h hs hx hu c
   ·rw[if_neg c];exact pupd_use1 b s x w h hs hx hu (by omega)
theorem use_yes (b:Nat) (s:PL) (w:World) (h:At w b 247 (pol s)) (hu:s.use=true):
  Calls Tryz.prog 107 #[.pointer (some ⟨b,0,none⟩)] w fun e w'=>e= .returned (.tuple #[.int .u64 s.bw, .bool true])∧w=w':=by
 have h0:w.cell? ⟨b,0,none⟩=some (.bool true):=by rw[←hu];exact h.cell 0
 have h2:=h.ce 2;clear h hu;go_enter Tryz.func107,Tryz.ntmps107
 go_wp2;go_ret2
 exact⟨rfl,rfl⟩
theorem use_no (b:Nat) (s:PL) (w:World) (h:At w b 247 (pol s)) (hu:s.use=false):
  Calls Tryz.prog 107 #[.pointer (some ⟨b,0,none⟩)] w fun e w'=>e= .returned (.tuple #[.int .u64 0, .bool false])∧w=w':=by
 have h0:w.cell? ⟨b,0,none⟩=some (.bool false):=by rw[←hu];exact h.cell 0
 clear h hu;go_enter Tryz.func107,Tryz.ntmps107
 go_wp2;go_ret2
 exact⟨rfl,rfl⟩
theorem polnew_any (w:World):
  Calls Tryz.prog 127 #[] w fun e w'=>e= .returned (.pointer (some ⟨w.heap.size,0,none⟩))∧w'=w.alloc (.cells (pol pol0) 247):=by
 go_enter Tryz.func127,Tryz.ntmps127
 go_wp2;go_ret
 exact⟨rfl,rfl⟩
end
section
open Go.RowKit Go.Lib
structure BB where
 wm:WM
 rn:RN
 pp:QS
 cp:Nat
 cs:Nat
 pr:PS
 pl:PL
 mss:Nat
 mode:Nat
 rate:Nat
 cwnd:Nat
 was:Nat
 rcv:Bool
 csv:Bool
 upto:Nat
def bbc (B:Nat) (s:BB):Array Value:= #[.pointer (some ⟨B,0,none⟩), .pointer (some ⟨B+1,0,none⟩), .pointer (some ⟨B+2,0,none⟩), .pointer (some ⟨B+3,0,none⟩), .pointer (some ⟨B+4,0,none⟩), .pointer (some ⟨B+5,0,none⟩), .int .u64 s.mss, .int .i64 s.mode, .int .u64 s.rate, .int .u64 s.cwnd, .int .u64 s.was, .bool s.rcv, .bool s.csv, .int .u64 s.upto]
structure BbAt (w:World) (B:Nat) (s:BB):Prop where
 wm:At w B 252 (wmx s.wm)
 rn:At w (B+1) 201 (rnd s.rn)
 pp:At w (B+2) 205 (ppp s.pp)
 cy:At w (B+3) 203 (cyc s.cp s.cs)
 pr:At w (B+4) 199 (prb s.pr)
 pl:At w (B+5) 247 (pol s.pl)
 m:At w (B+6) 163 (bbc B s)
structure BB.ok (s:BB):Prop where
 wm:s.wm.ok
 rn:s.rn.ok
 pp:s.pp.ok
 cp:s.cp<8
 cs:s.cs<18446744073709551616
 pr:s.pr.best<18446744073709551616∧s.pr.stamp<18446744073709551616
 pl:s.pl.inv
 mss:100≤s.mss∧s.mss≤9000
 mode:s.mode<4
 rate:s.rate<18446744073709551616
 cwnd:s.cwnd<18446744073709551616
 was:s.was<18446744073709551616
 upto:s.upto<18446744073709551616
structure Bbd (B:Nat) (w w':World):Prop where
 os:w'.os=w.os
 tape:w'.tape=w.tape
 output:w'.output=w.output
 size:w.heap.size≤w'.heap.size
 block: ∀ k,k<w.heap.size→(k<B∨B+6<k)→w'.heap[k]? =w.heap[k]?
section
variable {B:Nat} {w w' w'':World} {s:BB}
theorem Bbd.refl (B:Nat) (w:World):Bbd B w w:=⟨rfl,rfl,rfl,Nat.le_refl _,fun _ _ _=>rfl⟩
theorem Bbd.trans (h:Bbd B w w') (h2:Bbd B w' w''):Bbd B w w'':=
 ⟨h2.os.trans h.os,h2.tape.trans h.tape,h2.output.trans h.output,Nat.le_trans h.size h2.size,fun k hk hb=>(h2.block k (Nat.lt_of_lt_of_le hk h.size) hb).trans (h.block k hk hb)⟩
theorem Bbd.below (h:Bbd B w w') (hb:Below w'.heap.size w' w''):Bbd B w w'':=
 ⟨hb.os.trans h.os,hb.tape.trans h.tape,hb.output.trans h.output,Nat.le_trans h.size hb.size,fun k hk hk2=>(hb.block k (Nat.lt_of_lt_of_le hk h.size)).trans (h.block k hk hk2)⟩
theorem Bbd.by (h:Bbd B w w') {b:Nat} (g:w'.grownBy w'' (some b)) (h1:B≤b) (h2:b≤B+6):Bbd B w w'':=
 ⟨g.os.trans h.os,g.tape.trans h.tape,g.output.trans h.output,Nat.le_trans h.size g.size,fun k hk hk2=>(g.block k (Nat.lt_of_lt_of_le hk h.size) (by simp;omega)).trans (h.block k hk hk2)⟩
theorem BbAt.below (h:BbAt w B s) (hb:Below w.heap.size w w'):BbAt w' B s:=
 ⟨h.wm.below hb h.wm.lt,h.rn.below hb h.rn.lt,h.pp.below hb h.pp.lt,h.cy.below hb h.cy.lt,h.pr.below hb h.pr.lt,h.pl.below hb h.pl.lt,h.m.below hb h.m.lt⟩
theorem BbAt.drn (h:BbAt w B s) (d:Drn w w'):BbAt w' B s:=h.below d.below
end
def BB.bw (s:BB):Nat:=if s.pl.use=true then s.pl.bw else s.wm.v0
theorem BB.bw_lt {s:BB} (h:s.ok):s.bw<18446744073709551616:=by
 unfold BB.bw;split
 ·exact h.pl.1.1
 ·exact h.wm.2.2.1
theorem bbw_any (B:Nat) (s:BB) (w:World) (h:BbAt w B s):
  Calls Tryz.prog 74 #[.pointer (some ⟨B+6,0,none⟩)] w fun e w'=>e= .returned (.int .u64 s.bw)∧w=w':=by
 have h5:=h.m.ce 5;have h0:=h.m.ce 0;unfold BB.bw;cases hu:s.pl.use
 ·have C:Hid (∀ w',w=w'→Calls Tryz.prog 107 #[.pointer (some ⟨B+5,0,none⟩)] w' fun e w''=>e= .returned (.tuple #[.int .u64 0, .bool false])∧w'=w''):=zH (fun w' e=>e▸use_no _ _ w h.pl hu)
  have D:Hid (∀ w',w=w'→Calls Tryz.prog 108 #[.pointer (some ⟨B,0,none⟩)] w' fun e w''=>e= .returned (.int .u64 s.wm.v0)∧w'=w''):=zH (fun w' e=>e▸wmbest_any _ _ w h.wm);clear h hu;go_enter Tryz.func74,Tryz.ntmps74
  go_wp2_with fail
  refine(C.out _ rfl).mono ?_;rintro e w' ⟨rfl,rfl⟩;go_wp2_with fail
  refine(D.out _ rfl).mono ?_;rintro e w' ⟨rfl,rfl⟩;go_wp2_with fail
  go_ret
  exact⟨rfl,rfl⟩
 ·have C:Hid (∀ w',w=w'→Calls Tryz.prog 107 #[.pointer (some ⟨B+5,0,none⟩)] w' fun e w''=>e= .returned (.tuple #[.int .u64 s.pl.bw, .bool true])∧w'=w''):=zH (fun w' e=>e▸use_yes _ _ w h.pl hu)
  clear h hu;go_enter Tryz.func74,Tryz.ntmps74
  go_wp2_with fail
  refine(C.out _ rfl).mono ?_;rintro e w' ⟨rfl,rfl⟩;go_wp2_with fail
  go_ret
  exact⟨rfl,rfl⟩
theorem bpol_any (B:Nat) (s:BB) (w:World) (h:BbAt w B s):
  Calls Tryz.prog 80 #[.pointer (some ⟨B+6,0,none⟩)] w fun e w'=>e= .returned (.bool s.pl.use)∧w=w':=by
 have h5:=h.m.ce 5;cases hu:s.pl.use
 ·have C:Hid (∀ w',w=w'→Calls Tryz.prog 107 #[.pointer (some ⟨B+5,0,none⟩)] w' fun e w''=>e= .returned (.tuple #[.int .u64 0, .bool false])∧w'=w''):=zH (fun w' e=>e▸use_no _ _ w h.pl hu)
  clear h hu;go_enter Tryz.func80,Tryz.ntmps80
  go_wp2_with fail
  refine(C.out _ rfl).mono ?_;rintro e w' ⟨rfl,rfl⟩;go_wp2_with fail
  go_ret
  exact⟨rfl,rfl⟩
 ·have C:Hid (∀ w',w=w'→Calls Tryz.prog 107 #[.pointer (some ⟨B+5,0,none⟩)] w' fun e w''=>e= .returned (.tuple #[.int .u64 s.pl.bw, .bool true])∧w'=w''):=zH (fun w' e=>e▸use_yes _ _ w h.pl hu)
  clear h hu;go_enter Tryz.func80,Tryz.ntmps80
  go_wp2_with fail
  refine(C.out _ rfl).mono ?_;rintro e w' ⟨rfl,rfl⟩;go_wp2_with fail
  go_ret
  exact⟨rfl,rfl⟩
theorem bfloor_any (B:Nat) (s:BB) (hs:s.ok) (w:World) (h:BbAt w B s):
  Calls Tryz.prog 211 #[.pointer (some ⟨B+6,0,none⟩)] w fun e w'=>e= .returned (.int .u64 ((4*s.mss:Nat):Int))∧w=w':=by
 have h6:=h.m.ce 6;obtain⟨m1,m2⟩:=hs.mss;have ew:IntKind.u64.wrap (4*(s.mss:Int))=((4*s.mss:Nat):Int):=by
  rw[show 4*(s.mss:Int)=((4*s.mss:Nat):Int)from by omega];exact wrapu_of _ (by omega)
 obtain⟨m,hm⟩: ∃ m,4*s.mss=m:=⟨_,rfl⟩;rw[hm]at ew ⊢;clear h hs m1 m2 hm;go_enter Tryz.func211,Tryz.ntmps211
 go_wp2_with fail
 go_ret
 exact⟨by simp,rfl⟩
end
section
open Go.RowKit Go.Lib
theorem still0 {P:Program} {f:FuncId} {args:Array Value} {w:World} {v:Value} (h:Calls P f args w fun e w'=>e= .returned v∧w=w'):Calls P f args w fun e w'=>e= .returned v∧w'=w:=
 h.mono fun _ _ ⟨h1,h2⟩=>⟨h1,h2.symm⟩
def BB.bdp (s:BB) (g:Nat):Nat:=Go.Proofs.YtojgokiobdpclaaGreat.bdp s.bw s.pr.best g
theorem bbdp_any (B:Nat) (s:BB) (hs:s.ok) (g:Nat) (hg:g<18446744073709551616) (w:World) (h:BbAt w B s):
  Calls Tryz.prog 190 #[.pointer (some ⟨B+6,0,none⟩), .int .u64 g] w fun e w'=>e= .returned (.int .u64 (s.bdp g))∧Below w.heap.size w w':=by
 have CB:=zH (bbw_any B s w.drew (h.drn ⟨1,rfl⟩));have CP:=zH (best_any (B+4) s.pr w.drew (h.drn ⟨1,rfl⟩).pr);have CD:=zH (fun w'=>bdp_any s.bw s.pr.best g (BB.bw_lt hs) hs.pr.1 hg w');have h4:=h.m.ce 4;obtain⟨r,hr⟩: ∃ r,s.bdp g=r:=⟨_,rfl⟩;rw[show Go.Proofs.YtojgokiobdpclaaGreat.bdp s.bw s.pr.best g=r from hr]at CD;rw[hr];clear h hs hg hr;go_enter Tryz.func190,Tryz.ntmps190
 go_wp2_with fail
 refine wp_region_still_tail 8 (by kernel_rfl) (by kernel_rfl) ?_;simp only[List.take_succ_cons,List.take_zero,List.drop_succ_cons,List.drop_zero];still_step
 still_call (still0 CB.out)
 iterate 4 still_step
 still_call (still0 CP.out)
 still_step
 try refine wpStill_nil ?_
 change wpList _ _ _ _ _ w.drew
 go_wp2_with fail
 refine(CD.out _).mono ?_;rintro e w1 ⟨rfl,hB⟩;go_wp2_with fail
 go_ret
 exact⟨rfl,(Below.refl _ w).drew.trans (hB.mono (Nat.le_refl _))⟩
def BB.gain (s:BB):Nat:=if s.mode=0 then 739 else if s.mode=1 then 88 else if s.mode=2∧s.pl.use=false then gainOf s.cp else 256
theorem bgain_any (B:Nat) (s:BB) (w:World) (h:BbAt w B s):
  Calls Tryz.prog 76 #[.pointer (some ⟨B+6,0,none⟩)] w fun e w'=>e= .returned (.int .u64 s.gain)∧w=w':=by
 have CU:=zH (bpol_any B s w h);have CG:=zH (gain_any (B+3) s.cp s.cs w h.cy);have h7:=h.m.ce 7;have h3:=h.m.ce 3;unfold BB.gain;obtain⟨md,hmd⟩: ∃ m,s.mode=m:=⟨_,rfl⟩;rw[hmd]at h7 ⊢;clear h hmd;by_cases h0:md=0
 ·subst h0
  go_enter Tryz.func76,Tryz.ntmps76
  go_wp2_with fail
  go_ret
  exact⟨rfl,rfl⟩
 ·by_cases h1:md=1
  ·subst h1
   go_enter Tryz.func76,Tryz.ntmps76
   go_wp2_with fail
   go_ret
   exact⟨rfl,rfl⟩
  ·have e0:((md:Int)==0)=false:=by rw[beq_eq_false_iff_ne];omega
   have e1:((md:Int)==1)=false:=by rw[beq_eq_false_iff_ne];omega
   rw[if_neg h0,if_neg h1];clear h0 h1;by_cases h2:md=2
   ·subst h2
    cases hu:s.pl.use with
    | false=>
     rw[hu]at CU;rw[if_pos ⟨rfl,rfl⟩];go_enter Tryz.func76,Tryz.ntmps76
     go_wp2_with fail
     refine CU.out.mono ?_;rintro e w1 ⟨rfl,rfl⟩;go_wp2_with fail
     refine CG.out.mono ?_;rintro e w1 ⟨rfl,rfl⟩;go_wp2_with fail
     go_ret
     exact⟨rfl,rfl⟩
    | true=>
     rw[hu]at CU;rw[if_neg (by simp)];go_enter Tryz.func76,Tryz.ntmps76
     go_wp2_with fail
     refine CU.out.mono ?_;rintro e w1 ⟨rfl,rfl⟩;go_wp2_with fail
     go_ret
     exact⟨rfl,rfl⟩
   ·have e2:((md:Int)==2)=false:=by rw[beq_eq_false_iff_ne];omega
    rw[if_neg (fun h=>h2 h.1)];clear h2;go_enter Tryz.func76,Tryz.ntmps76
    go_wp2_with fail
    go_ret
    exact⟨rfl,rfl⟩
def BB.wg (s:BB):Nat:=if s.mode=2 then 512 else if s.mode=3 then 256 else 739
theorem bwg_any (B:Nat) (s:BB) (w:World) (h:BbAt w B s):
  Calls Tryz.prog 214 #[.pointer (some ⟨B+6,0,none⟩)] w fun e w'=>e= .returned (.int .u64 s.wg)∧w=w':=by
 have h7:=h.m.ce 7;unfold BB.wg;obtain⟨md,hmd⟩: ∃ m,s.mode=m:=⟨_,rfl⟩;rw[hmd]at h7 ⊢;clear h hmd;by_cases h2:md=2
 ·subst h2
  go_enter Tryz.func214,Tryz.ntmps214
  go_wp2_with fail
  go_ret
  exact⟨rfl,rfl⟩
 ·by_cases h3:md=3
  ·subst h3
   go_enter Tryz.func214,Tryz.ntmps214
   go_wp2_with fail
   go_ret
   exact⟨rfl,rfl⟩
  ·have e2:((md:Int)==2)=false:=by rw[beq_eq_false_iff_ne];omega
   have e3:((md:Int)==3)=false:=by rw[beq_eq_false_iff_ne];omega
   rw[if_neg h2,if_neg h3];clear h2 h3;go_enter Tryz.func214,Tryz.ntmps214
   go_wp2_with fail
   go_ret
   exact⟨rfl,rfl⟩
end
end Go.Proofs.YtojgokiobdpclaaGreat
