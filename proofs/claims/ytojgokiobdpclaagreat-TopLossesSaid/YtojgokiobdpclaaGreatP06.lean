import Derived.Test.YtojgokiobdpclaaGreatP04
import Derived.Test.YtojgokiobdpclaaGreatP05
namespace Go.Proofs.YtojgokiobdpclaaGreat
set_option linter.unusedVariables false
set_option linter.unusedSimpArgs false
set_option maxRecDepth 8000
set_option maxHeartbeats 8000000
section
open Go.RowKit Go.Lib
structure RN where
 n:Nat
 nx:Nat
def rnd (s:RN):Array Value:= #[.int .u64 s.n, .int .u64 s.nx]
def RN.ok (s:RN):Prop:=s.n<18446744073709551616∧s.nx<18446744073709551616
theorem rndnew_any (w:World):
  Calls Tryz.prog 123 #[] w fun e w'=>e= .returned (.pointer (some ⟨w.heap.size,0,none⟩))∧w'=w.alloc (.cells (rnd ⟨0,0⟩) 201):=by
 go_enter Tryz.func123,Tryz.ntmps123
 go_wp2;go_ret
 exact⟨rfl,rfl⟩
theorem rndcount_any (b:Nat) (s:RN) (w:World) (h:At w b 201 (rnd s)):
  Calls Tryz.prog 77 #[.pointer (some ⟨b,0,none⟩)] w fun e w'=>e= .returned (.int .u64 s.n)∧w=w':=by
 have h0:=h.ce 0;clear h;go_enter Tryz.func77,Tryz.ntmps77
 go_wp2;go_ret
 exact⟨rfl,rfl⟩
def SM.has (s:RN) (x:SM):Bool:=decide (0<x.acked)&&decide (s.nx≤x.prior)
def rndF (s:RN) (x:SM):RN:=if SM.has s x then⟨(s.n+1)%18446744073709551616,x.delivered⟩else s
theorem rndF_ok {s:RN} {x:SM} (h:s.ok) (hx:x.delivered<18446744073709551616):(rndF s x).ok:=by
 unfold rndF;split
 ·exact⟨Nat.mod_lt _ (by omega),hx⟩
 ·exact h
theorem rndupd_any (b:Nat) (s:RN) (x:SM) (w:World) (h:At w b 201 (rnd s)):
  Calls Tryz.prog 186 #[.pointer (some ⟨b,0,none⟩),smp x] w fun e w'=>e= .returned (.bool (SM.has s x))∧Put w w' b 201 (rnd (rndF s x)):=by
 have HA:=zH h;have hblt:=h.lt;have h0:=h.ce 0;have h1:=h.ce 1;have f0:=h.free 0;have f1:=h.free 1;have ew:IntKind.u64.wrap ((s.n:Int)+1)=((s.n+1)%18446744073709551616:Nat):=by
  simp[IntKind.wrap,IntKind.bits,IntKind.signed]
 obtain⟨m,hm⟩: ∃ m,(s.n+1)%18446744073709551616=m:=⟨_,rfl⟩;rw[hm]at ew;clear h;unfold smp;by_cases c1:0<x.acked
 ·by_cases c2:s.nx≤x.prior
  ·have e1:SM.has s x=true:=by simp[SM.has,c1,c2]
   have e2:rndF s x=⟨m,x.delivered⟩:=by simp[rndF,e1,hm]
   rw[e1,e2];clear e1 e2 hm;go_enter Tryz.func186,Tryz.ntmps186
   go_wp2;go_step3
   go_wp2;go_step3
   go_wp2;refine wp_loop_rounds 1 ?_;rw[rounds_succ];go_wp2_with fail
   go_quiet (fail)
   go_wp2_with fail
   (try rw[Exit.noGoto_ret])
   go_ret
   exact⟨rfl,((((Put.same HA.out).a _).dn _).s 1 _).s 0 _⟩
  ·have e1:SM.has s x=false:=by simp[SM.has,c2]
   have e2:rndF s x=s:=by simp[rndF,e1]
   rw[e1,e2];clear e1 e2 hm;go_enter Tryz.func186,Tryz.ntmps186
   go_wp2;go_step3
   go_wp2;go_step3
   go_wp2;refine wp_loop_rounds 1 ?_;rw[rounds_succ];go_wp2_with fail
   go_quiet (fail)
   go_wp2_with fail
   (try rw[Exit.noGoto_ret])
   go_ret
   exact⟨rfl,((Put.same HA.out).a _).dn _⟩
 ·have e1:SM.has s x=false:=by simp[SM.has,c1]
  have e2:rndF s x=s:=by simp[rndF,e1]
  rw[e1,e2];clear e1 e2 hm;go_enter Tryz.func186,Tryz.ntmps186
  go_wp2;go_step3
  go_wp2;go_step3
  go_wp2;refine wp_loop_rounds 1 ?_;rw[rounds_succ];go_wp2_with fail
  (try rw[Exit.noGoto_ret])
  go_ret
  exact⟨rfl,(Put.same HA.out).a _⟩
end
section
open Go.RowKit Go.Lib
structure WM where
 wd:Nat
 t0:Nat
 v0:Nat
 t1:Nat
 v1:Nat
 t2:Nat
 v2:Nat
 last:Nat
def wmx (s:WM):Array Value:= #[.int .u64 s.wd, .int .u64 s.t0, .int .u64 s.v0, .int .u64 s.t1, .int .u64 s.v1, .int .u64 s.t2, .int .u64 s.v2, .int .u64 s.last]
def WM.ok (s:WM):Prop:=s.wd<18446744073709551616∧s.t0<18446744073709551616∧s.v0<18446744073709551616∧s.t1<18446744073709551616∧s.v1<18446744073709551616∧s.t2<18446744073709551616∧s.v2<18446744073709551616∧s.last<18446744073709551616
theorem wmnew_any (n:Nat) (w:World):
  Calls Tryz.prog 122 #[.int .u64 n] w fun e w'=>e= .returned (.pointer (some ⟨w.heap.size,0,none⟩))∧w'=w.alloc (.cells (wmx ⟨n,0,0,0,0,0,0,0⟩) 252):=by
 go_enter Tryz.func122,Tryz.ntmps122
 go_wp2;go_ret
 exact⟨rfl,rfl⟩
theorem wmbest_any (b:Nat) (s:WM) (w:World) (h:At w b 252 (wmx s)):
  Calls Tryz.prog 108 #[.pointer (some ⟨b,0,none⟩)] w fun e w'=>e= .returned (.int .u64 s.v0)∧w=w':=by
 have h0:=h.ce 2;clear h;go_enter Tryz.func108,Tryz.ntmps108
 go_wp2;go_ret
 exact⟨rfl,rfl⟩
def wnearF (t st wd:Nat):Bool:=decide (t-min t st≤wd)
theorem wmnear_any (t st sv wd:Nat) (ht:t<18446744073709551616) (w:World):
  Calls Tryz.prog 217 #[.int .u64 t, .agg #[.int .u64 st, .int .u64 sv], .int .u64 wd] w fun e w'=>e= .returned (.bool (wnearF t st wd))∧w'=w.alloc (.cells #[.int .u64 st, .int .u64 sv] 249):=by
 unfold wnearF;rcases Nat.lt_or_ge st t with h | h
 ·rw[Nat.min_eq_right (by omega)]
  have ew:IntKind.u64.wrap ((t:Int)-st)=((t-st:Nat):Int):=by
   rw[show((t:Int)-st)=((t-st:Nat):Int)from by omega];exact wrapu_of _ (by omega)
  obtain⟨d,hd⟩: ∃ d,t-st=d:=⟨_,rfl⟩;rw[hd]at ew ⊢;clear hd;go_enter Tryz.func217,Tryz.ntmps217
  go_wp2_with fail
  go_ret
  exact⟨by simp,rfl⟩
 ·rw[Nat.min_eq_left h,Nat.sub_self]
  have ew:IntKind.u64.wrap 0=0:=wrapu_of 0 (by omega);go_enter Tryz.func217,Tryz.ntmps217
  go_wp2_with fail
  go_ret
  exact⟨by simp,rfl⟩
def pushF (s:WM) (t v:Nat):WM:=⟨s.wd,s.t1,s.v1,s.t2,s.v2,t,v,s.last⟩
theorem wmpush_any (b:Nat) (s:WM) (t v:Nat) (w:World) (h:At w b 252 (wmx s)):
  Calls Tryz.prog 220 #[.pointer (some ⟨b,0,none⟩), .agg #[.int .u64 t, .int .u64 v]] w fun e w'=>e= .returned (.tuple #[])∧Put w w' b 252 (wmx (pushF s t v)):=by
 have HA:=zH h;have hblt:=h.lt;have h1:=h.ce 1;have h2:=h.ce 2;have h3:=h.ce 3;have h4:=h.ce 4;have h5:=h.ce 5;have h6:=h.ce 6;have f1:=h.free 1;have f2:=h.free 2;have f3:=h.free 3;have f4:=h.free 4;have f5:=h.free 5;have f6:=h.free 6;clear h;go_enter Tryz.func220,Tryz.ntmps220
 go_wp2_with fail
 go_region
 go_wp2;go_end0
 refine And.intro rfl ?_;have:=((((((((Put.same HA.out).s 1 (.int .u64 s.t1)).s 2 (.int .u64 s.v1)).s 3 (.int .u64 s.t2)).s 4 (.int .u64 s.v2)).s 5 (.int .u64 t)).s 6 (.int .u64 v)).a (.cells #[.int .u64 t, .int .u64 v] 249)).d;simp only[wmx,pushF,List.setIfInBounds_toArray,List.set_cons_zero,List.set_cons_succ]at this ⊢;exact this
def all2F (s:WM) (t v:Nat):WM:=⟨s.wd,s.t0,s.v0,s.t1,s.v1,t,v,s.last⟩
theorem wmall2_any (b:Nat) (s:WM) (t v:Nat) (w:World) (h:At w b 252 (wmx s)):
  Calls Tryz.prog 219 #[.pointer (some ⟨b,0,none⟩), .int .i64 2, .agg #[.int .u64 t, .int .u64 v]] w fun e w'=>e= .returned (.tuple #[])∧Put w w' b 252 (wmx (all2F s t v)):=by
 have HA:=zH h;have hblt:=h.lt;have h1:=h.ce 1;have h2:=h.ce 2;have h3:=h.ce 3;have h4:=h.ce 4;have h5:=h.ce 5;have h6:=h.ce 6;have f1:=h.free 1;have f2:=h.free 2;have f3:=h.free 3;have f4:=h.free 4;have f5:=h.free 5;have f6:=h.free 6;clear h;go_enter Tryz.func219,Tryz.ntmps219
 go_wp2_with fail
 refine wp_loop_rounds 2 ?_;rw[rounds_succ];go_wp2_with fail
 go_region
 all_goals go_wp2_with fail
 rw[rounds_succ];go_wp2_with fail
 go_end0
 refine And.intro rfl ?_;have:=(((((Put.same HA.out).s 5 (.int .u64 t)).s 6 (.int .u64 v)).a (.cells #[.int .u64 t, .int .u64 v] 249)).d);simp only[wmx,all2F,List.setIfInBounds_toArray,List.set_cons_zero,List.set_cons_succ]at this ⊢;exact this
def all1F (s:WM) (t v:Nat):WM:=⟨s.wd,s.t0,s.v0,t,v,t,v,s.last⟩
theorem wmall1_any (b:Nat) (s:WM) (t v:Nat) (w:World) (h:At w b 252 (wmx s)):
  Calls Tryz.prog 219 #[.pointer (some ⟨b,0,none⟩), .int .i64 1, .agg #[.int .u64 t, .int .u64 v]] w fun e w'=>e= .returned (.tuple #[])∧Put w w' b 252 (wmx (all1F s t v)):=by
 have HA:=zH h;have hblt:=h.lt;have h1:=h.ce 1;have h2:=h.ce 2;have h3:=h.ce 3;have h4:=h.ce 4;have h5:=h.ce 5;have h6:=h.ce 6;have f1:=h.free 1;have f2:=h.free 2;have f3:=h.free 3;have f4:=h.free 4;have f5:=h.free 5;have f6:=h.free 6;clear h;go_enter Tryz.func219,Tryz.ntmps219
 go_wp2_with fail
 refine wp_loop_rounds 3 ?_;rw[rounds_succ];go_wp2_with fail
 go_region
 all_goals go_wp2_with fail
 rw[rounds_succ];go_wp2_with fail
 go_region
 all_goals go_wp2_with fail
 rw[rounds_succ];go_wp2_with fail
 go_end0
 refine And.intro rfl ?_;have:=(((((((Put.same HA.out).s 3 (.int .u64 t)).s 4 (.int .u64 v)).s 5 (.int .u64 t)).s 6 (.int .u64 v)).a (.cells #[.int .u64 t, .int .u64 v] 249)).d).d;simp only[wmx,all1F,List.setIfInBounds_toArray,List.set_cons_zero,List.set_cons_succ]at this ⊢;exact this
def all0F (s:WM) (t v:Nat):WM:=⟨s.wd,t,v,t,v,t,v,s.last⟩
theorem wmall0_any (b:Nat) (s:WM) (t v:Nat) (w:World) (h:At w b 252 (wmx s)):
  Calls Tryz.prog 219 #[.pointer (some ⟨b,0,none⟩), .int .i64 0, .agg #[.int .u64 t, .int .u64 v]] w fun e w'=>e= .returned (.tuple #[])∧Put w w' b 252 (wmx (all0F s t v)):=by
 have HA:=zH h;have hblt:=h.lt;have h1:=h.ce 1;have h2:=h.ce 2;have h3:=h.ce 3;have h4:=h.ce 4;have h5:=h.ce 5;have h6:=h.ce 6;have f1:=h.free 1;have f2:=h.free 2;have f3:=h.free 3;have f4:=h.free 4;have f5:=h.free 5;have f6:=h.free 6;clear h;go_enter Tryz.func219,Tryz.ntmps219
 go_wp2_with fail
 refine wp_loop_rounds 4 ?_;rw[rounds_succ];go_wp2_with fail
 go_region
 all_goals go_wp2_with fail
 rw[rounds_succ];go_wp2_with fail
 go_region
 all_goals go_wp2_with fail
 rw[rounds_succ];go_wp2_with fail
 go_region
 all_goals go_wp2_with fail
 rw[rounds_succ];go_wp2_with fail
 go_end0
 refine And.intro rfl ?_;have:=(((((((((Put.same HA.out).s 1 (.int .u64 t)).s 2 (.int .u64 v)).s 3 (.int .u64 t)).s 4 (.int .u64 v)).s 5 (.int .u64 t)).s 6 (.int .u64 v)).a (.cells #[.int .u64 t, .int .u64 v] 249)).d).d.d;simp only[wmx,all0F,List.setIfInBounds_toArray,List.set_cons_zero,List.set_cons_succ]at this ⊢;exact this
def rsF (s:WM) (t v:Nat):WM:=⟨s.wd,t,v,t,v,t,v,max s.last t⟩
theorem wmreset_any (b:Nat) (s:WM) (t v:Nat) (w:World) (h:At w b 252 (wmx s)):
  Calls Tryz.prog 218 #[.pointer (some ⟨b,0,none⟩), .int .u64 t, .int .u64 v] w fun e w'=>e= .returned (.tuple #[])∧Put w w' b 252 (wmx (rsF s t v)):=by
 have HA:=zH h;have h7:=h.ce 7;have f7:=h.free 7;have em:max (s.last:Int) (t:Int)=((max s.last t:Nat):Int):=by omega
 obtain⟨m,hm⟩: ∃ m,max s.last t=m:=⟨_,rfl⟩;have HC:Hid (∀(w':World),At w' b 252 (wmx ⟨s.wd,s.t0,s.v0,s.t1,s.v1,s.t2,s.v2,m⟩)→Calls Tryz.prog 219 #[.pointer (some ⟨b,0,none⟩), .int .i64 0, .agg #[.int .u64 t, .int .u64 v]] w' fun e w''=>e= .returned (.tuple #[])∧Put w' w'' b 252 (wmx ⟨s.wd,t,v,t,v,t,v,m⟩)):=zH (fun w' h=>wmall0_any b _ t v w' h);clear h;rw[rsF,hm];clear em;have hcl:(s.last<t∧m=t)∨(¬ s.last<t∧m=s.last):=by omega
 clear hm;rcases hcl with⟨hl,rfl⟩ | ⟨hl,rfl⟩
 ·go_enter Tryz.func218,Tryz.ntmps218
  go_wp2_with fail
  have P:=(Put.same HA.out).s 7 (.int .u64 m);refine(HC.out _ P.1).mono ?_;rintro e w' ⟨rfl,P2⟩;have P:=P.then_ P2;go_wp2_with fail
  go_end0
  exact And.intro rfl P
 ·go_enter Tryz.func218,Tryz.ntmps218
  go_wp2_with fail
  have P:=(Put.same HA.out).s 7 (.int .u64 s.last);refine(HC.out _ P.1).mono ?_;rintro e w' ⟨rfl,P2⟩;have P:=P.then_ P2;go_wp2_with fail
  go_end0
  exact And.intro rfl P
end
section
open Go.RowKit Go.Lib
def led (f:Nat→Int):Array Value:=((List.range 64).map fun i=>Value.int .i64 (f i)).toArray
theorem led_cell (f:Nat→Int) {i:Nat} (h:i<64):(led f)[i]? =some (.int .i64 (f i)):=by simp[led,h]
theorem led_set (f:Nat→Int) (i:Nat) (z:Int):(led f).setIfInBounds i (.int .i64 z)=led (fun k=>if k=i then z else f k):=by
 have hz:(led f).size=64:=by simp[led]
 have hg: ∀(g:Nat→Int) (k:Nat),(led g)[k]? =if k<64 then some (.int .i64 (g k))else none:=by
  intro g k;by_cases hk:k<64
  ·rw[if_pos hk,led_cell g hk]
  ·rw[if_neg hk]
   exact Array.getElem?_eq_none (by simp[led];omega)
 apply Array.ext_getElem?
 intro k;rw[Array.getElem?_setIfInBounds,hg,hg,hz];by_cases hk:i=k
 ·subst hk;simp
 ·rw[if_neg hk]
  simp only[show ¬ k=i from fun e=>hk e.symm,if_false]
def Led (w:World) (b:Nat):Prop:= ∃ f,At w b 117 (led f)
def LedPut (w w':World) (b:Nat):Prop:= ∃ f,Put w w' b 117 (led f)
theorem lednew_any (w:World):
  Calls Tryz.prog 26 #[] w fun e w'=>e= .returned (.pointer (some ⟨w.heap.size,0,none⟩))∧w'=w.alloc (.cells (led (fun _=>0)) 117):=by
 go_enter Tryz.func26,Tryz.ntmps26
 go_wp2;go_ret
 exact⟨rfl,rfl⟩
theorem ledmay_any (b sock:Nat) (hs:sock<8) (w:World):
  Calls Tryz.prog 90 #[.pointer (some ⟨b,0,none⟩), .int .i64 sock] w fun e w'=>e= .returned (.int .i64 0)∧w=w':=by
 go_enter Tryz.func90,Tryz.ntmps90
 go_wp2;go_ret
 exact⟨rfl,rfl⟩
theorem lednote_any (b sock fate:Nat) (hs:sock<8) (hf:fate<6) (w:World) (h:Led w b):
  Calls Tryz.prog 53 #[.pointer (some ⟨b,0,none⟩), .int .i64 sock, .int .i64 fate] w fun e w'=>(∃ z,e= .returned (.int .i64 z))∧LedPut w w' b:=by
 obtain⟨f,h⟩:=h;have HA:=zH h;have HC:Hid (∀ w',Calls Tryz.prog 90 #[.pointer (some ⟨b,0,none⟩), .int .i64 sock] w' fun e w''=>e= .returned (.int .i64 0)∧w'=w''):=zH (fun w'=>ledmay_any b sock hs w');have g7:w.cell? ⟨b,sock*8+7,none⟩=some (.int .i64 (f (sock*8+7))):=(h.cell _).trans (led_cell f (by omega));have gf:w.cell? ⟨b,sock*8+1+fate,none⟩=some (.int .i64 (f (sock*8+1+fate))):=(h.cell _).trans (led_cell f (by omega));have r7:=h.free (sock*8+7);have rf:=h.free (sock*8+1+fate);have n1: ¬ sock*8+1+fate=sock*8+7:=by omega
 obtain⟨q,hq⟩: ∃ q,f (sock*8+7)=q:=⟨_,rfl⟩;obtain⟨p,hp⟩: ∃ p,f (sock*8+1+fate)=p:=⟨_,rfl⟩;rw[hq]at g7;rw[hp]at gf;clear h hq hp;rcases Nat.eq_zero_or_pos fate with hz | hz
 ·subst hz
  go_enter Tryz.func53,Tryz.ntmps53
  go_wp2_with fail
  refine(HC.out _).mono ?_;rintro e w' ⟨rfl,rfl⟩;go_wp2_with fail
  go_region
  go_wp2;have P:=(((Put.same HA.out).s (sock*8+7) (.int .i64 (wrap64 (q+1)))).s (sock*8+1) (.int .i64 (wrap64 (p+1)))).d;rw[led_set,led_set]at P;go_ret
  exact⟨⟨_,rfl⟩,_,P⟩
 ·by_cases hq:q=0
  ·subst hq
   go_enter Tryz.func53,Tryz.ntmps53
   go_wp2_with fail
   refine(HC.out _).mono ?_;rintro e w' ⟨rfl,rfl⟩;go_wp2_with fail
   go_ret
   exact⟨⟨_,rfl⟩,_,Put.same HA.out⟩
  ·have hq':(q==0)=false:=by simpa using hq
   clear hq;go_enter Tryz.func53,Tryz.ntmps53
   go_wp2_with fail
   refine(HC.out _).mono ?_;rintro e w' ⟨rfl,rfl⟩;go_wp2_with fail
   go_region
   go_wp2;have P:=(((Put.same HA.out).s (sock*8+7) (.int .i64 (wrap64 (q-1)))).s (sock*8+1+fate) (.int .i64 (wrap64 (p+1)))).d;rw[led_set,led_set]at P;go_ret
   exact⟨⟨_,rfl⟩,_,P⟩
end
end Go.Proofs.YtojgokiobdpclaaGreat
