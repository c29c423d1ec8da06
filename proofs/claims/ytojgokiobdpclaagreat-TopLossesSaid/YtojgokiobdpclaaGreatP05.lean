import Derived.Test.YtojgokiobdpclaaGreatP02
import Derived.Test.YtojgokiobdpclaaGreatP03
import Derived.StillTailTactics
import Derived.BigRegion
import Derived.RegionTactic
import Derived.ChangeAlike
import Derived.Deep.RegionWith
namespace Go.Proofs.YtojgokiobdpclaaGreat
set_option linter.unusedVariables false
set_option linter.unusedSimpArgs false
set_option maxRecDepth 8000
set_option maxHeartbeats 8000000
section
open Go.RowKit Go.Lib
structure PL where
 use:Bool
 samples:Bool
 bw:Nat
 n:Nat
 lost:Nat
 t0:Nat
 d0:Nat
 l0:Nat
structure SM where
 now:Nat
 delivered:Nat
 prior:Nat
 interval:Nat
 rtt:Nat
 acked:Nat
 lost:Nat
 flight:Nat
 limited:Bool
def pol (s:PL):Array Value:= #[.bool s.use, .bool s.samples, .int .u64 s.bw, .int .i64 s.n, .int .u64 s.lost, .int .u64 s.t0, .int .u64 s.d0, .int .u64 s.l0]
def smp (x:SM):Value:= .agg #[.int .u64 x.now, .int .u64 x.delivered, .int .u64 x.prior, .int .u64 x.interval, .int .u64 x.rtt, .int .u64 x.acked, .int .u64 x.lost, .int .u64 x.flight, .bool x.limited]
section
variable {w w':World} {b:Nat} {t:TypeId} {cs:Array Value}
theorem Put.s (h:Put w w' b t cs) (i:Nat) (u:Value):Put w (w'.setCell ⟨b,i,none⟩ u) b t (cs.setIfInBounds i u):=h.then_ (Put.set h.1 i)
theorem Put.a (h:Put w w' b t cs) (o:Obj):Put w (w'.alloc o) b t cs:=⟨h.1.kept (World.grownBy_alloc w' o none) (by simp),h.2.trans (World.grownBy_alloc w' o (some b))⟩
theorem Put.dn (h:Put w w' b t cs) (n:Nat):Put w (w'.drewN n) b t cs:=⟨h.1,h.2.trans (by_drewN w' n _)⟩
theorem Put.d (h:Put w w' b t cs):Put w w'.drew b t cs:=⟨h.1,h.2.trans (by_drew w' _)⟩
end
theorem apart_any (a b:Nat) (ha:a<18446744073709551616) (hb:b<18446744073709551616) (w:World):
  Calls Tryz.prog 216 #[.int .u64 a, .int .u64 b] w fun e w'=>e= .returned (.int .u64 ((max a b-min a b:Nat):Int))∧w=w':=by
 rcases Nat.le_total a b with h | h
 ·rw[Nat.max_eq_right h,Nat.min_eq_left h,show((b-a:Nat):Int)=(b:Int)-a from by omega]
  go_enter Tryz.func216,Tryz.ntmps216
  go_wp2;all_goals go_ret
  all_goals exact⟨ret64 (by omega),rfl⟩
 ·rw[Nat.max_eq_left h,Nat.min_eq_right h,show((a-b:Nat):Int)=(a:Int)-b from by omega]
  go_enter Tryz.func216,Tryz.ntmps216
  go_wp2;all_goals go_ret
  all_goals exact⟨ret64 (by omega),rfl⟩
def leaveF (s:PL):PL:={ s with use:=false,samples:=false,bw:=0 }
theorem leave_any (b:Nat) (s:PL) (w:World) (h:At w b 247 (pol s)):
  Calls Tryz.prog 203 #[.pointer (some ⟨b,0,none⟩)] w fun e w'=>e= .returned (.tuple #[])∧Put w w' b 247 (pol (leaveF s)):=by
 have h0:=h.ce 0;have h1:=h.ce 1;have h2:=h.ce 2;have f0:=h.free 0;have f1:=h.free 1;have f2:=h.free 2;have H:=zH h;clear h;go_enter Tryz.func203,Tryz.ntmps203
 go_wp2;go_end0
 exact⟨rfl,((Put.set H.out 0).then_ (Put.set (H.out.set 0) 1)).then_ (Put.set ((H.out.set 0).set 1) 2)⟩
def beginF (s:PL) (x:SM):PL:={ s with samples:=true,n:=0,t0:=x.now,d0:=x.delivered,l0:=s.lost }
theorem begin_any (b:Nat) (s:PL) (x:SM) (w:World) (h:At w b 247 (pol s)):
  Calls Tryz.prog 202 #[.pointer (some ⟨b,0,none⟩),smp x] w fun e w'=>e= .returned (.tuple #[])∧Put w w' b 247 (pol (beginF s x)):=by
 have h1:=h.ce 1;have h3:=h.ce 3;have h4:=h.ce 4;have h5:=h.ce 5;have h6:=h.ce 6;have h7:=h.ce 7;have f1:=h.free 1;have f3:=h.free 3;have f5:=h.free 5;have f6:=h.free 6;have f7:=h.free 7;have hlt:=h.lt;have H:=zH h;clear h;unfold smp;go_enter Tryz.func202,Tryz.ntmps202
 go_wp2_with fail
 go_region
 all_goals go_wp2
 go_end0
 exact⟨rfl,((((((Put.same H.out).s 1 _).s 3 _).s 5 _).s 6 _).s 7 _).a _ |>.d⟩
def dF (s:PL) (x:SM):Nat:=satSub x.delivered s.d0
def tF (s:PL) (x:SM):Nat:=satSub x.now s.t0
def lF (s:PL):Nat:=satSub s.lost s.l0
def isF (s:PL) (x:SM):Bool:=decide (dF s x≠0)&&decide (tF s x≠0)&&decide (mulDiv (dF s x) 50 256≤lF s)
def bwF (s:PL) (x:SM):Nat:=mulDiv (dF s x) 1000000000 (tF s x)
def PL.ok (s:PL):Prop:=s.bw<18446744073709551616∧s.lost<18446744073709551616∧s.t0<18446744073709551616∧s.d0<18446744073709551616∧s.l0<18446744073709551616
def SM.ok (x:SM):Prop:=x.now<18446744073709551616∧x.delivered<18446744073709551616∧x.lost<18446744073709551616
end
section
open Go.RowKit Go.Lib
theorem wp_named {P:Program} {c:Code} {Q:Exit→Act→World→Prop} {a:Act} {w:World} (Φ:World→Prop) (h0:Φ w) (h: ∀ w',Φ w'→Code.wp P c Q a w'):Code.wp P c Q a w:=h w h0
structure SA where
 d:Nat
 da:Nat
 fa:Nat
 mark:Nat
 is:Bool
 acks:Nat
 prior:Nat
 priorAt:Nat
 lim:Bool
 sending:Nat
 rtt:Nat
structure ST where
 at_:Nat
 d:Nat
 da:Nat
 fa:Nat
 lim:Bool
def sam (s:SA):Array Value:= #[.int .u64 s.d, .int .u64 s.da, .int .u64 s.fa, .int .u64 s.mark, .bool s.is, .int .u64 s.acks, .int .u64 s.prior, .int .u64 s.priorAt, .bool s.lim, .int .u64 s.sending, .int .u64 s.rtt]
def cellsT (x:ST):Array Value:= #[.int .u64 x.at_, .int .u64 x.d, .int .u64 x.da, .int .u64 x.fa, .bool x.lim]
def stv (x:ST):Value:= .agg #[.int .u64 x.at_, .int .u64 x.d, .int .u64 x.da, .int .u64 x.fa, .bool x.lim]
def sam0:SA:=⟨0,0,0,0,false,0,0,0,false,0,0⟩
def SA.ok (s:SA):Prop:=s.d<18446744073709551616∧s.da<18446744073709551616∧s.fa<18446744073709551616∧s.acks<18446744073709551616∧s.priorAt<18446744073709551616
def ST.ok (x:ST):Prop:=x.at_<18446744073709551616∧x.da<18446744073709551616∧x.fa<18446744073709551616
theorem samnew_any (w:World):
  Calls Tryz.prog 94 #[] w fun e w'=>e= .returned (.pointer (some ⟨w.heap.size,0,none⟩))∧w'=w.alloc (.cells (sam sam0) 224):=by
 go_enter Tryz.func94,Tryz.ntmps94
 go_wp2;go_ret
 exact⟨rfl,rfl⟩
def limF (s:SA) (flight:Nat):SA:={ s with mark:=max 1 (satAdd s.d flight) }
theorem limit_any (b:Nat) (s:SA) (f:Nat) (hs:s.ok) (hf:f<18446744073709551616) (w:World) (h:At w b 224 (sam s)):
  Calls Tryz.prog 166 #[.pointer (some ⟨b,0,none⟩), .int .u64 f] w fun e w'=>e= .returned (.tuple #[])∧Put w w' b 224 (sam (limF s f)):=by
 have h0:=h.ce 0;have h3:=h.ce 3;have f3:=h.free 3;have H:=zH h;have CA:=zH (add_any s.d f hs.1 hf);clear h hs hf;unfold limF;generalize satAdd s.d f=V at*
 rcases Nat.eq_zero_or_pos V with rfl | hp
 ·rw[show max 1 0=1 from rfl]
  go_enter Tryz.func166,Tryz.ntmps166
  go_wp2_with fail
  refine(CA.out _).mono ?_;rintro e w' ⟨rfl,rfl⟩;go_wp2;go_end0
  exact⟨rfl,(Put.same H.out).s 3 _⟩
 rcases Nat.eq_or_lt_of_le hp with rfl | hp
 ·rw[show max 1 (Nat.succ 0)=1 from rfl]
  go_enter Tryz.func166,Tryz.ntmps166
  go_wp2_with fail
  refine(CA.out _).mono ?_;rintro e w' ⟨rfl,rfl⟩;go_wp2;go_end0
  exact⟨rfl,(Put.same H.out).s 3 _⟩
 ·rw[Nat.max_eq_right (by omega)]
  go_enter Tryz.func166,Tryz.ntmps166
  go_wp2_with fail
  refine(CA.out _).mono ?_;rintro e w' ⟨rfl,rfl⟩;go_wp2;all_goals go_end0
  all_goals exact⟨rfl,(Put.same H.out).s 3 _⟩
def sentF (s:SA) (now flight:Nat):SA:=if flight=0 then { s with fa:=now,da:=now }else s
def sentV (s:SA) (now:Nat):ST:=⟨now,s.d,s.da,s.fa,decide (s.mark≠0)⟩
theorem sent_any (b:Nat) (s:SA) (a f:Nat) (w:World) (h:At w b 224 (sam s)):
  Calls Tryz.prog 136 #[.pointer (some ⟨b,0,none⟩), .int .u64 a, .int .u64 f] w fun e w'=>e= .returned (stv (sentV (sentF s a f) a))∧Put w w' b 224 (sam (sentF s a f)):=by
 have h0:=h.ce 0;have h1:=h.ce 1;have h2:=h.ce 2;have h3:=h.ce 3;have f1:=h.free 1;have f2:=h.free 2;have hlt:=h.lt;have H:=zH h;clear h;unfold sentF sentV;by_cases hf:f=0
 ·rw[if_pos hf]
  have y:((f:Int)==0)=true:=by rw[beq_iff_eq];omega
  have ym:((s.mark:Int)!=0)=decide (s.mark≠0):=by
   rcases Nat.eq_zero_or_pos s.mark with h | h
   ·simp[h]
   ·have:s.mark≠0:=by omega
    simp[this]
  simp only
  generalize decide (s.mark≠0)=M at*
  clear hf;go_enter Tryz.func136,Tryz.ntmps136
  go_wp2_with fail
  go_region
  go_wp2;refine bodyPost_ret (v:=stv ⟨a,s.d,a,a,M⟩) (by simp[results,Tryz.results136,go_sem,stv]) rfl ⟨rfl, ?_⟩;exact((((Put.same H.out).s 2 _).s 1 _).a _).d
 ·rw[if_neg hf]
  have y:((f:Int)==0)=false:=by rw[beq_eq_false_iff_ne];omega
  have ym:((s.mark:Int)!=0)=decide (s.mark≠0):=by
   rcases Nat.eq_zero_or_pos s.mark with h | h
   ·simp[h]
   ·have:s.mark≠0:=by omega
    simp[this]
  generalize decide (s.mark≠0)=M at*
  clear hf;go_enter Tryz.func136,Tryz.ntmps136
  go_wp2_with fail
  go_region
  go_wp2;refine bodyPost_ret (v:=stv ⟨a,s.d,s.da,s.fa,M⟩) (by simp[results,Tryz.results136,go_sem,stv]) rfl ⟨rfl, ?_⟩;exact((Put.same H.out).a _).d
end
end Go.Proofs.YtojgokiobdpclaaGreat
