import Derived.Test.YtojgokiobdpclaaGreatP02
import Derived.Test.YtojgokiobdpclaaGreatP03
import Derived.BigRegion
import Derived.RegionTactic
import Derived.ChangeAlike
import Derived.StillTailTactics
import Derived.WalkSpells
namespace Go.Proofs.YtojgokiobdpclaaGreat
set_option linter.unusedVariables false
set_option linter.unusedSimpArgs false
set_option maxRecDepth 8000
set_option maxHeartbeats 8000000
section
open Go.RowKit Go.Lib
def tsoN (rate m:Nat):Nat:=max 2 (min (rate / 1024 / m) (65536 / m))
def tsoF (rate m:Nat):Nat:=tsoN rate m*m
theorem tsoF_le (rate m:Nat) (h1:100≤m) (h2:m≤9000):tsoF rate m≤65536:=by
 unfold tsoF;have h3:65536 / m*m≤65536:=Nat.div_mul_le_self _ _;have h4:2≤65536 / m:=by rw[Nat.le_div_iff_mul_le (by omega)];omega
 have h5:tsoN rate m≤65536 / m:=by unfold tsoN;omega
 exact Nat.le_trans (Nat.mul_le_mul_right m h5) h3
theorem tsoF_ge (rate m:Nat) (h1:100≤m):200≤tsoF rate m:=by
 unfold tsoF;have h5:2≤tsoN rate m:=by unfold tsoN;omega
 have:=Nat.mul_le_mul h5 h1;omega
def TsRel (F:Nat) (T:Nat) (v6:Value):Prop:= ∃ n:Nat,max 2 (min n T)=F∧v6= .int .u64 n
theorem divs (a b:Nat): ∃ q:Nat,a / b=q∧Hid ((a:Int) / (b:Int)=q∧(a:Int).tdiv (b:Int)=q):=
 ⟨a / b,rfl,zH ⟨by simp,by rw[Int.tdiv_eq_ediv_of_nonneg (Int.natCast_nonneg _)];simp⟩⟩
theorem wrapu_of (n:Nat) (h:n<18446744073709551616):IntKind.u64.wrap (n:Int)=n:=by rw[IntKind.wrap_u64];omega
theorem wrap64_of (n:Nat) (h:n<9223372036854775808):wrap64 (n:Int)=n:=by unfold wrap64;omega
theorem size_any (rate m:Nat) (hr:rate<18446744073709551616) (h1:100≤m) (h2:m≤9000) (w:World):
  Calls Tryz.prog 71 #[.int .u64 rate, .int .i64 m] w fun e w'=>e= .returned (.int .i64 (tsoF rate m:Nat))∧w=w':=by
 have hF:tsoN rate m=max 2 (min (rate / 1024 / m) (65536 / m)):=rfl;have hP:=tsoF_le rate m h1 h2;unfold tsoF at hP ⊢;have hT2:2≤65536 / m:=by rw[Nat.le_div_iff_mul_le (by omega)];omega
 obtain⟨a,ha,HA⟩:=divs rate 1024;rw[ha]at hF;obtain⟨n,hn,HN⟩:=divs a m;obtain⟨T,hT,HT⟩:=divs 65536 m;rw[hn,hT]at hF;rw[hT]at hT2;generalize tsoN rate m=F at*
 obtain⟨P,hPP⟩: ∃ P,F*m=P:=⟨_,rfl⟩;have HP1:Hid ((F:Int)*(m:Int)=P):=zH (by rw[←hPP];simp);rw[hPP]at hP ⊢;have HP2:=zH (And.intro (wrapu_of P (by omega)) (And.intro (wrap64_of P (by omega)) (wrapu_of m (by omega))));have m0: ¬(m:Int)=0:=by omega
 have HF:=zH hF;have HL:=zH hP;have y1:=wrapu_of n (by have:=Nat.div_le_self a m;have:=Nat.div_le_self rate 1024;omega);have y2:=wrapu_of T (by have:=Nat.div_le_self 65536 m;omega);clear ha hn hT hPP hF hP;obtain⟨x1,x2⟩:=HA.out;obtain⟨x3,x4⟩:=HN.out;obtain⟨x5,x6⟩:=HT.out;have x7:=HP2.out.2.2;rw[show((1024:Nat):Int)=1024 from rfl]at x1 x2;rw[show((65536:Nat):Int)=65536 from rfl]at x5 x6;go_enter Tryz.func71,Tryz.ntmps71
 go_wp2;go_step3
 go_wp2;go_step3
 go_wp2;clear x1 x2 x3 x4 m0;go_loop [6] (fun v6=>TsRel F T v6) (fun v6=>((intOf v6).toNat-F)+(F-(intOf v6).toNat))
 case atStart=>exact⟨n,HF.out.symm,rfl⟩
 case round=>
  obtain⟨n,hn,rfl⟩:=hrel;have hn2:n<2∧F=2∨2≤n∧T<n∧F=T∨2≤n∧n≤T∧F=n:=by omega
  have HN:=zH hn;clear hn;rcases hn2 with⟨h,rfl⟩ | ⟨h,h',rfl⟩ | ⟨h,h',rfl⟩
  ·go_wp2
   go_round
   case rel=>exact⟨2,HN.out▸by omega,rfl⟩
   case measure=>simp[intOf];omega
  ·go_wp2
   go_round
   case rel=>exact⟨F,by omega,rfl⟩
   case measure=>simp[intOf];omega
  ·have z1:=HP1.out
   obtain⟨z2,z3,_⟩:=HP2.out;go_wp2;(try rw[Exit.noGoto_ret])
   go_ret
   exact⟨rfl,rfl⟩
def tlimF (rate tso most:Nat):Nat:=max (2*tso) (min (rate / 1024) most)
def LmRel (x y:Nat) (v7 v21:Value):Prop:=(v7= .int .u64 0∧v21= .int .i64 0)∨(v7= .int .u64 x∧v21= .int .i64 1)∨(v7= .int .u64 ((max x y:Nat):Int)∧v21= .int .i64 2)
theorem val64' {k:IntKind} {a b:Int} (h:a=b):Value.int k a= .int k b:=by rw[h]
theorem limit_tsq (rate tso most:Nat) (hr:rate<18446744073709551616) (h0:1≤tso) (h1:tso≤65536) (h3:1≤most) (h2:most≤1073741824) (w:World):
  Calls Tryz.prog 168 #[.int .u64 rate, .int .i64 tso, .int .i64 most] w fun e w'=>e= .returned (.int .u64 (tlimF rate tso most:Nat))∧w=w':=by
 unfold tlimF;obtain⟨a,ha,HA⟩:=divs rate 1024;rw[ha];have ha2:a≤rate:=ha▸Nat.div_le_self _ _;obtain⟨x,hx⟩: ∃ x,2*tso=x:=⟨_,rfl⟩;obtain⟨y,hy⟩: ∃ y,min a most=y:=⟨_,rfl⟩;rw[hx,hy];have i0: ∀ w,(Instr.index 260 (.agg #[.int .u64 x, .int .u64 y]) (.int .i64 0)).run Tryz.prog w= .ok (.int .u64 x) w:=fun _=>by kernel_rfl
 have i1: ∀ w,(Instr.index 260 (.agg #[.int .u64 x, .int .u64 y]) (.int .i64 1)).run Tryz.prog w= .ok (.int .u64 y) w:=fun _=>by kernel_rfl
 have x1:(2:Int)*tso=x:=by omega
 have hy2:y≤1073741824:=by omega
 have hx2:x≤131072:=by omega
 have HY:=zH hy;have hyc:(a<most∧y=a)∨(most<a∧y=most)∨(a=most∧y=most):=by omega
 clear ha hx hy;obtain⟨x2,x3⟩:=HA.out;rw[show((1024:Nat):Int)=1024 from rfl]at x2 x3;have I0:=zH i0;have I1:=zH i1;have w1:=wrapu_of tso (by omega);have w2:=wrapu_of most (by omega);have w3:=wrapu_of a (by omega);have w4:=wrapu_of x (by omega);have t0:0<(tso:Int):=by omega
 have m0:0<(most:Int):=by omega
 clear i0 i1 h0 h3;rcases hyc with⟨hc,hy'⟩ | ⟨hc,hy'⟩ | ⟨hc,hy'⟩
 ·subst hy'
  go_enter Tryz.func168,Tryz.ntmps168
  go_wp2;go_step3
  go_wp2;go_step3
  go_wp2;have i0:=I0.out;have i1:=I1.out;clear w1 w2 w3 w4 x1 x2 x3;go_loop [7,21] (fun v7 v21=>LmRel x y v7 v21) (fun _ v21=>(2-(intOf v21).toNat))
  case atStart=>exact .inl ⟨rfl,rfl⟩
  case round=>
   rcases hrel with⟨rfl,rfl⟩ | ⟨rfl,rfl⟩ | ⟨rfl,rfl⟩
   ·go_wp2
    all_goals
     refine⟨.inr (.inl ⟨val64' (by omega),rfl⟩),by simp[intOf]⟩
   ·go_wp2
    all_goals
     refine⟨.inr (.inr ⟨val64' (by omega),rfl⟩),by simp[intOf]⟩
   ·go_wp2
    go_ret
    exact⟨rfl,rfl⟩
 ·subst hy'
  go_enter Tryz.func168,Tryz.ntmps168
  go_wp2;go_step3
  go_wp2;go_step3
  go_wp2;have i0:=I0.out;have i1:=I1.out;clear w1 w2 w3 w4 x1 x2 x3;go_loop [7,21] (fun v7 v21=>LmRel x y v7 v21) (fun _ v21=>(2-(intOf v21).toNat))
  case atStart=>exact .inl ⟨rfl,rfl⟩
  case round=>
   rcases hrel with⟨rfl,rfl⟩ | ⟨rfl,rfl⟩ | ⟨rfl,rfl⟩
   ·go_wp2
    all_goals
     refine⟨.inr (.inl ⟨val64' (by omega),rfl⟩),by simp[intOf]⟩
   ·go_wp2
    all_goals
     refine⟨.inr (.inr ⟨val64' (by omega),rfl⟩),by simp[intOf]⟩
   ·go_wp2
    go_ret
    exact⟨rfl,rfl⟩
 ·subst hc
  subst hy';go_enter Tryz.func168,Tryz.ntmps168
  go_wp2;go_step3
  go_wp2;go_step3
  go_wp2;have i0:=I0.out;have i1:=I1.out;clear w1 w2 w3 w4 x1 x2 x3;go_loop [7,21] (fun v7 v21=>LmRel x y v7 v21) (fun _ v21=>(2-(intOf v21).toNat))
  case atStart=>exact .inl ⟨rfl,rfl⟩
  case round=>
   rcases hrel with⟨rfl,rfl⟩ | ⟨rfl,rfl⟩ | ⟨rfl,rfl⟩
   ·go_wp2
    all_goals
     refine⟨.inr (.inl ⟨val64' (by omega),rfl⟩),by simp[intOf]⟩
   ·go_wp2
    all_goals
     refine⟨.inr (.inr ⟨val64' (by omega),rfl⟩),by simp[intOf]⟩
   ·go_wp2
    go_ret
    exact⟨rfl,rfl⟩
theorem may_tsq (a b:Nat) (w:World):
  Calls Tryz.prog 167 #[.int .u64 a, .int .u64 b] w fun e w'=>e= .returned (.bool (decide (a<b)))∧w=w':=by
 go_enter Tryz.func167,Tryz.ntmps167
 go_wp2;go_ret
 exact⟨by simp,rfl⟩
end
section
open Go.RowKit Go.Lib
def Drn (w w':World):Prop:= ∃ n,w'=w.drewN n
theorem Drn.refl (w:World):Drn w w:=⟨0,rfl⟩
theorem Drn.n (w:World) (n:Nat):Drn w (w.drewN n):=⟨n,rfl⟩
theorem Drn.trans {w w' w'':World} (h:Drn w w') (h2:Drn w' w''):Drn w w'':=by
 obtain⟨n,rfl⟩:=h;obtain⟨m,rfl⟩:=h2;exact⟨n+m,by rw[World.drewN_drewN]⟩
theorem Drn.more {w w':World} (h:Drn w w') (n:Nat):Drn w (w'.drewN n):=h.trans ⟨n,rfl⟩
theorem Drn.below {w w':World} (h:Drn w w'):Below w.heap.size w w':=by
 obtain⟨n,rfl⟩:=h;have:=Below.refl w.heap.size w;exact⟨this.os,this.tape,this.output,this.size,this.block⟩
theorem belowN {B:Nat} {w w':World} (h:Below B w w') (n:Nat):Below B w (w'.drewN n):=⟨h.os,h.tape,h.output,h.size,h.block⟩
theorem At.drn {w w':World} {b:Nat} {t:TypeId} {cs:Array Value} (h:At w b t cs) (d:Drn w w'):At w' b t cs:=by
 obtain⟨n,rfl⟩:=d;exact h
theorem stillD {P:Program} {f:FuncId} {args:Array Value} {w:World} {n:Nat} {v:Value}
  (h:Calls P f args (w.drewN n) fun e w'=>e= .returned v∧Drn (w.drewN n) w'):Calls P f args (w.drewN n) fun e w''=>e= .returned v∧ ∃ m,w''=w.drewN m:=
 h.mono fun _ _ ⟨he,m,hm⟩=>⟨he,n+m,by rw[hm,World.drewN_drewN]⟩
theorem wp_name {P:Program} {c:Code} {Q:Exit→Act→World→Prop} {a:Act} {w:World} (Φ:World→Prop) (h0:Φ w) (h: ∀ w',Φ w'→Code.wp P c Q a w'):Code.wp P c Q a w:=h w h0
theorem grown_far {w W:World} {row:Option Nat} {p:Addr} (h:w.grownBy W row) (hp:w.heap.size≤p.block) (u:Value):w.grownBy (W.setCell p u) row:=
 ⟨h.1,h.2,h.3,by simpa [World.setCell]using h.size,fun k hk hne=>(Below.heap_setCell W p u k (by omega)).trans (h.block k hk hne)⟩
structure BF where
 wr:Nat
 tk:Nat
 ba:Nat
 rm:Nat
def buf (s:BF):Array Value:= #[.int .u64 s.wr, .int .u64 s.tk, .int .u64 s.ba, .int .u64 s.rm]
def BF.ok (s:BF):Prop:=s.ba≤s.tk∧s.tk≤s.wr∧s.wr-s.ba≤s.rm∧s.wr≤1000000000000∧s.rm≤1073741824
theorem unsent_any (b:Nat) (s:BF) (hs:s.ok) (w:World) (h:At w b 195 (buf s)):
  Calls Tryz.prog 70 #[.pointer (some ⟨b,0,none⟩)] w fun e w'=>e= .returned (.int .u64 (s.wr-s.tk:Nat))∧Drn w w':=by
 have h0:=h.ce 0;have h1:=h.ce 1;obtain⟨k1,k2,k3,k4,k5⟩:=hs;clear h;go_enter Tryz.func70,Tryz.ntmps70
 go_wp2;go_quiet (fail)
 go_wp2;go_ret
 exact⟨ret64 (by omega),Drn.n _ _⟩
theorem held_any (b:Nat) (s:BF) (hs:s.ok) (w:World) (h:At w b 195 (buf s)):
  Calls Tryz.prog 158 #[.pointer (some ⟨b,0,none⟩)] w fun e w'=>e= .returned (.int .u64 (s.wr-s.ba:Nat))∧Drn w w':=by
 have h0:=h.ce 0;have h1:=h.ce 2;obtain⟨k1,k2,k3,k4,k5⟩:=hs;clear h;go_enter Tryz.func158,Tryz.ntmps158
 go_wp2;go_quiet (fail)
 go_wp2;go_ret
 exact⟨ret64 (by omega),Drn.n _ _⟩
theorem bufnew_any (w:World):
  Calls Tryz.prog 92 #[.int .i64 1073741824] w fun e w'=>e= .returned (.pointer (some ⟨w.heap.size,0,none⟩))∧w'=w.alloc (.cells (buf ⟨0,0,0,1073741824⟩) 195):=by
 go_enter Tryz.func92,Tryz.ntmps92
 go_wp2;go_ret
 exact⟨rfl,rfl⟩
def bwrE (s:BF) (n:Int):Nat:=if n<1 then 1 else if((s.rm-(s.wr-s.ba):Nat):Int)<n then 5 else 0
def bwrF (s:BF) (n:Int):BF:=if bwrE s n=0 then⟨s.wr+n.toNat,s.tk,s.ba,s.rm⟩else s
theorem bwrF_ok {s:BF} {n:Int} (hs:s.ok) (hw:(s.wr:Int)+n≤1000000000000):(bwrF s n).ok:=by
 unfold bwrF;split
 ·rename_i h
  obtain⟨k1,k2,k3,k4,k5⟩:=hs;have h1: ¬ n<1:=fun h'=>by unfold bwrE at h;rw[if_pos h']at h;cases h
  have h2: ¬((s.rm-(s.wr-s.ba):Nat):Int)<n:=fun h'=>by unfold bwrE at h;rw[if_neg h1,if_pos h']at h;cases h
  exact⟨k1,by simp only;omega,by simp only;omega,by simp only;omega,k5⟩
 ·exact hs
theorem bwr_any (b:Nat) (s:BF) (n:Int) (hs:s.ok) (hn:n≤200000) (hn2: -9223372036854775808≤n) (w:World) (h:At w b 195 (buf s)):
  Calls Tryz.prog 129 #[.pointer (some ⟨b,0,none⟩), .int .i64 n] w fun e w'=>e= .returned (.int .i64 (bwrE s n:Nat))∧Put w w' b 195 (buf (bwrF s n)):=by
 have h0:=h.ce 0;have h3:=h.ce 3;have hf:=h.free 0;have HA:=zH h;have HC:Hid (∀ n,Calls Tryz.prog 158 #[.pointer (some ⟨b,0,none⟩)] (w.drewN n) fun e w''=>e= .returned (.int .u64 (s.wr-s.ba:Nat))∧ ∃ m,w''=w.drewN m):=
  zH (fun n=>stillD (held_any b s hs (w.drewN n) h))
 obtain⟨k1,k2,k3,k4,k5⟩:=hs;by_cases h1:n<1
 ·have e1:bwrE s n=1:=by unfold bwrE;rw[if_pos h1]
  have e2:bwrF s n=s:=by unfold bwrF;rw[e1];rfl
  rw[e1,e2];clear e1 e2 h;go_enter Tryz.func129,Tryz.ntmps129
  go_wp2;go_ret
  exact⟨rfl,Put.same HA.out⟩
 ·obtain⟨m,rfl⟩:=Int.eq_ofNat_of_zero_le (show 0≤n by omega)
  obtain⟨H,hH⟩: ∃ H,s.wr-s.ba=H:=⟨_,rfl⟩;have hH2:H≤s.rm:=by omega
  obtain⟨D,hD⟩: ∃ D,s.rm-H=D:=⟨_,rfl⟩;have eD:(s.rm:Int)-H=D:=by omega
  have eD2:=wrapu_of D (by omega);have em:=wrapu_of m (by omega);have e1:bwrE s m=if D<m then 5 else 0:=by unfold bwrE;rw[if_neg h1,hH,hD];simp only[Int.ofNat_lt]
  rw[hH]at HC;have e2:bwrF s m=if D<m then s else⟨s.wr+m,s.tk,s.ba,s.rm⟩:=by
   unfold bwrF;rw[e1];split<;>simp
  rw[e1,e2];clear e1 e2 hH hD h;by_cases hc:D<m
  ·rw[if_pos hc,if_pos hc]
   go_enter Tryz.func129,Tryz.ntmps129
   go_wp2;go_quiet ((go_at_call 158;exact HC.out _))
   go_wp2;go_ret
   exact⟨rfl,HA.out,by_drewN _ _ _⟩
  ·rw[if_neg hc,if_neg hc]
   have hc':m≤D:=by omega
   go_enter Tryz.func129,Tryz.ntmps129
   go_wp2;go_quiet ((go_at_call 158;exact HC.out _))
   go_wp2;go_ret
   refine⟨rfl, ?_⟩;have p:=Put.set (u:= .int .u64 ((s.wr:Int)+m)) (show At (w.drewN nq) b 195 (buf s)from HA.out) 0;exact⟨p.1,(by_drewN w nq _).trans p.2⟩
def backF (s:BF) (upto:Nat):BF:=if s.tk<upto then s else⟨s.wr,s.tk,max s.ba upto,s.rm⟩
theorem backF_ok {s:BF} (hs:s.ok) (upto:Nat):(backF s upto).ok:=by
 obtain⟨k1,k2,k3,k4,k5⟩:=hs;unfold backF;split
 ·exact⟨k1,k2,k3,k4,k5⟩
 ·exact⟨by simp only;omega,k2,by simp only;omega,k4,k5⟩
theorem back_any (b:Nat) (s:BF) (upto:Nat) (hu:upto<18446744073709551616) (w:World) (h:At w b 195 (buf s)):
  Calls Tryz.prog 131 #[.pointer (some ⟨b,0,none⟩), .int .u64 upto] w fun e w'=>(∃ n:Nat,e= .returned (.int .i64 n))∧Put w w' b 195 (buf (backF s upto)):=by
 have h1:=h.ce 1;have h2:=h.ce 2;have hf:=h.free 2;have HA:=zH h;clear h;unfold backF;by_cases hc:s.tk<upto
 ·rw[if_pos hc]
  go_enter Tryz.func131,Tryz.ntmps131
  go_wp2;go_ret
  exact⟨⟨11,rfl⟩,Put.same HA.out⟩
 ·rw[if_neg hc]
  have hc':upto≤s.tk:=by omega
  rcases Nat.lt_or_ge s.ba upto with h3 | h3
  ·rw[Nat.max_eq_right (by omega)]
   go_enter Tryz.func131,Tryz.ntmps131
   go_wp2;go_ret
   exact⟨⟨0,rfl⟩,Put.set HA.out 2⟩
  ·rw[Nat.max_eq_left (by omega)]
   go_enter Tryz.func131,Tryz.ntmps131
   go_wp2;go_ret
   exact⟨⟨0,rfl⟩,Put.set HA.out 2⟩
def btkF (s:BF) (n:Nat):BF:=⟨s.wr,s.tk+n,s.ba,s.rm⟩
theorem btkF_ok {s:BF} (hs:s.ok) {n:Nat} (h:n≤s.wr-s.tk):(btkF s n).ok:=by
 obtain⟨k1,k2,k3,k4,k5⟩:=hs;exact⟨by simp only[btkF];omega,by simp only[btkF];omega,k3,k4,k5⟩
theorem btk_some (b:Nat) (s:BF) (most N:Nat) (hs:s.ok) (h1:1≤most) (h2:most≤65536) (hz:1≤s.wr-s.tk) (hN:min most (s.wr-s.tk)=N) (w:World) (h:At w b 195 (buf s)):
  Calls Tryz.prog 138 #[.pointer (some ⟨b,0,none⟩), .int .i64 most] w fun e w'=>e= .returned (.tuple #[.agg #[.int .u64 s.tk, .int .u64 (s.tk+N:Nat)], .bool true])∧Put w w' b 195 (buf (btkF s N)):=by
 obtain⟨U,hU⟩: ∃ U,s.wr-s.tk=U:=⟨_,rfl⟩;rw[hU]at hz hN;have HC:Hid (∀ w',At w' b 195 (buf s)→Calls Tryz.prog 70 #[.pointer (some ⟨b,0,none⟩)] w' fun e w''=>e= .returned (.int .u64 U)∧Drn w' w''):=
  zH (fun w' h=>by have:=unsent_any b s hs w' h;rw[hU]at this;exact this)
 obtain⟨k1,k2,k3,k4,k5⟩:=hs;have em:=wrapu_of most (by omega);have hc:(U<most∧N=U)∨(most≤U∧N=most):=by omega
 have HA:=zH h;have hblt:=h.lt;have eN:((s.tk+N:Nat):Int)=(s.tk:Int)+N:=by simp
 have hN1:1≤N:=by omega
 have hN2:N≤65536:=by omega
 have y0:((N:Int)==0)=false:=by rw[beq_eq_false_iff_ne];omega
 rw[eN];clear h hN hU k1 k3;rcases hc with⟨hc,rfl⟩ | ⟨hc,rfl⟩
 all_goals
  go_enter Tryz.func138,Tryz.ntmps138
  go_wp2;go_step3
  go_wp2;go_step3
  go_wp2;refine wp_loop_rounds 1 ?_;rw[rounds_succ];go_wp2_with fail
  refine(HC.out _ ((HA.out.kept (World.grownBy_alloc _ _ none) (by simp)).kept (World.grownBy_alloc _ _ none) (by simp))).mono ?_;rintro e w' ⟨rfl,n,rfl⟩;go_wp2_with fail
  obtain⟨hs,eh⟩: ∃ m,w.heap.size=m:=⟨_,rfl⟩;have A3:At ((((w.alloc (.cells #[.int .u64 0, .int .u64 0] 64)).alloc (.cells #[.int .u64 0, .int .u64 0] 64)).drewN n)) (hs+1) 64 #[.int .u64 0, .int .u64 0]:=by
   have:=At.made (w.alloc (.cells #[.int .u64 0, .int .u64 0] 64)) 64 #[.int .u64 0, .int .u64 0];rw[show(w.alloc (.cells #[.int .u64 0, .int .u64 0] 64)).heap.size=hs+1 from by simp[eh]]at this;exact this.drn ⟨n,rfl⟩
  have A4:At ((((w.alloc (.cells #[.int .u64 0, .int .u64 0] 64)).alloc (.cells #[.int .u64 0, .int .u64 0] 64)).drewN n)) hs 64 #[.int .u64 0, .int .u64 0]:=by
   rw[←eh];exact((At.made w _ _).kept (World.grownBy_alloc _ _ none) (by simp)).drn ⟨n,rfl⟩
  refine wp_name (fun W=>At W b 195 (buf s)∧At W (hs+1) 64 #[.int .u64 0, .int .u64 0]∧At W hs 64 #[.int .u64 0, .int .u64 0]∧w.grownBy W (some b)) ⟨((HA.out.kept (World.grownBy_alloc _ _ none) (by simp)).kept (World.grownBy_alloc _ _ none) (by simp)).drn ⟨n,rfl⟩,A3,A4,((World.grownBy_alloc _ _ _).trans (World.grownBy_alloc _ _ _)).trans (by_drewN _ _ _)⟩ ?_;clear A3 A4;rintro W ⟨A2,A3,A4,G2⟩;rw[eh]at hblt;have g1:=A2.ce 1;have g2:=A2.free 1;have c0:=A3.ce 0;have c1:=A3.ce 1;have c2:=A3.free 0;have c3:=A3.free 1;have d0:=A4.ce 0;have d1:=A4.ce 1;have d2:=A4.free 0;have d3:=A4.free 1;have ea:IntKind.u64.wrap ((s.tk:Int)+N)=(s.tk:Int)+N:=by
   have:=wrapu_of (s.tk+N) (by omega);rwa [eN]at this
  have n1:b≠hs+1:=by omega
  have n2:b≠hs:=by omega
  have n3:hs+1≠b:=by omega
  have n4:hs≠b:=by omega
  have A2:=zH A2;have A3:=zH A3;have A4:=zH A4;have G2:=zH G2;simp only[eh];go_region
  go_wp2_with fail
  (try rw[Exit.noGoto_ret])
  refine bodyPost_ret (v:= .tuple #[.agg #[.int .u64 s.tk, .int .u64 ((s.tk:Int)+N)], .bool true]) ?_ rfl (And.intro rfl ?_)
  ·simp[results,Tryz.results138,go_sem,d0,d1]
  refine And.intro ?_ ((((grown_far (grown_far G2.out (by simp[eh]) _) (by simp[eh]) _).trans (grown_set _ b 1 _)).trans (World.grownBy.refl _ _)) |> fun g=>(grown_far (grown_far g (by simp[eh]) _) (by simp[eh]) _).trans (by_drew _ _));have:=(((((A2.out.far (p:=⟨hs+1,0,none⟩) (u:= .int .u64 s.tk) n1).far (p:=⟨hs+1,1,none⟩) (u:= .int .u64 ((s.tk:Int)+N)) n1).set (u:= .int .u64 ((s.tk:Int)+N)) 1).far (p:=⟨hs,0,none⟩) (u:= .int .u64 s.tk) n2).far (p:=⟨hs,1,none⟩) (u:= .int .u64 ((s.tk:Int)+N)) n2).drew;simpa [buf,btkF,eN]using this
end
section
open Go.RowKit Go.Lib
def grow (b:Nat):Nat:=mulDiv b 320 256
theorem grow_any (b:Nat) (hb:b<18446744073709551616) (w:World):
  Calls Tryz.prog 156 #[.int .u64 b, .int .u64 320, .int .u64 256] w fun e w'=>e= .returned (.int .u64 (grow b:Nat))∧w=w':=
 muldiv_any b 320 256 hb (by omega) (by omega) w
structure QS where
 best:Nat
 n:Nat
 full:Bool
def ppp (s:QS):Array Value:= #[.int .u64 s.best, .int .i64 s.n, .bool s.full]
def QS.ok (s:QS):Prop:=s.best<18446744073709551616∧s.n≤3∧(s.full=false→s.n≤2)
def pupF (s:QS) (start limited:Bool) (bw:Nat):QS:=
 if(s.full|| !start||limited)=true then s else if grow s.best≤bw then⟨bw,0,false⟩else⟨s.best,s.n+1,decide (s.n=2)⟩
theorem pupF_ok {s:QS} (h:s.ok) {start limited:Bool} {bw:Nat} (hb:bw<18446744073709551616):(pupF s start limited bw).ok:=by
 obtain⟨b,n,f⟩:=s;obtain⟨h1,h2,h3⟩:=h;simp only at h1 h2 h3
 unfold pupF;cases f
 ·have:=h3 rfl
  split
  ·exact⟨h1,h2,h3⟩
  ·split
   ·exact⟨hb,by simp,by simp⟩
   ·exact⟨h1,by simp;omega,by simp;omega⟩
 ·exact⟨h1,h2,h3⟩
theorem full_any (b:Nat) (s:QS) (w:World) (h:At w b 205 (ppp s)):
  Calls Tryz.prog 79 #[.pointer (some ⟨b,0,none⟩)] w fun e w'=>e= .returned (.bool s.full)∧w=w':=by
 have h0:=h.ce 2;clear h;go_enter Tryz.func79,Tryz.ntmps79
 go_wp2;go_ret
 exact⟨rfl,rfl⟩
theorem ppnew_any (w:World):
  Calls Tryz.prog 124 #[] w fun e w'=>e= .returned (.pointer (some ⟨w.heap.size,0,none⟩))∧w'=w.alloc (.cells (ppp ⟨0,0,false⟩) 205):=by
 go_enter Tryz.func124,Tryz.ntmps124
 go_wp2;go_ret
 exact⟨rfl,rfl⟩
theorem pup_any (b:Nat) (s:QS) (start limited:Bool) (bw:Nat) (hs:s.ok) (w:World) (h:At w b 205 (ppp s)):
  Calls Tryz.prog 191 #[.pointer (some ⟨b,0,none⟩), .bool start, .bool limited, .int .u64 bw] w
   fun e w'=>e= .returned (.bool (pupF s start limited bw).full)∧Put w w' b 205 (ppp (pupF s start limited bw)):=by
 obtain⟨best,n,full⟩:=s;obtain⟨k1,k2,k3⟩:=hs;simp only at k1 k2 k3
 have h0:=h.ce 0;have h1:=h.ce 1;have h2:=h.ce 2;have f0:=h.free 0;have f1:=h.free 1;have f2:=h.free 2;have H:=zH h;have CG:=zH (grow_any best k1);have CF:=zH full_any;clear h k1;unfold pupF;have hc:full=true∨full=false∧start=false∨full=false∧start=true∧limited=true∨full=false∧start=true∧limited=false:=by
  cases full<;>cases start<;>cases limited<;>simp
 generalize grow best=G at*
 rcases hc with rfl | ⟨rfl,rfl⟩ | ⟨rfl,rfl,rfl⟩ | ⟨rfl,rfl,rfl⟩
 ·rw[if_pos (by simp)]
  go_enter Tryz.func191,Tryz.ntmps191
  go_wp2;go_step3
  go_wp2;go_step3
  go_wp2;refine wp_loop_rounds 1 ?_;rw[rounds_succ];go_wp2_with fail
  refine(CF.out b _ _ H.out).mono ?_;rintro e w' ⟨rfl,rfl⟩;go_wp2;(try rw[Exit.noGoto_ret])
  go_ret
  exact⟨rfl,Put.same H.out⟩
 ·rw[if_pos (by simp)]
  go_enter Tryz.func191,Tryz.ntmps191
  go_wp2;go_step3
  go_wp2;go_step3
  go_wp2;refine wp_loop_rounds 1 ?_;rw[rounds_succ];go_wp2_with fail
  refine(CF.out b _ _ H.out).mono ?_;rintro e w' ⟨rfl,rfl⟩;go_wp2;(try rw[Exit.noGoto_ret])
  go_ret
  exact⟨rfl,Put.same H.out⟩
 ·rw[if_pos (by simp)]
  go_enter Tryz.func191,Tryz.ntmps191
  go_wp2;go_step3
  go_wp2;go_step3
  go_wp2;refine wp_loop_rounds 1 ?_;rw[rounds_succ];go_wp2_with fail
  refine(CF.out b _ _ H.out).mono ?_;rintro e w' ⟨rfl,rfl⟩;go_wp2;(try rw[Exit.noGoto_ret])
  go_ret
  exact⟨rfl,Put.same H.out⟩
 ·rw[if_neg (by simp)]
  have k3':=k3 rfl;clear k3;by_cases hg:G≤bw
  ·rw[if_pos hg]
   go_enter Tryz.func191,Tryz.ntmps191
   go_wp2;go_step3
   go_wp2;go_step3
   go_wp2;refine wp_loop_rounds 1 ?_;rw[rounds_succ];go_wp2_with fail
   refine(CG.out _).mono ?_;rintro e w' ⟨rfl,rfl⟩;go_wp2_with fail
   refine(CF.out b ⟨bw,0,false⟩ _ ((H.out.set 0).set 1)).mono ?_;rintro e w' ⟨rfl,rfl⟩;go_wp2;(try rw[Exit.noGoto_ret])
   go_ret
   exact⟨rfl,(Put.set H.out 0).then_ (Put.set (H.out.set 0) 1)⟩
  ·rw[if_neg hg]
   have y:n=0∨n=1∨n=2:=by omega
   rcases y with rfl | rfl | rfl
   all_goals
    go_enter Tryz.func191,Tryz.ntmps191
    go_wp2;go_step3
    go_wp2;go_step3
    go_wp2;refine wp_loop_rounds 1 ?_;rw[rounds_succ];go_wp2_with fail
    refine(CG.out _).mono ?_;rintro e w' ⟨rfl,rfl⟩;go_wp2_with fail
   ·refine(CF.out b ⟨best,1,false⟩ _ ((H.out.set 1).set 2)).mono ?_;rintro e w' ⟨rfl,rfl⟩
    go_wp2;(try rw[Exit.noGoto_ret])
    go_ret
    exact⟨rfl,(Put.set H.out 1).then_ (Put.set (H.out.set 1) 2)⟩
   ·refine(CF.out b ⟨best,2,false⟩ _ ((H.out.set 1).set 2)).mono ?_;rintro e w' ⟨rfl,rfl⟩
    go_wp2;(try rw[Exit.noGoto_ret])
    go_ret
    exact⟨rfl,(Put.set H.out 1).then_ (Put.set (H.out.set 1) 2)⟩
   ·refine(CF.out b ⟨best,3,true⟩ _ ((H.out.set 1).set 2)).mono ?_;rintro e w' ⟨rfl,rfl⟩
    go_wp2;(try rw[Exit.noGoto_ret])
    go_ret
    exact⟨rfl,(Put.set H.out 1).then_ (Put.set (H.out.set 1) 2)⟩
end
section
open Go.RowKit Go.Lib
def delayOf (s:Int) (r:Nat):Nat:=if s<1 then 0 else if r=18446744073709551615 then 0 else min (mulDiv s.toNat 1000000000 r) 1000000000
theorem delayOf_le (s:Int) (r:Nat):delayOf s r≤1000000000:=by unfold delayOf;split<;>(try split)<;>omega
theorem of_any (s:Int) (r:Nat) (hs:s≤9223372036854775807) (hs': -9223372036854775808≤s) (hr:r<18446744073709551616) (w:World):
  Calls Tryz.prog 120 #[.int .i64 s, .int .u64 r] w fun e w'=>e= .returned (.int .u64 (delayOf s r:Nat))∧w=w':=by
 unfold delayOf;by_cases h1:s<1
 ·rw[if_pos h1]
  go_enter Tryz.func120,Tryz.ntmps120
  go_wp2;go_ret
  exact⟨rfl,rfl⟩
 ·rw[if_neg h1]
  obtain⟨n,rfl⟩:=Int.eq_ofNat_of_zero_le (show 0≤s from by omega);by_cases h2:r=18446744073709551615
  ·rw[if_pos h2]
   subst h2;go_enter Tryz.func120,Tryz.ntmps120
   go_wp2;go_ret
   exact⟨rfl,rfl⟩
  ·rw[if_neg h2]
   have y:((r:Int)==18446744073709551615)=false:=by rw[beq_eq_false_iff_ne];omega
   clear h2;have C: ∀ w,Calls Tryz.prog 156 #[.int .u64 n, .int .u64 1000000000, .int .u64 r] w fun e w'=>e= .returned (.int .u64 (mulDiv n 1000000000 r:Nat))∧w=w':=
    fun w=>muldiv_any n 1000000000 r (by omega) (by omega) hr w
   have HC:=zH C;clear C;rw[Int.toNat_natCast];generalize mulDiv n 1000000000 r=m at*
   go_enter Tryz.func120,Tryz.ntmps120
   go_wp2_with (go_at_call 156;refine(HC.out _).mono ?_;rintro e w' ⟨rfl,rfl⟩)
   all_goals go_ret
   all_goals exact⟨ret64 (by omega),rfl⟩
theorem rof_any (s:Int) (r:Nat) (hs:s≤9223372036854775807) (hs': -9223372036854775808≤s) (hr:r<18446744073709551616) (w:World):
  Calls Tryz.prog 16 #[.int .i64 s, .int .u64 r] w fun e w'=>e= .returned (.int .u64 (delayOf s r:Nat))∧w=w':=by
 unfold delayOf;by_cases h1:s<1
 ·rw[if_pos h1]
  go_enter Tryz.func16,Tryz.ntmps16
  go_wp2;go_ret
  exact⟨rfl,rfl⟩
 ·rw[if_neg h1]
  obtain⟨n,rfl⟩:=Int.eq_ofNat_of_zero_le (show 0≤s from by omega);by_cases h2:r=18446744073709551615
  ·rw[if_pos h2]
   subst h2;go_enter Tryz.func16,Tryz.ntmps16
   go_wp2;go_ret
   exact⟨rfl,rfl⟩
  ·rw[if_neg h2]
   have y:((r:Int)==18446744073709551615)=false:=by rw[beq_eq_false_iff_ne];omega
   clear h2;have C: ∀ w,Calls Tryz.prog 36 #[.int .u64 n, .int .u64 1000000000, .int .u64 r] w fun e w'=>e= .returned (.int .u64 (mulDiv n 1000000000 r:Nat))∧w=w':=
    fun w=>rmuldiv_any n 1000000000 r (by omega) (by omega) hr w
   have HC:=zH C;clear C;rw[Int.toNat_natCast];generalize mulDiv n 1000000000 r=m at*
   go_enter Tryz.func16,Tryz.ntmps16
   go_wp2_with (go_at_call 36;refine(HC.out _).mono ?_;rintro e w' ⟨rfl,rfl⟩)
   all_goals go_ret
   all_goals exact⟨ret64 (by omega),rfl⟩
theorem eq0 {a:Nat} (h:((a:Int)==0)=true):a=0:=by simpa using h
theorem ne0 {a:Nat} (h:((a:Int)==0)=false): ¬ a=0:=by simpa using h
theorem val64 {k:IntKind} {a b:Int} (h:a=b):Value.int k a= .int k b:=by rw[h]
def nz (a:Nat):Nat:=if a=0 then 18446744073709551615 else a
def les (a b:Nat):Nat:=min (nz a) (nz b)
def LesRel (a b:Nat) (r i:Value):Prop:=(r= .int .u64 18446744073709551615∧i= .int .i64 0)∨(r= .int .u64 (nz a:Nat)∧i= .int .i64 1)∨(r= .int .u64 (les a b:Nat)∧i= .int .i64 2)
theorem lesser_any (a b:Nat) (ha:a<18446744073709551616) (_:b<18446744073709551616) (w:World):
  Calls Tryz.prog 121 #[.int .u64 a, .int .u64 b] w fun e w'=>e= .returned (.int .u64 (les a b:Nat))∧w=w':=by
 have i0: ∀ w,(Instr.index 260 (.agg #[.int .u64 a, .int .u64 b]) (.int .i64 0)).run Tryz.prog w= .ok (.int .u64 a) w:=fun _=>by kernel_rfl
 have i1: ∀ w,(Instr.index 260 (.agg #[.int .u64 a, .int .u64 b]) (.int .i64 1)).run Tryz.prog w= .ok (.int .u64 b) w:=fun _=>by kernel_rfl
 go_enter Tryz.func121,Tryz.ntmps121
 go_wp2;go_step3
 go_wp2;go_step3
 go_wp2;go_loop [5,11] (fun r i=>LesRel a b r i) (fun _ i=>(2-intOf i).toNat)
 case atStart=>exact .inl ⟨rfl,rfl⟩
 case round=>
  rcases hrel with⟨rfl,rfl⟩ | ⟨rfl,rfl⟩ | ⟨rfl,rfl⟩
  ·go_wp2
   ·have h:a=0:=by first | assumption | exact eq0 (by assumption)
    refine⟨.inr (.inl ⟨val64 ?_,rfl⟩),by simp[intOf]⟩;rw[nz,if_pos h];rfl
   ·have h: ¬ a=0:=by first | assumption | exact ne0 (by assumption)
    refine⟨.inr (.inl ⟨val64 ?_,rfl⟩),by simp[intOf]⟩;rw[nz,if_neg h];first | omega | (split<;>omega)
  ·have hn:nz a<18446744073709551616:=by unfold nz;split<;>omega
   go_wp2
   ·have h:b=0:=by first | assumption | exact eq0 (by assumption)
    refine⟨.inr (.inr ⟨val64 ?_,rfl⟩),by simp[intOf]⟩;rw[les,nz.eq_def b,if_pos h,Nat.min_eq_left (by omega)]
   ·have h: ¬ b=0:=by first | assumption | exact ne0 (by assumption)
    refine⟨.inr (.inr ⟨val64 ?_,rfl⟩),by simp[intOf]⟩;rw[les,nz.eq_def b,if_neg h];first | omega | (split<;>omega)
  ·go_wp2
   go_ret
   exact⟨rfl,rfl⟩
theorem rlesser_any (a b:Nat) (ha:a<18446744073709551616) (hb:b<18446744073709551616) (w:World):
  Calls Tryz.prog 17 #[.int .u64 a, .int .u64 b] w fun e w'=>e= .returned (.int .u64 (les a b:Nat))∧w=w':=by
 have e:nz a=(if a=0 then 18446744073709551615 else a)∧nz b=(if b=0 then 18446744073709551615 else b)∧les a b=min (nz a) (nz b):=⟨rfl,rfl,rfl⟩;generalize les a b=r at*
 have E:=zH e;clear e;rcases Nat.eq_zero_or_pos a with h | h<;>rcases Nat.eq_zero_or_pos b with h' | h'
 ·subst h;subst h'
  go_enter Tryz.func17,Tryz.ntmps17
  go_wp2;go_ret
  obtain⟨e1,e2,e3⟩:=E.out;rw[if_pos trivial]at e1;exact⟨ret64 (by omega),rfl⟩
 ·subst h
  have HB:=zH hb;by_cases hb1:b=18446744073709551615
  ·subst hb1
   clear ha hb h';go_enter Tryz.func17,Tryz.ntmps17
   go_wp2;go_ret
   obtain⟨e1,e2,e3⟩:=E.out;rw[if_pos trivial]at e1;rw[if_neg (by omega)]at e2;exact⟨ret64 (by omega),rfl⟩
  ·have hb2:(b:Int)<18446744073709551615:=by omega
   have HB1:=zH hb1;have y:((b:Int)==0)=false:=by rw[beq_eq_false_iff_ne];omega
   clear ha hb h' hb1;go_enter Tryz.func17,Tryz.ntmps17
   go_wp2;all_goals go_ret
   all_goals obtain⟨e1,e2,e3⟩:=E.out
   all_goals rw[if_pos trivial]at e1
   all_goals rw[if_neg (ne0 y)]at e2
   all_goals exact⟨ret64 (by omega),rfl⟩
 ·subst h'
  have y:((a:Int)==0)=false:=by rw[beq_eq_false_iff_ne];omega
  go_enter Tryz.func17,Tryz.ntmps17
  go_wp2;all_goals go_ret
  all_goals obtain⟨e1,e2,e3⟩:=E.out
  all_goals rw[if_pos trivial]at e2
  all_goals rw[if_neg (by omega)]at e1
  all_goals exact⟨ret64 (by omega),rfl⟩
 ·have y:((a:Int)==0)=false:=by rw[beq_eq_false_iff_ne];omega
  have y':((b:Int)==0)=false:=by rw[beq_eq_false_iff_ne];omega
  go_enter Tryz.func17,Tryz.ntmps17
  go_wp2;all_goals go_ret
  all_goals obtain⟨e1,e2,e3⟩:=E.out
  all_goals rw[if_neg (by omega)]at e1 e2
  all_goals exact⟨ret64 (by omega),rfl⟩
end
end Go.Proofs.YtojgokiobdpclaaGreat
