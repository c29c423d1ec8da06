import Derived.Test.YtojgokiobdpclaaGreatP02
import Derived.Test.YtojgokiobdpclaaGreatP03
import Derived.Below
import Derived.Laws.OwnMore
import Derived.Laws.Rows
import Derived.Deep.LoopGhost
import Derived.Deep.AppendLies
namespace Go.Proofs.YtojgokiobdpclaaGreat
set_option linter.unusedVariables false
set_option linter.unusedSimpArgs false
set_option maxRecDepth 8000
set_option maxHeartbeats 8000000
section
open Go.RowKit Go.Lib
def cyc (phase since:Nat):Array Value:= #[.int .i64 phase, .int .u64 since]
theorem phase_eq (k:Int):(wrap64 (k.tmod 8+8)).tmod 8=((k%8).toNat:Int):=by
 have e: -8<k.tmod 8∧k.tmod 8<8∧(k.tmod 8+8)%8=k%8:=by
  rcases Int.lt_or_le k 0 with h | h
  ·obtain⟨m,rfl⟩: ∃ m:Nat,k= -(m:Int):=⟨k.natAbs,by omega⟩
   rw[Int.neg_tmod,Int.tmod_eq_emod_of_nonneg (by omega)];omega
  ·rw[Int.tmod_eq_emod_of_nonneg h]
   omega
 have w:wrap64 (k.tmod 8+8)=k.tmod 8+8:=by unfold wrap64;omega
 rw[w,Int.tmod_eq_emod_of_nonneg (by omega)];omega
theorem start_any (b p s n:Nat) (k:Int) (w:World) (h:At w b 203 (cyc p s)):
  Calls Tryz.prog 207 #[.pointer (some ⟨b,0,none⟩), .int .u64 n, .int .i64 k] w fun e w'=>e= .returned (.tuple #[])∧Put w w' b 203 (cyc (k%8).toNat n):=by
 have h0:=h.ce 0;have h1:=h.ce 1;have f0:=h.free 0;have f1:=h.free 1;have E:=zH (phase_eq k);have H:=zH h;clear h;go_enter Tryz.func207,Tryz.ntmps207
 go_wp2;rw[E.out];go_end0
 exact⟨rfl,(Put.set H.out 0).then_ (Put.set (H.out.set 0) 1)⟩
theorem start_nat (b p s n k:Nat) (hk:k<8) (w:World) (h:At w b 203 (cyc p s)):
  Calls Tryz.prog 207 #[.pointer (some ⟨b,0,none⟩), .int .u64 n, .int .i64 k] w fun e w'=>e= .returned (.tuple #[])∧Put w w' b 203 (cyc k n):=by
 have c:=start_any b p s n k w h;rw[show((k:Int)%8).toNat=k from by omega]at c;exact c
theorem new_any (w:World):
  Calls Tryz.prog 125 #[] w fun e w'=>e= .returned (.pointer (some ⟨w.heap.size,0,none⟩))∧w'=w.alloc (.cells (cyc 0 0) 203):=by
 go_enter Tryz.func125,Tryz.ntmps125
 go_wp2;go_ret
 exact⟨rfl,rfl⟩
theorem phase_any (b p s:Nat) (w:World) (h:At w b 203 (cyc p s)):
  Calls Tryz.prog 78 #[.pointer (some ⟨b,0,none⟩)] w fun e w'=>e= .returned (.int .i64 p)∧w=w':=by
 have h0:=h.ce 0;clear h;go_enter Tryz.func78,Tryz.ntmps78
 go_wp2;go_ret
 exact⟨rfl,rfl⟩
def gainOf (p:Nat):Nat:=if p=0 then 320 else if p=1 then 192 else 256
theorem gain_any (b p s:Nat) (w:World) (h:At w b 203 (cyc p s)):
  Calls Tryz.prog 109 #[.pointer (some ⟨b,0,none⟩)] w fun e w'=>e= .returned (.int .u64 (gainOf p:Nat))∧w=w':=by
 have h0:=h.ce 0;clear h;unfold gainOf;by_cases p0:p=0
 ·subst p0
  go_enter Tryz.func109,Tryz.ntmps109
  go_wp2;go_ret
  exact⟨rfl,rfl⟩
 ·by_cases p1:p=1
  ·subst p1
   go_enter Tryz.func109,Tryz.ntmps109
   go_wp2;go_ret
   exact⟨rfl,rfl⟩
  ·rw[if_neg p0,if_neg p1]
   have t0:((p:Int)==0)=false:=by rw[beq_eq_false_iff_ne];omega
   have t1:((p:Int)==1)=false:=by rw[beq_eq_false_iff_ne];omega
   clear p0 p1;go_enter Tryz.func109,Tryz.ntmps109
   go_wp2;go_ret
   exact⟨rfl,rfl⟩
def endsB (p:Nat) (over:Bool) (lost flight up one:Nat):Bool:=
 if p=0 then over&&(decide (0<lost)||decide (up≤flight))else if p=1 then over||decide (flight≤one)else over
theorem ends_any (b p s:Nat) (over:Bool) (lost flight up one:Nat) (w:World) (h:At w b 203 (cyc p s)):
  Calls Tryz.prog 206 #[.pointer (some ⟨b,0,none⟩), .bool over, .int .u64 lost, .int .u64 flight, .int .u64 up, .int .u64 one] w fun e w'=>e= .returned (.bool (endsB p over lost flight up one))∧w=w':=by
 have h0:=h.ce 0;clear h;unfold endsB;by_cases p0:p=0
 ·subst p0
  rw[if_pos rfl];cases over
  ·go_enter Tryz.func206,Tryz.ntmps206
   go_wp2;go_ret
   exact⟨rfl,rfl⟩
  ·rcases Nat.eq_zero_or_pos lost with rfl | hl
   ·go_enter Tryz.func206,Tryz.ntmps206
    go_wp2;go_ret
    exact⟨by simp,rfl⟩
   ·go_enter Tryz.func206,Tryz.ntmps206
    go_wp2;go_ret
    exact⟨by simp[hl],rfl⟩
 ·rw[if_neg p0]
  by_cases p1:p=1
  ·subst p1
   rw[if_pos rfl];cases over
   ·go_enter Tryz.func206,Tryz.ntmps206
    go_wp2;go_ret
    exact⟨by simp,rfl⟩
   ·go_enter Tryz.func206,Tryz.ntmps206
    go_wp2;go_ret
    exact⟨rfl,rfl⟩
  ·rw[if_neg p1]
   have t0:((p:Int)==0)=false:=by rw[beq_eq_false_iff_ne];omega
   have t1:((p:Int)==1)=false:=by rw[beq_eq_false_iff_ne];omega
   clear p0 p1;go_enter Tryz.func206,Tryz.ntmps206
   go_wp2;go_ret
   exact⟨rfl,rfl⟩
def nextB (p s now rtt lost flight up one:Nat):Bool:=endsB p (decide (rtt<now-s)) lost flight up one
theorem update_yes (b p s now rtt lost flight up one:Nat) (hp:p<8) (hs:s<18446744073709551616) (hn:now<18446744073709551616) (w:World) (h:At w b 203 (cyc p s)) (hy:nextB p s now rtt lost flight up one=true):
  Calls Tryz.prog 189 #[.pointer (some ⟨b,0,none⟩), .int .u64 now, .int .u64 rtt, .int .u64 lost, .int .u64 flight, .int .u64 up, .int .u64 one] w
   fun e w'=>e= .returned (.bool true)∧Put w w' b 203 (cyc ((p+1)%8) now):=by
 have h0:=h.ce 0;have h1:=h.ce 1;have CS:=zH (sub_any now s hn hs);have ce:=ends_any b p s (decide (rtt<satSub now s)) lost flight up one w h;rw[show endsB p (decide (rtt<satSub now s)) lost flight up one=true from hy]at ce;have CE:=zH ce;have c:=start_any b p s now ((p:Int)+1) w h;rw[show(((p:Int)+1)%8).toNat=(p+1)%8 from by omega]at c;have C:=zH c;clear h ce c hy;go_enter Tryz.func189,Tryz.ntmps189
 go_wp2;go_step3
 go_wp2;go_step3
 go_wp2;refine wp_loop_rounds 1 ?_;rw[rounds_succ];go_wp2_with fail
 refine(CS.out _).mono ?_;rintro e w1 ⟨rfl,rfl⟩;go_wp2_with fail
 refine CE.out.mono ?_;rintro e w1 ⟨rfl,rfl⟩;go_wp2_with fail
 refine C.out.mono ?_;rintro e w1 ⟨rfl,hput⟩;go_wp2;(try rw[Exit.noGoto_ret])
 go_ret
 exact⟨rfl,hput⟩
theorem update_no (b p s now rtt lost flight up one:Nat) (hs:s<18446744073709551616) (hn:now<18446744073709551616) (w:World) (h:At w b 203 (cyc p s)) (hy:nextB p s now rtt lost flight up one=false):
  Calls Tryz.prog 189 #[.pointer (some ⟨b,0,none⟩), .int .u64 now, .int .u64 rtt, .int .u64 lost, .int .u64 flight, .int .u64 up, .int .u64 one] w
   fun e w'=>e= .returned (.bool false)∧w=w':=by
 have h0:=h.ce 0;have h1:=h.ce 1;have CS:=zH (sub_any now s hn hs);have ce:=ends_any b p s (decide (rtt<satSub now s)) lost flight up one w h;rw[show endsB p (decide (rtt<satSub now s)) lost flight up one=false from hy]at ce;have CE:=zH ce;clear h ce hy;go_enter Tryz.func189,Tryz.ntmps189
 go_wp2;go_step3
 go_wp2;go_step3
 go_wp2;refine wp_loop_rounds 1 ?_;rw[rounds_succ];go_wp2_with fail
 refine(CS.out _).mono ?_;rintro e w1 ⟨rfl,rfl⟩;go_wp2_with fail
 refine CE.out.mono ?_;rintro e w1 ⟨rfl,rfl⟩;go_wp2;(try rw[Exit.noGoto_ret])
 go_ret
 exact⟨rfl,rfl⟩
end
section
open Go.RowKit Go.Lib
structure PS where
 best:Nat
 stamp:Nat
 inn:Bool
 till:Nat
 round:Bool
def prb (s:PS):Array Value:= #[.int .u64 s.best, .int .u64 s.stamp, .bool s.inn, .int .u64 s.till, .bool s.round]
def leavesF (s:PS) (now:Nat) (start:Bool) (flight floor:Nat):Bool×PS:=
 if s.till=0 then(false,if flight≤floor then⟨s.best,s.stamp,s.inn,satAdd now 200000000,false⟩else s)
 else if(!(s.round||start)||decide (now≤s.till))=true then(false,⟨s.best,s.stamp,s.inn,s.till,s.round||start⟩)
 else(true,⟨s.best,now,false,s.till,s.round||start⟩)
theorem leaves_any (b:Nat) (s:PS) (now:Nat) (start:Bool) (flight floor:Nat) (hn:now<18446744073709551616) (w:World) (h:At w b 199 (prb s)):
  Calls Tryz.prog 221 #[.pointer (some ⟨b,0,none⟩), .int .u64 now, .bool start, .int .u64 flight, .int .u64 floor] w
   fun e w'=>e= .returned (.bool (leavesF s now start flight floor).1)∧Put w w' b 199 (prb (leavesF s now start flight floor).2):=by
 obtain⟨best,stamp,inn,till,round⟩:=s;have h0:=h.ce 0;have h1:=h.ce 1;have h2:=h.ce 2;have h3:=h.ce 3;have h4:=h.ce 4;have f0:=h.free 0;have f1:=h.free 1;have f2:=h.free 2;have f3:=h.free 3;have f4:=h.free 4;have H:=zH h;have CA:=zH (add_any now 200000000 hn (by omega));clear h;unfold leavesF;generalize satAdd now 200000000=X at*
 rcases Nat.eq_zero_or_pos till with rfl | ht
 ·rw[if_pos rfl]
  by_cases hf:flight≤floor
  ·rw[if_pos hf]
   go_enter Tryz.func221,Tryz.ntmps221
   go_wp2_with fail
   refine(CA.out _).mono ?_;rintro e w' ⟨rfl,rfl⟩;go_wp2;go_ret
   exact⟨rfl,(Put.set H.out 3).then_ (Put.set (H.out.set 3) 4)⟩
  ·rw[if_neg hf]
   go_enter Tryz.func221,Tryz.ntmps221
   go_wp2;go_ret
   exact⟨rfl,Put.same H.out⟩
 ·rw[if_neg (show ¬ till=0 from by omega)]
  have y:((till:Int)==0)=false:=by rw[beq_eq_false_iff_ne];omega
  by_cases hl:now≤till
  ·have e: ∀ x:Bool,(!x||decide (now≤till))=true:=fun x=>by simp[hl]
   rw[if_pos (e _)];clear e;cases round<;>cases start
   all_goals
    go_enter Tryz.func221,Tryz.ntmps221
    go_wp2;go_ret
    exact⟨rfl,Put.set H.out 4⟩
  ·cases hrs:(round||start)with
   | false=>
    obtain⟨rfl,rfl⟩:round=false∧start=false:=by simpa using hrs
    rw[if_pos (by simp)];clear hrs;all_goals
     go_enter Tryz.func221,Tryz.ntmps221
     go_wp2;go_ret
     exact⟨rfl,Put.set H.out 4⟩
   | true=>
    rw[if_neg (by simp[hl])];have hc:round=true∨round=false∧start=true:=by cases round<;>simp_all
    clear hrs;rcases hc with rfl | ⟨rfl,rfl⟩
    all_goals
     go_enter Tryz.func221,Tryz.ntmps221
     go_wp2;go_ret
     exact⟨rfl,((Put.set H.out 4).then_ (Put.set (H.out.set 4) 1)).then_ (Put.set ((H.out.set 4).set 1) 2)⟩
end
section
open Go.RowKit Go.Lib
theorem scaled1_core (v x y r:Nat) (b:Nat) (w:World) (hbl:b<w.heap.size) (h0:w.cell? ⟨b,0,none⟩=some (.int .u64 x)) (h1:w.cell? ⟨b,1,none⟩=some (.int .u64 y))
  (hv:v=0∧r=0∨((v:Int)==0)=false)
  (c: ∀ w,Calls Tryz.prog 156 #[.int .u64 v, .int .u64 x, .int .u64 y] w fun e w'=>e= .returned (.int .u64 r)∧w=w'):
  Calls Tryz.prog 157 #[.int .u64 v, .slice (some ⟨b,0,none⟩) 1 1] w fun e w'=>e= .returned (.int .u64 r)∧Below w.heap.size w w':=by
 have C:=zH c;clear c;rcases hv with⟨rfl,rfl⟩ | hv
 ·go_enter Tryz.func157,Tryz.ntmps157
  go_wp2_with fail
  go_step3
  go_wp2;go_step3
  go_wp2;refine wp_loop_rounds 2 ?_;rw[rounds_succ];go_wp2;(try rw[Exit.noGoto_ret])
  go_ret
  exact⟨rfl,(Below.refl _ _).alloc (Nat.le_refl _) _⟩
 ·go_enter Tryz.func157,Tryz.ntmps157
  go_wp2_with fail
  go_step3
  go_wp2;go_step3
  go_wp2;refine wp_loop_rounds 2 ?_;rw[rounds_succ];go_wp2_with fail
  refine(C.out _).mono ?_;rintro e w' ⟨rfl,rfl⟩;go_wp2;rw[rounds_succ];go_wp2;(try rw[Exit.noGoto_ret])
  go_ret
  exact⟨rfl,(Below.refl _ _).alloc (Nat.le_refl _) _⟩
theorem scaled2_core (v x y x2 y2 r r2:Nat) (b:Nat) (w:World) (hbl:b<w.heap.size) (h0:w.cell? ⟨b,0,none⟩=some (.int .u64 x)) (h1:w.cell? ⟨b,1,none⟩=some (.int .u64 y))
  (h2:w.cell? ⟨b,2,none⟩=some (.int .u64 x2)) (h3:w.cell? ⟨b,3,none⟩=some (.int .u64 y2))
  (hv:v=0∧r2=0∨((v:Int)==0)=false∧(r=0∧r2=0∨((r:Int)==0)=false))
  (c: ∀ w,Calls Tryz.prog 156 #[.int .u64 v, .int .u64 x, .int .u64 y] w fun e w'=>e= .returned (.int .u64 r)∧w=w')
  (c2: ∀ w,Calls Tryz.prog 156 #[.int .u64 r, .int .u64 x2, .int .u64 y2] w fun e w'=>e= .returned (.int .u64 r2)∧w=w'):
  Calls Tryz.prog 157 #[.int .u64 v, .slice (some ⟨b,0,none⟩) 2 2] w fun e w'=>e= .returned (.int .u64 r2)∧Below w.heap.size w w':=by
 have C:=zH c;have C2:=zH c2;clear c c2;rcases hv with⟨rfl,rfl⟩ | ⟨hv,⟨rfl,rfl⟩ | hr⟩
 ·go_enter Tryz.func157,Tryz.ntmps157
  go_wp2_with fail
  go_step3
  go_wp2;go_step3
  go_wp2;refine wp_loop_rounds 3 ?_;rw[rounds_succ];go_wp2;(try rw[Exit.noGoto_ret])
  go_ret
  exact⟨rfl,(Below.refl _ _).alloc (Nat.le_refl _) _⟩
 ·go_enter Tryz.func157,Tryz.ntmps157
  go_wp2_with fail
  go_step3
  go_wp2;go_step3
  go_wp2;refine wp_loop_rounds 3 ?_;rw[rounds_succ];go_wp2_with fail
  refine(C.out _).mono ?_;rintro e w' ⟨rfl,rfl⟩;go_wp2;rw[rounds_succ];go_wp2;(try rw[Exit.noGoto_ret])
  go_ret
  exact⟨rfl,((Below.refl _ _).alloc (Nat.le_refl _) _).alloc (by simp) _⟩
 ·go_enter Tryz.func157,Tryz.ntmps157
  go_wp2_with fail
  go_step3
  go_wp2;go_step3
  go_wp2;refine wp_loop_rounds 3 ?_;rw[rounds_succ];go_wp2_with fail
  refine(C.out _).mono ?_;rintro e w' ⟨rfl,rfl⟩;go_wp2;rw[rounds_succ];go_wp2_with fail
  refine(C2.out _).mono ?_;rintro e w' ⟨rfl,rfl⟩;go_wp2;rw[rounds_succ];go_wp2;(try rw[Exit.noGoto_ret])
  go_ret
  exact⟨rfl,((Below.refl _ _).alloc (Nat.le_refl _) _).alloc (by simp) _⟩
def bdp (bw rtt gain:Nat):Nat:=mulDiv (mulDiv bw rtt 1000000000) gain 256
def trate (bw gain:Nat):Nat:=mulDiv bw gain 256
def window (bw rtt gain tso mss:Nat):Nat:=if rtt=0 then satMul 10 mss else max (satAdd (bdp bw rtt gain) (satMul 3 tso)) (satMul 4 mss)
theorem mulDiv_z (b c:Nat):mulDiv 0 b c=0:=by unfold mulDiv;simp
theorem zero_or (v:Nat):v=0∨((v:Int)==0)=false:=by
 rcases Nat.eq_zero_or_pos v with h | h
 ·exact .inl h
 ·exact .inr (by rw[beq_eq_false_iff_ne];omega)
theorem rate_any (v x:Nat) (hv:v<18446744073709551616) (hx:x<18446744073709551616) (w:World):
  Calls Tryz.prog 128 #[.int .u64 v, .int .u64 x] w fun e w'=>e= .returned (.int .u64 (trate v x:Nat))∧Below w.heap.size w w':=by
 have C: ∀ w,Calls Tryz.prog 156 #[.int .u64 v, .int .u64 x, .int .u64 256] w fun e w'=>e= .returned (.int .u64 (trate v x:Nat))∧w=w':=
  fun w=>muldiv_any v x 256 hv hx (by omega) w
 have hz:v=0∧trate v x=0∨((v:Int)==0)=false:=by
  rcases zero_or v with h | h
  ·exact .inl ⟨h,by rw[h];exact mulDiv_z _ _⟩
  ·exact .inr h
 generalize trate v x=r at*
 have HZ:=zH hz;have HC:=zH C;clear hz C;go_enter Tryz.func128,Tryz.ntmps128
 go_wp2_with fail
 refine(scaled1_core v x 256 r _ _ (by simp) (by simp[go_sem]) (by simp[go_sem]) HZ.out HC.out).mono ?_;rintro e w' ⟨rfl,hb⟩;go_wp2;go_ret
 exact⟨rfl,((Below.refl _ _).alloc (Nat.le_refl _) _).trans (hb.mono (by simp))⟩
theorem bdp_any (v x g:Nat) (hv:v<18446744073709551616) (hx:x<18446744073709551616) (hg:g<18446744073709551616) (w:World):
  Calls Tryz.prog 208 #[.int .u64 v, .int .u64 x, .int .u64 g] w fun e w'=>e= .returned (.int .u64 (bdp v x g:Nat))∧Below w.heap.size w w':=by
 have C: ∀ w,Calls Tryz.prog 156 #[.int .u64 v, .int .u64 x, .int .u64 1000000000] w fun e w'=>e= .returned (.int .u64 (mulDiv v x 1000000000:Nat))∧w=w':=
  fun w=>muldiv_any v x 1000000000 hv hx (by omega) w
 have C2: ∀ w,Calls Tryz.prog 156 #[.int .u64 (mulDiv v x 1000000000:Nat), .int .u64 g, .int .u64 256] w fun e w'=>e= .returned (.int .u64 (bdp v x g:Nat))∧w=w':=
  fun w=>muldiv_any _ g 256 (mulDiv_lt _ _ _) hg (by omega) w
 have hz:v=0∧bdp v x g=0∨((v:Int)==0)=false∧(mulDiv v x 1000000000=0∧bdp v x g=0∨((mulDiv v x 1000000000:Int)==0)=false):=by
  rcases zero_or v with h | h
  ·exact .inl ⟨h,by rw[h];unfold bdp;rw[mulDiv_z,mulDiv_z]⟩
  ·refine .inr ⟨h, ?_⟩
   rcases zero_or (mulDiv v x 1000000000)with h | h
   ·exact .inl ⟨h,by unfold bdp;rw[h,mulDiv_z]⟩
   ·exact .inr h
 generalize bdp v x g=r2 at*
 generalize mulDiv v x 1000000000=r at*
 have HZ:=zH hz;have HC:=zH C;have HC2:=zH C2;clear hz C C2;go_enter Tryz.func208,Tryz.ntmps208
 go_wp2_with fail
 refine(scaled2_core v x 1000000000 g 256 r r2 _ _ (by simp) (by simp[go_sem]) (by simp[go_sem]) (by simp[go_sem]) (by simp[go_sem]) HZ.out HC.out HC2.out).mono ?_;rintro e w' ⟨rfl,hb⟩;go_wp2;go_ret
 exact⟨rfl,((Below.refl _ _).alloc (Nat.le_refl _) _).trans (hb.mono (by simp))⟩
theorem bdp_lt (v x g:Nat):bdp v x g<18446744073709551616:=mulDiv_lt _ _ _
theorem window_core (v x g t m B T S M F W:Nat) (hB:B<18446744073709551616)
  (hx:x=0∧W=F∨((x:Int)==0)=false∧W=max S M)
  (cf: ∀ w,Calls Tryz.prog 222 #[.int .u64 10, .int .u64 m] w fun e w'=>e= .returned (.int .u64 F)∧w=w')
  (cb: ∀ w,Calls Tryz.prog 208 #[.int .u64 v, .int .u64 x, .int .u64 g] w fun e w'=>e= .returned (.int .u64 B)∧Below w.heap.size w w')
  (ct: ∀ w,Calls Tryz.prog 222 #[.int .u64 3, .int .u64 t] w fun e w'=>e= .returned (.int .u64 T)∧w=w')
  (cs: ∀ w,Calls Tryz.prog 119 #[.int .u64 B, .int .u64 T] w fun e w'=>e= .returned (.int .u64 S)∧w=w')
  (cm: ∀ w,Calls Tryz.prog 222 #[.int .u64 4, .int .u64 m] w fun e w'=>e= .returned (.int .u64 M)∧w=w') (w:World):
  Calls Tryz.prog 213 #[.int .u64 v, .int .u64 x, .int .u64 g, .int .u64 t, .int .u64 m] w fun e w'=>e= .returned (.int .u64 W)∧Below w.heap.size w w':=by
 have CF:=zH cf;have CB:=zH cb;have CT:=zH ct;have CS:=zH cs;have CM:=zH cm;clear cf cb ct cs cm;rcases hx with⟨rfl,rfl⟩ | ⟨hx,rfl⟩
 ·go_enter Tryz.func213,Tryz.ntmps213
  go_wp2_with fail
  refine(CF.out _).mono ?_;rintro e w' ⟨rfl,rfl⟩;go_wp2;go_ret
  exact⟨rfl,Below.refl _ _⟩
 ·go_enter Tryz.func213,Tryz.ntmps213
  go_wp2_with fail
  refine(CB.out _).mono ?_;rintro e w' ⟨rfl,hb⟩;go_wp2_with fail
  refine(CT.out _).mono ?_;rintro e w' ⟨rfl,rfl⟩;go_wp2_with fail
  refine(CS.out _).mono ?_;rintro e w' ⟨rfl,rfl⟩;go_wp2_with fail
  refine(CM.out _).mono ?_;rintro e w' ⟨rfl,rfl⟩;go_wp2;all_goals go_ret
  all_goals exact⟨ret64 (by omega),hb⟩
theorem window_hx (v x g t m:Nat):x=0∧window v x g t m=satMul 10 m∨((x:Int)==0)=false∧window v x g t m=max (satAdd (bdp v x g) (satMul 3 t)) (satMul 4 m):=by
 unfold window;rcases Nat.eq_zero_or_pos x with h | h
 ·exact .inl ⟨h,by rw[if_pos h]⟩
 ·exact .inr ⟨by rw[beq_eq_false_iff_ne];omega,by rw[if_neg (by omega)]⟩
theorem window_any (v x g t m:Nat) (hv:v<18446744073709551616) (hx:x<18446744073709551616) (hg:g<18446744073709551616) (ht:t<18446744073709551616) (hm:m<18446744073709551616) (w:World):
  Calls Tryz.prog 213 #[.int .u64 v, .int .u64 x, .int .u64 g, .int .u64 t, .int .u64 m] w fun e w'=>e= .returned (.int .u64 (window v x g t m:Nat))∧Below w.heap.size w w':=
 window_core v x g t m (bdp v x g) (satMul 3 t) (satAdd (bdp v x g) (satMul 3 t)) (satMul 4 m) (satMul 10 m) _ (bdp_lt _ _ _) (window_hx v x g t m)
  (smul_any 10 m (by omega) hm) (bdp_any v x g hv hx hg) (smul_any 3 t (by omega) ht) (add_any _ _ (bdp_lt _ _ _) satMul_lt) (smul_any 4 m (by omega) hm) w
end
section
open Go.RowKit
def Sli (w:World) (g:Nat→Nat) (i:Nat) (e:TypeId) (size:Nat) (v:Value) (n:Nat) (xs:List Value):Prop:=
 xs.length=n*size∧
 ((v= .slice none 0 0∧n=0)∨
 ∃ b off cap cur,v= .slice (some ⟨b,off,none⟩) n cap∧g b=i∧w.heap[b]? =some (.cells cur e (0,0))∧n≤cap∧cap≤maxLen∧off+cap*size≤cur.size∧(cur.toList.drop off).take (n*size)=xs)
section
variable {w w' w'':World} {g g' g'':Nat→Nat} {i lo hi:Nat} {e:TypeId} {size:Nat} {v:Value} {n:Nat} {xs:List Value}
theorem Sli.nil (w:World) (g:Nat→Nat) (i:Nat) (e:TypeId) (size:Nat):Sli w g i e size (.slice none 0 0) 0 []:=⟨by simp, .inl ⟨rfl,rfl⟩⟩
theorem lt_of_heap {w:World} {b:Nat} {o:Obj} (h:w.heap[b]? =some o):b<w.heap.size:=by
 rcases Nat.lt_or_ge b w.heap.size with hlt | hge
 ·exact hlt
 ·rw[Array.getElem?_eq_none hge]at h;cases h
theorem Sli.form (h:Sli w g i e size v n xs):(v= .slice none 0 0∧n=0∧xs=[])∨ ∃ b off cap,v= .slice (some ⟨b,off,none⟩) n cap∧g b=i∧b<w.heap.size∧n≤cap∧cap≤maxLen:=by
 rcases h.2 with⟨h1,h2⟩ | ⟨b,off,cap,cur,h1,h2,h3,h4,h5,h6,h7⟩
 ·exact .inl ⟨h1,h2,by have:=h.1;rw[h2]at this;simpa using this⟩
 ·exact .inr ⟨b,off,cap,h1,h2,lt_of_heap h3,h4,h5⟩
theorem Sli.cap_ (h:Sli w g i e size v n xs): ∃ a cap,v= .slice a n cap∧n≤cap∧cap≤maxLen:=by
 rcases h.2 with⟨h1,h2⟩ | ⟨b,off,cap,cur,h1,h2,h3,h4,h5,h6,h7⟩
 ·exact⟨none,0,by rw[h1,h2],by omega,by decide⟩
 ·exact⟨_,cap,h1,h4,h5⟩
theorem Sli.cells {b off cap:Nat} (h:Sli w g i e size (.slice (some ⟨b,off,none⟩) n cap) n xs) (j:Nat) (hj:j<n*size):w.cell? ⟨b,off+j,none⟩=xs[j]? :=by
 rcases h.2 with⟨h1,h2⟩ | ⟨b',off',cap',cur,h1,h2,h3,h4,h5,h6,h7⟩
 ·cases h1
 ·cases h1
  rw[cell_of_row w b (off+j) cur e (0,0) h3,←h7,List.getElem?_take_of_lt hj,List.getElem?_drop];simp
theorem Sli.free {b off cap:Nat} (h:Sli w g i e size (.slice (some ⟨b,off,none⟩) n cap) n xs) (j:Nat):w.frozen? ⟨b,j,none⟩=false:=by
 rcases h.2 with⟨h1,h2⟩ | ⟨b',off',cap',cur,h1,h2,h3,h4,h5,h6,h7⟩
 ·cases h1
 ·cases h1
  simp[World.frozen?,h3]
theorem Sli.tag_ {b off cap:Nat} (h:Sli w g i e size (.slice (some ⟨b,off,none⟩) n cap) n xs):g b=i∧b<w.heap.size:=by
 rcases h.2 with⟨h1,h2⟩ | ⟨b',off',cap',cur,h1,h2,h3,h4,h5,h6,h7⟩
 ·cases h1
 ·cases h1
  exact⟨h2,lt_of_heap h3⟩
theorem Sli.same (h:Sli w g i e size v n xs) (hb: ∀ b,b<w.heap.size→g b=i→w'.heap[b]? =w.heap[b]? ∧g' b=g b):Sli w' g' i e size v n xs:=by
 refine⟨h.1, ?_⟩;rcases h.2 with hn | ⟨b,off,cap,cur,h1,h2,h3,h4⟩
 ·exact .inl hn
 ·obtain⟨k1,k2⟩:=hb b (lt_of_heap h3) h2
  exact .inr ⟨b,off,cap,cur,h1,k2.trans h2,k1.trans h3,h4⟩
theorem Sli.chg (h:Sli w g i e size v n xs) (c:Chg w w' g g' lo hi) (hi':i<lo∨hi≤i):Sli w' g' i e size v n xs:=
 h.same fun b hb hg=>⟨c.kept b hb (by rw[hg];exact hi'),c.old b hb⟩
theorem Sli.below (h:Sli w g i e size v n xs) (hb:Below w.heap.size w w'):Sli w' g i e size v n xs:=h.same fun b hlt _=>⟨hb.block b hlt,rfl⟩
theorem Sli.alloc (h:Sli w g i e size v n xs) (o:Obj):Sli (w.alloc o) g i e size v n xs:=h.same fun b hlt _=>⟨heap_alloc_old w o hlt,rfl⟩
theorem Sli.drew (h:Sli w g i e size v n xs):Sli w.drew g i e size v n xs:=h
theorem Sli.drewN (h:Sli w g i e size v n xs) (k:Nat):Sli (w.drewN k) g i e size v n xs:=h
theorem Sli.other (h:Sli w g i e size v n xs) {row:Option Nat} (hg:w.grownBy w' row) (hne: ∀ b,row=some b→b<w.heap.size→g b≠i):Sli w' g i e size v n xs:=
 h.same fun b hlt ht=>⟨hg.block b hlt fun e=>hne b e.symm hlt ht,rfl⟩
theorem Sli.set_other (h:Sli w g i e size v n xs) {p:Addr} (u:Value) (hne:g p.block≠i):Sli (w.setCell p u) g i e size v n xs:=
 h.same fun b hlt ht=>⟨Below.heap_setCell w p u b fun e=>hne (by rw[←e];exact ht),rfl⟩
theorem Sli.stored {b off cap:Nat} (h:Sli w g i e size (.slice (some ⟨b,off,none⟩) n cap) n xs) (j:Nat) (u:Value) (hj:j<n*size):Sli (w.setCell ⟨b,off+j,none⟩ u) g i e size (.slice (some ⟨b,off,none⟩) n cap) n (xs.set j u):=by
 refine⟨by simpa using h.1, ?_⟩;rcases h.2 with⟨h1,h2⟩ | ⟨b',off',cap',cur,h1,h2,h3,h4,h5,h6,h7⟩
 ·cases h1
 ·cases h1
  refine .inr ⟨b,off,cap,cur.setIfInBounds (off+j) u,rfl,h2, ?_,h4,h5,by simpa using h6, ?_⟩
  ·simp[World.setCell,Array.getElem?_modify,h3]
  ·rw[←h7]
   apply List.ext_getElem?
   intro k;rw[List.getElem?_set];by_cases hk:k<n*size
   ·rw[List.getElem?_take_of_lt hk,List.getElem?_drop]
    simp only[Array.toList_setIfInBounds,List.getElem?_set,List.getElem?_take_of_lt hk,List.getElem?_drop,List.length_take,List.length_drop,Array.length_toList];by_cases e1:j=k
    ·subst e1
     have:off+j<cur.size:=by
      have:n*size≤cap*size:=Nat.mul_le_mul_right _ h4;omega
     simp
     rw[if_pos (by omega),if_pos (by omega)]
    ·rw[if_neg (by omega),if_neg e1]
   ·rw[List.getElem?_take_eq_none (by omega)]
    rw[if_neg (by omega),List.getElem?_take_eq_none (by omega)]
theorem Sli.tail {b off cap:Nat} (h:Sli w g i e size (.slice (some ⟨b,off,none⟩) n cap) n xs) (hn:0<n):
  Sli w g i e size (.slice (some (if cap=1 then⟨b,off,none⟩else⟨b,off+size,none⟩)) (n-1) (cap-1)) (n-1) (xs.drop size):=by
 have hm:n*size=(n-1)*size+size:=by rw[←Nat.succ_mul];congr 1;omega
 refine⟨by rw[List.length_drop,h.1,hm];omega, ?_⟩;rcases h.2 with⟨h1,h2⟩ | ⟨b',off',cap',cur,h1,h2,h3,h4,h5,h6,h7⟩
 ·cases h1
 ·cases h1
  have hm2:cap*size=(cap-1)*size+size:=by rw[←Nat.succ_mul];congr 1;omega
  by_cases hc:cap=1
  ·subst hc
   obtain rfl:n=1:=by omega
   refine .inr ⟨b,off,0,cur,by simp,h2,h3,by omega,by omega,by omega, ?_⟩;have:=h.1;simp only[Nat.one_mul]at this;rw[List.drop_eq_nil_of_le (Nat.le_of_eq this)];simp
  ·refine .inr ⟨b,off+size,cap-1,cur,by simp[hc],h2,h3,by omega,by omega,by omega, ?_⟩
   rw[←h7,List.drop_take,List.drop_drop];congr 1
   omega
theorem Sli.of_own {base:Nat} (h:w.ownsRow base e size v n xs) (hg: ∀ b,v.ownBlock=some b→g' b=i):Sli w g' i e size v n xs:=by
 refine⟨h.1, ?_⟩;rcases h.2 with hn | ⟨b,cap,cur,h1,h2,h3,h4,h5,h6,h7⟩
 ·exact .inl hn
 ·subst h1
  exact .inr ⟨b,0,cap,cur,rfl,hg b rfl,h3,h4,h5,by omega,by simpa using h7⟩
theorem Chg.retag (h:Chg w w' g g' lo hi) {b:Nat} (i:Nat) (h1:w.heap.size≤b) (h2:b<w'.heap.size):Chg w w' g (tagAt g' b i) lo hi:=
 ⟨h.os,h.tape,h.output,h.size,fun k hk=>by rw[tagAt_ne g' i (by omega)];exact h.tidy k hk,fun k hk=>by rw[tagAt_ne g' i (by omega)];exact h.old k hk,h.kept⟩
theorem Chg.retagO (h:Chg w w' g g' lo hi) (v:Value) (i:Nat) (hv: ∀ b,v.ownBlock=some b→w.heap.size≤b∧b<w'.heap.size): ∃ g'',Chg w w' g g'' lo hi∧(∀ b,v.ownBlock=some b→g'' b=i)∧ ∀ b,v.ownBlock≠some b→g'' b=g' b:=by
 cases hb:v.ownBlock with
 | none=>exact⟨g',h,by simp,by simp⟩
 | some b=>
  obtain⟨h1,h2⟩:=hv b hb;exact⟨tagAt g' b i,h.retag i h1 h2,by simp[tagAt],fun k hk=>tagAt_ne g' i (by rintro rfl;simp at hk)⟩
end
section
variable {P:Program} (w:World)
theorem run_append_roomO (t ty e:TypeId) (i:TypeInfo) (ht:P.underlying t=some (.slice e)) (hi:P.info? e=some i)
  (g off sLen sCap:Nat) (cur:Array Value) (hg:w.heap[g]? =some (.cells cur e (0,0)))
  (a:Addr) (m c:Nat) (news:List Value) (hl:news.length=m*i.size) (hnews: ∀ j u,news[j]? =some u→w.cell? (a.add j)=some u) (h1: ∀ u∈news,u.oneCell'=true)
  (hroom:sLen+m≤sCap) (hfit:off+sLen*i.size+news.length≤cur.size):
  (Builtin.append_ #[t,t] ty #[.slice (some ⟨g,off,none⟩) sLen sCap, .slice (some a) m c]).run P w=
   .ok (.slice (some ⟨g,off,none⟩) (sLen+m) sCap) (w.setRow g (cur.toList.take (off+sLen*i.size)++news++cur.toList.drop (off+sLen*i.size+news.length)).toArray):=by
 have hf:=run_firstCells_some (P:=P) w i.size m a m c news hl hnews;have hst:=run_storeCells_at P g (off+sLen*i.size) e news 0 cur w hg (by simpa using hfit) h1;simp only[Nat.add_zero]at hst;simp[Builtin.append_,run_underlying ht,sizeOf,typeInfo,hi,Builtin.lenOf,hroom,hf,Addr.add_lit,hst]
theorem run_append_sli (g:Nat→Nat) (k:Nat) (t ty e:TypeId) (i:TypeInfo) (z:Value) (size bytes:Nat) (ht:P.underlying t=some (.slice e)) (hi:P.info? e=some i) (hz:i.zero=some z)
  (hsize:i.size=size) (hby:i.bytes=bytes) (hzs:z.cells.size=size) (hsz:0<size)
  (v:Value) (n:Nat) (xs:List Value) (hown:Sli w g k e size v n xs) (hT:Tidy w g)
  (a:Addr) (m c:Nat) (news:List Value) (hl:news.length=m*size) (hnews: ∀ j u,news[j]? =some u→w.cell? (a.add j)=some u) (h1: ∀ u∈news,u.oneCell'=true)
  (hm:0<m) (h63:n+m≤maxLen) (hbytes:(n+m)*bytes≤140737488355328):
  ∃ b off cap w' g',(Builtin.append_ #[t,t] ty #[v, .slice (some a) m c]).run P w= .ok (.slice (some ⟨b,off,none⟩) (n+m) cap) w'∧Sli w' g' k e size (.slice (some ⟨b,off,none⟩) (n+m) cap) (n+m) (xs++news)∧Chg w w' g g' k (k+1):=by
 subst hsize;subst hby;have hsmall:n+m≤9223372036854775807:=by simp only[maxLen]at h63;omega
 have hlen:(xs++news).length=(n+m)*i.size:=by rw[List.length_append,hown.1,hl,Nat.add_mul]
 have grown: ∀(old:Nat),old<n+m→
   Sli (w.drew.alloc (.cells (xs.toArray++news.toArray++Builtin.zeroCells z.cells (grownCap w (n+m) old e-(n+m))) e)) (tagAt g w.heap.size k) k e i.size
    (.slice (some ⟨w.heap.size,0,none⟩) (n+m) (grownCap w (n+m) old e)) (n+m) (xs++news)∧
   Chg w (w.drew.alloc (.cells (xs.toArray++news.toArray++Builtin.zeroCells z.cells (grownCap w (n+m) old e-(n+m))) e)) g (tagAt g w.heap.size k) k (k+1):=by
  intro old ho;have hge:=grownCap_ge w (n+m) old e;have hcm:grownCap w (n+m) old e≤maxLen:=grownCap_le_maxLen w (n+m) old e h63;refine⟨⟨hlen, .inr ⟨w.heap.size,0,_,_,rfl,tagAt_same _ _ _,heap_alloc_new w.drew _,hge,hcm, ?_, ?_⟩⟩,((Chg.refl hT _ _).drew).tag _ _⟩
  ·have:(xs.toArray++news.toArray++Builtin.zeroCells z.cells (grownCap w (n+m) old e-(n+m))).size=grownCap w (n+m) old e*i.size:=by
    simp only[Array.size_append,List.size_toArray,size_zeroCells,hzs,hown.1,hl,←Nat.add_mul];congr 1
    omega
   omega
  ·simp only[Array.toList_append,List.append_assoc,List.drop_zero]
   rw[←List.append_assoc,←hlen];exact List.take_left
 rcases hown.2 with⟨rfl,rfl⟩ | ⟨b,off,cap,cur,rfl,hbg,hg,hnc,hcm,hcs,htake⟩
 ·have hx:xs=[]:=List.eq_nil_of_length_eq_zero (by simpa using hown.1)
  subst hx;have hr:=run_append_nil (P:=P) w t ty e i z ht hi hz a m c news hl hnews (by omega) (by omega) (by have hb:=hbytes;simp only[Nat.zero_add]at hb;omega);have hgr:=grown 0 (by omega);simp only[Nat.zero_add,List.nil_append,Array.empty_append]at hgr ⊢;exact⟨_,_,_,_,_,hr,hgr.1,hgr.2⟩
 ·by_cases hroom:n+m≤cap
  ·have hfit:off+n*i.size+news.length≤cur.size:=by
    have:(n+m)*i.size≤cap*i.size:=Nat.mul_le_mul_right _ hroom;rw[Nat.add_mul]at this;omega
   have hr:=run_append_roomO (P:=P) w t ty e i ht hi b off n cap cur hg a m c news hl hnews h1 hroom hfit;refine⟨_,_,_,_,g,hr,⟨hlen, .inr ⟨b,off,cap,_,rfl,hbg,setRow_heap w b cur _ e _ hg,hroom,hcm, ?_, ?_⟩⟩, ?_⟩
   ·simp only[List.size_toArray,List.length_append,List.length_take,List.length_drop,Array.length_toList]
    omega
   ·rw[←htake,←hlen]
    simp only[List.append_assoc];have e1:List.take (off+n*i.size) cur.toList=List.take off cur.toList++(List.drop off cur.toList).take (n*i.size):=by rw[List.take_add]
    rw[e1,List.append_assoc];have e2:(List.take off cur.toList).length=off:=by rw[List.length_take,Array.length_toList];omega
    rw[List.drop_append_of_le_length (by omega),List.drop_eq_nil_of_le (by omega),List.nil_append,←List.append_assoc];rw[htake];exact List.take_left
   ·exact⟨rfl,rfl,rfl,by simp,fun x hx=>hT x (by simpa using hx),fun _ _=>rfl,fun x hx hne=>setRow_other w b x _ (by rintro rfl;rw[hbg]at hne;omega)⟩
  ·have holds: ∀ j u,xs[j]? =some u→w.cell? ((⟨b,off,none⟩:Addr).add j)=some u:=by
    intro j u hu;rw[Addr.add_lit];rw[hown.cells j]
    ·exact hu
    ·have:=List.getElem?_eq_some_iff.1 hu
     rw[←hown.1];exact this.1
   have hr:=run_append_grow (P:=P) w t ty e i z ht hi hz ⟨b,off,none⟩ n cap xs hown.1 holds a m c news hl hnews (by omega) (by omega) (growslice_fits (by omega) hbytes);have hgr:=grown cap (by omega);exact⟨_,_,_,_,_,hr,hgr.1,hgr.2⟩
theorem wp_append_sli {o:Oper} {a:Act} {K:Act→World→Prop} {Q:Exit→Act→World→Prop} (s x:Operand) (t:TypeId)
  (ho:o.op= .call { callee:= .builtin .append,args:= #[s,x],argTypes:= #[t,t] })
  (g:Nat→Nat) (k:Nat) (e:TypeId) (i:TypeInfo) (z:Value) (size bytes:Nat) (ht:P.underlying t=some (.slice e)) (hi:P.info? e=some i) (hz:i.zero=some z)
  (hsize:i.size=size) (hby:i.bytes=bytes) (hzs:z.cells.size=size) (hsz:0<size)
  (v:Value) (n:Nat) (xs:List Value) (hs:a.eval s=v) (hown:Sli w g k e size v n xs) (hT:Tidy w g)
  (ad:Addr) (m c:Nat) (news:List Value) (hx:a.eval x= .slice (some ad) m c) (hl:news.length=m*size) (hnews: ∀ j u,news[j]? =some u→w.cell? (ad.add j)=some u) (h1: ∀ u∈news,u.oneCell'=true)
  (hm:0<m) (h63:n+m≤maxLen) (hbytes:(n+m)*bytes≤140737488355328)
  (h: ∀ b off cap w' g',Sli w' g' k e size (.slice (some ⟨b,off,none⟩) (n+m) cap) (n+m) (xs++news)→Chg w w' g g' k (k+1)→K (a.put o.dst (.slice (some ⟨b,off,none⟩) (n+m) cap)) w'):o.wp P a w K Q:=by
 obtain⟨b,off,cap,w',g',hr,h2,h3⟩:=run_append_sli (P:=P) w g k t o.type e i z size bytes ht hi hz hsize hby hzs hsz v n xs hown hT ad m c news hl hnews h1 hm h63 hbytes;unfold Oper.wp execOp;simp only[ho,resolve,invoke,builtin,Sem.run_bind,Sem.run_pure,Result.andThen_ok,List.map_toArray,List.map_cons,List.map_nil,hs,hx,hr];exact h b off cap w' g' h2 h3
theorem wpList_append_sli {ops:Array Oper} {rest:List Oper} {o:Oper} {a:Act} {Q:Exit→Act→World→Prop} (hgd:o.guard=none) (s x:Operand) (t:TypeId)
  (ho:o.op= .call { callee:= .builtin .append,args:= #[s,x],argTypes:= #[t,t] })
  (g:Nat→Nat) (k:Nat) (e:TypeId) (i:TypeInfo) (z:Value) (size bytes:Nat) (ht:P.underlying t=some (.slice e)) (hi:P.info? e=some i) (hz:i.zero=some z)
  (hsize:i.size=size) (hby:i.bytes=bytes) (hzs:z.cells.size=size) (hsz:0<size)
  (v:Value) (n:Nat) (xs:List Value) (hs:a.eval s=v) (hown:Sli w g k e size v n xs) (hT:Tidy w g)
  (ad:Addr) (m c:Nat) (news:List Value) (hx:a.eval x= .slice (some ad) m c) (hl:news.length=m*size) (hnews: ∀ j u,news[j]? =some u→w.cell? (ad.add j)=some u) (h1: ∀ u∈news,u.oneCell'=true)
  (hm:0<m) (h63:n+m≤maxLen) (hbytes:(n+m)*bytes≤140737488355328)
  (h: ∀ b off cap w' g',Sli w' g' k e size (.slice (some ⟨b,off,none⟩) (n+m) cap) (n+m) (xs++news)→Chg w w' g g' k (k+1)→wpList P ops Q rest (a.put o.dst (.slice (some ⟨b,off,none⟩) (n+m) cap)) w'):wpList P ops Q (o::rest) a w:=
 wpList_plain hgd fun _ hK=>wp_append_sli w s x t ho g k e i z size bytes ht hi hz hsize hby hzs hsz v n xs hs hown hT ad m c news hx hl hnews h1 hm h63 hbytes fun b off cap w' g' h2 h3=>hK _ _ (h b off cap w' g' h2 h3)
theorem step_append_sli {ops:Array Oper} {o:Oper} {a:Act} {K:Act→World→Prop} {Q:Exit→Act→World→Prop} {E:Prop} (hgd:o.guard=none) (s x:Operand) (t:TypeId)
  (ho:o.op= .call { callee:= .builtin .append,args:= #[s,x],argTypes:= #[t,t] })
  (g:Nat→Nat) (k:Nat) (e:TypeId) (i:TypeInfo) (z:Value) (size bytes:Nat) (ht:P.underlying t=some (.slice e)) (hi:P.info? e=some i) (hz:i.zero=some z)
  (hsize:i.size=size) (hby:i.bytes=bytes) (hzs:z.cells.size=size) (hsz:0<size)
  (v:Value) (n:Nat) (xs:List Value) (hs:a.eval s=v) (hown:Sli w g k e size v n xs) (hT:Tidy w g)
  (ad:Addr) (m c:Nat) (news:List Value) (hx:a.eval x= .slice (some ad) m c) (hl:news.length=m*size) (hnews: ∀ j u,news[j]? =some u→w.cell? (ad.add j)=some u) (h1: ∀ u∈news,u.oneCell'=true)
  (hm:0<m) (h63:n+m≤maxLen) (hbytes:(n+m)*bytes≤140737488355328)
  (h: ∀ b off cap w' g',Sli w' g' k e size (.slice (some ⟨b,off,none⟩) (n+m) cap) (n+m) (xs++news)→Chg w w' g g' k (k+1)→K (a.put o.dst (.slice (some ⟨b,off,none⟩) (n+m) cap)) w'):
  if Region.wanted o (yielded ops a.tmps)=true then Oper.wp P o a w K Q else E:=by
 have hw:Region.wanted o (yielded ops a.tmps)=true:=by simp[Region.wanted,hgd]
 rw[if_pos hw];exact wp_append_sli w s x t ho g k e i z size bytes ht hi hz hsize hby hzs hsz v n xs hs hown hT ad m c news hx hl hnews h1 hm h63 hbytes h
end
end
section
open Go.RowKit Go.Lib
def clk (now:Nat):Array Value:= #[.int .u64 now]
def tmin (a:Nat):Nat:=if a<4611686018427387904 then a else 4611686018427387904
theorem first_core (a m:Nat) (hm:a<4611686018427387904∧m=a∨4611686018427387904≤a∧m=4611686018427387904) (b:Nat) (w:World) (h:w.cell? ⟨b,0,none⟩=some (.int .u64 a)):
  Calls Tryz.prog 48 #[.slice (some ⟨b,0,none⟩) 1 1] w fun e w'=>e= .returned (.int .u64 m)∧w=w':=by
 rcases hm with⟨h1,rfl⟩ | ⟨h1,rfl⟩
 ·have h2:decide ((4611686018427387904:Int)≤m)=false:=by rw[decide_eq_false_iff_not];omega
  clear h1;go_enter Tryz.func48,Tryz.ntmps48
  go_wp2;go_step3
  go_wp2;go_step3
  go_wp2;refine wp_loop_rounds 2 ?_;rw[rounds_succ];go_wp2;rw[rounds_succ];go_wp2;(try rw[Exit.noGoto_ret])
  go_ret
  exact⟨rfl,rfl⟩
 ·have h2:(4611686018427387904:Int)≤a:=by omega
  clear h1;go_enter Tryz.func48,Tryz.ntmps48
  go_wp2;go_step3
  go_wp2;go_step3
  go_wp2;refine wp_loop_rounds 2 ?_;rw[rounds_succ];go_wp2;rw[rounds_succ];go_wp2;(try rw[Exit.noGoto_ret])
  go_ret
  exact⟨rfl,rfl⟩
theorem first_any (a b:Nat) (w:World) (h:w.cell? ⟨b,0,none⟩=some (.int .u64 a)):
  Calls Tryz.prog 48 #[.slice (some ⟨b,0,none⟩) 1 1] w fun e w'=>e= .returned (.int .u64 (tmin a:Nat))∧w=w':=
 first_core a _ (by unfold tmin;split<;>omega) b w h
theorem cnew_any (a:Nat) (w:World):
  Calls Tryz.prog 25 #[.int .u64 a] w fun e w'=>e= .returned (.pointer (some ⟨w.heap.size+1,0,none⟩))∧w'=(w.alloc (.cells #[.int .u64 a] 22)).alloc (.cells (clk (tmin a)) 111):=by
 have CF:=fun b w h=>first_any a b w h
 have HF:=zH CF;clear CF;go_enter Tryz.func25,Tryz.ntmps25
 go_wp2_with fail
 refine(HF.out _ _ (by simp[go_sem])).mono ?_;rintro e w' ⟨rfl,rfl⟩;go_wp2;go_ret
 exact⟨rfl,rfl⟩
theorem now_any (b n:Nat) (w:World) (h:At w b 111 (clk n)):
  Calls Tryz.prog 35 #[.pointer (some ⟨b,0,none⟩)] w fun e w'=>e= .returned (.int .u64 n)∧w=w':=by
 have h0:=h.ce 0;clear h;go_enter Tryz.func35,Tryz.ntmps35
 go_wp2;go_ret
 exact⟨rfl,rfl⟩
def mvE (n t:Nat):Nat:=if 4611686018427387904<t then 3 else if t<n then 4 else 0
def mvN (n t:Nat):Nat:=if 4611686018427387904<t then n else if t<n then n else t
theorem move_any (b n t:Nat) (w:World) (h:At w b 111 (clk n)):
  Calls Tryz.prog 31 #[.pointer (some ⟨b,0,none⟩), .int .u64 t] w fun e w'=>e= .returned (.int .i64 (mvE n t:Nat))∧Put w w' b 111 (clk (mvN n t)):=by
 have h0:=h.ce 0;have f0:=h.free 0;have H:=zH h;clear h;unfold mvE mvN;by_cases h1:4611686018427387904<t
 ·rw[if_pos h1,if_pos h1]
  have h1':(4611686018427387904:Int)<t:=by omega
  clear h1;go_enter Tryz.func31,Tryz.ntmps31
  go_wp2;go_ret
  exact⟨rfl,Put.same H.out⟩
 ·rw[if_neg h1,if_neg h1]
  have h1':(t:Int)≤4611686018427387904:=by omega
  clear h1;by_cases h2:t<n
  ·rw[if_pos h2,if_pos h2]
   go_enter Tryz.func31,Tryz.ntmps31
   go_wp2;go_ret
   exact⟨rfl,Put.same H.out⟩
  ·rw[if_neg h2,if_neg h2]
   go_enter Tryz.func31,Tryz.ntmps31
   go_wp2;go_ret
   exact⟨rfl,Put.set H.out 0⟩
end
end Go.Proofs.YtojgokiobdpclaaGreat
