import Derived.Test.YtojgokiobdpclaaGreatP01
import Derived.Lib.Hide
import Derived.Outline
import Derived.WalkKit
import Derived.WalkMore
import Derived.Laws.Externs
namespace Go.Proofs.YtojgokiobdpclaaGreat
set_option linter.unusedVariables false
set_option linter.unusedSimpArgs false
set_option maxRecDepth 8000
set_option maxHeartbeats 8000000
section
open Go.RowKit Go.Lib
theorem hi_le_iff {a b c:Nat} (hc:0<c):c≤hi64 a b↔18446744073709551616≤a*b / c:=by
 unfold hi64;rw[Nat.le_div_iff_mul_le (by omega),Nat.le_div_iff_mul_le hc,Nat.mul_comm]
theorem mulDiv_min {a b c:Nat} (hc:0<c):mulDiv a b c=min 18446744073709551615 (a*b / c):=by
 unfold mulDiv;by_cases h0:a*b=0
 ·rw[if_pos h0,h0];simp
 ·rw[if_neg h0]
  by_cases h1:c≤hi64 a b
  ·rw[if_pos h1];have:=(hi_le_iff hc).1 h1;omega
  ·rw[if_neg h1];have:=mt (hi_le_iff hc).2 h1;omega
theorem mulDiv_none {a b:Nat}:mulDiv a b 0=if a*b=0 then 0 else 18446744073709551615:=by
 unfold mulDiv;simp
theorem mulDiv_le (a b c:Nat):mulDiv a b c≤18446744073709551615:=by
 rcases Nat.eq_zero_or_pos c with rfl | h
 ·rw[mulDiv_none];split<;>omega
 ·rw[mulDiv_min h];omega
theorem mulDiv_lt (a b c:Nat):mulDiv a b c<18446744073709551616:=by have:=mulDiv_le a b c;omega
section
end
end
section
open Go.RowKit Go.Lib
theorem ret64 {k:IntKind} {a b:Int} (h:a=b):Ending.returned (.int k a)= .returned (.int k b):=by rw[h]
def satAdd (a b:Nat):Nat:=if a+b<18446744073709551616 then a+b else 18446744073709551615
theorem satAdd_lt {a b:Nat}:satAdd a b<18446744073709551616:=by unfold satAdd;split<;>omega
def satSub (a b:Nat):Nat:=a-b
theorem satSub_lt {a b:Nat} (h:a<18446744073709551616):satSub a b<18446744073709551616:=by unfold satSub;omega
def satMul (a b:Nat):Nat:=if a*b<18446744073709551616 then a*b else 18446744073709551615
theorem satMul_lt {a b:Nat}:satMul a b<18446744073709551616:=by unfold satMul;split<;>omega
theorem u64_of {a:Int} (h:(Lit.int .u64 a).wf=true): ∃ n:Nat,a=n∧n<18446744073709551616:=by
 have h2:=bounds_u64 h;exact⟨a.toNat,by omega,by omega⟩
theorem add64_run (x y:Nat) (w:World):(callFunc 155 #[.int .u64 x, .int .u64 y, .int .u64 0]).run Tryz.prog w=
  .ok (.value (.tuple #[.int .u64 (((x+y)%18446744073709551616:Nat):Int), .int .u64 (((x+y) / 18446744073709551616:Nat):Int)])) w:=by
 rw[run_callFunc_extern Tryz.func155 (by kernel_rfl) (by kernel_rfl) (by kernel_rfl) (e:=add64Entry) (by kernel_rfl),run_add64 x y 0 (by omega) (by omega) (by omega) (by omega)];simp only[Result.andThen];congr 5<;>omega
theorem add64_low (x y:Nat) (h:x+y<18446744073709551616) (w:World):(callFunc 155 #[.int .u64 x, .int .u64 y, .int .u64 0]).run Tryz.prog w=
  .ok (.value (.tuple #[.int .u64 ((x+y:Nat):Int), .int .u64 0])) w:=by
 rw[add64_run,Nat.mod_eq_of_lt h,Nat.div_eq_of_lt h];rfl
theorem add64_high (x y:Nat) (hx:x<18446744073709551616) (hy:y<18446744073709551616) (h: ¬ x+y<18446744073709551616) (w:World):(callFunc 155 #[.int .u64 x, .int .u64 y, .int .u64 0]).run Tryz.prog w=
  .ok (.value (.tuple #[.int .u64 ((x+y-18446744073709551616:Nat):Int), .int .u64 1])) w:=by
 rw[add64_run,show(x+y) / 18446744073709551616=1 from by omega,show(x+y)%18446744073709551616=x+y-18446744073709551616 from by omega];rfl
theorem add_any (a b:Nat) (ha:a<18446744073709551616) (hb:b<18446744073709551616) (w:World):
  Calls Tryz.prog 119 #[.int .u64 a, .int .u64 b] w fun e w'=>e= .returned (.int .u64 (satAdd a b:Nat))∧w=w':=by
 unfold satAdd;by_cases h:a+b<18446744073709551616
 ·rw[if_pos h]
  have hr:=add64_low a b h;generalize a+b=s at*
  go_enter Tryz.func119,Tryz.ntmps119
  go_wp2;go_ret
  exact⟨rfl,rfl⟩
 ·rw[if_neg h]
  have hr:=add64_high a b ha hb h;generalize a+b-18446744073709551616=s at*
  clear h;go_enter Tryz.func119,Tryz.ntmps119
  go_wp2;go_ret
  exact⟨rfl,rfl⟩
theorem radd_any (a b:Nat) (ha:a<18446744073709551616) (hb:b<18446744073709551616) (w:World):
  Calls Tryz.prog 15 #[.int .u64 a, .int .u64 b] w fun e w'=>e= .returned (.int .u64 (satAdd a b:Nat))∧w=w':=by
 unfold satAdd;by_cases h:a+b<18446744073709551616
 ·rw[if_pos h]
  go_enter Tryz.func15,Tryz.ntmps15
  go_wp2;go_ret
  exact⟨by simp,rfl⟩
 ·rw[if_neg h]
  go_enter Tryz.func15,Tryz.ntmps15
  go_wp2;go_ret
  exact⟨rfl,rfl⟩
theorem sub_any (a b:Nat) (ha:a<18446744073709551616) (hb:b<18446744073709551616) (w:World):
  Calls Tryz.prog 162 #[.int .u64 a, .int .u64 b] w fun e w'=>e= .returned (.int .u64 (satSub a b:Nat))∧w=w':=by
 unfold satSub;rcases Nat.le_total a b with h | h
 ·rw[Nat.sub_eq_zero_of_le h]
  go_enter Tryz.func162,Tryz.ntmps162
  go_wp2;go_ret
  exact⟨rfl,rfl⟩
 ·rw[show((a-b:Nat):Int)=(a:Int)-b from by omega]
  go_enter Tryz.func162,Tryz.ntmps162
  go_wp2;all_goals go_ret
  all_goals exact⟨ret64 (by omega),rfl⟩
theorem satMul_low {a b:Nat} (h:hi64 a b=0):satMul a b=lo64 a b:=by
 have h3:=hl64 a b;have h4:=lo64_lt a b;unfold satMul;rw[if_pos (by omega)];omega
theorem satMul_high {a b:Nat} (h:0<hi64 a b):satMul a b=18446744073709551615:=by
 have h3:=hl64 a b;unfold satMul;rw[if_neg (by omega)]
theorem smul_any (a b:Nat) (ha:a<18446744073709551616) (hb:b<18446744073709551616) (w:World):
  Calls Tryz.prog 222 #[.int .u64 a, .int .u64 b] w fun e w'=>e= .returned (.int .u64 (satMul a b:Nat))∧w=w':=by
 have C:=mul64_any a b ha hb w;have e1:=satMul_low (a:=a) (b:=b);have e2:=satMul_high (a:=a) (b:=b);generalize hi64 a b=h at*
 generalize lo64 a b=l at*
 generalize satMul a b=r at*
 have HC:=zH C;clear C;rcases Nat.eq_zero_or_pos h with rfl | hp
 ·obtain rfl:=e1 rfl
  clear e1 e2;go_enter Tryz.func222,Tryz.ntmps222
  go_wp2_with (go_at_call 200;refine HC.out.mono ?_;rintro e w' ⟨rfl,rfl⟩)
  go_ret
  exact⟨rfl,rfl⟩
 ·obtain rfl:=e2 hp
  clear e1 e2;go_enter Tryz.func222,Tryz.ntmps222
  go_wp2_with (go_at_call 200;refine HC.out.mono ?_;rintro e w' ⟨rfl,rfl⟩)
  go_ret
  exact⟨rfl,rfl⟩
end
end Go.Proofs.YtojgokiobdpclaaGreat
