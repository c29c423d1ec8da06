import Derived.Deep.QuietTactic
import Derived.BigQuiet
import Derived.OpenShut
import Derived.RowKit3
import Derived.Laws.World
import Derived.Test.YtojgokiobdpclaaGreatProg
import Derived.WalkKit
import Derived.WalkMore
import Derived.Lib.Mul64
import Derived.Lib.Hide
import Derived.Laws.Bits64b
import Derived.Deep.LoopGhost
import Derived.Outline
import Derived.Lib.Hide
namespace Go.Proofs.YtojgokiobdpclaaGreat
set_option linter.unusedVariables false
set_option linter.unusedSimpArgs false
set_option maxRecDepth 8000
set_option maxHeartbeats 8000000
section
open Go.RowKit
theorem zH {p:Prop} (h:p):Hid p:=Lib.hid h
theorem still {P:Program} {f:FuncId} {args:Array Value} {w:World} {n:Nat} {v:Value}
  (h:Calls P f args (w.drewN n) fun e w'=>e= .returned v∧w.drewN n=w'):Calls P f args (w.drewN n) fun e w''=>e= .returned v∧ ∃ m,w''=w.drewN m:=
 h.mono fun _ _ ⟨he,hm⟩=>⟨he,n,hm.symm⟩
def NatRow (w:World) (a:Option Addr) (xs:List Nat):Prop:=
 xs.length≤9223372036854775807∧(∀ x∈xs,x<18446744073709551616)∧(0<xs.length→ ∃ b off,a=some ⟨b,off,none⟩∧b<w.heap.size∧ ∀ j,j<xs.length→w.cell? ⟨b,off+j,none⟩=some (.int .u64 (xs.getD j 0:Nat)))
theorem NatRow.at_ {w:World} {a:Option Addr} {xs:List Nat} (h:NatRow w a xs) {k:Nat} (hk:k<xs.length):
  ∃ b off n,a=some ⟨b,off,none⟩∧b<w.heap.size∧n<18446744073709551616∧xs.getD k 0=n∧xs[k]? =some n∧w.cell? ⟨b,off+k,none⟩=some (.int .u64 (n:Nat)):=by
 obtain⟨b,off,ha,hl,hc⟩:=h.2.2 (by omega);have e:xs.getD k 0=xs[k]:=by rw[List.getD_eq_getElem?_getD,List.getElem?_eq_getElem hk];rfl
 refine⟨b,off,xs[k],ha,hl,h.2.1 _ (List.getElem_mem hk),e,List.getElem?_eq_getElem hk, ?_⟩;rw[hc k hk,e]
end
section
namespace DivMath
def R (d c hi lo q:Nat):Nat:=q*2^d+(hi*2^d+lo / 2^(64-d)) / c
theorem lo_step {d lo:Nat} (hd:d<64) (_:lo<18446744073709551616):
  lo / 2^(64-(d+1))=(lo / 9223372036854775808)*2^d+(2*lo%18446744073709551616) / 2^(64-d):=by
 have e1:64-d=(64-(d+1))+1:=by omega
 have e2:2*lo%18446744073709551616=(lo%9223372036854775808)*2:=by omega
 have e3:lo=2^(64-(d+1))*(2^d*(lo / 9223372036854775808))+lo%9223372036854775808:=by
  rw[←Nat.mul_assoc,←Nat.pow_add,show 64-(d+1)+d=63 from by omega];have:=Nat.div_add_mod lo 9223372036854775808;omega
 rw[e1,Nat.pow_succ,e2,Nat.mul_div_mul_right _ _ (by omega)];generalize hb:lo / 9223372036854775808=b at*
 generalize hl:lo%9223372036854775808=l at*
 rw[e3,Nat.mul_add_div (Nat.pos_of_ne_zero (by simp)),Nat.mul_comm]
theorem R_step {d c hi lo q:Nat} (hd:d<64) (hlo:lo<18446744073709551616) (hc:0<c):
  R (d+1) c hi lo q=
   if 2*hi+lo / 9223372036854775808<c then R d c (2*hi+lo / 9223372036854775808) (2*lo%18446744073709551616) (2*q)
   else R d c (2*hi+lo / 9223372036854775808-c) (2*lo%18446744073709551616) (2*q+1):=by
 have h0:=lo_step hd hlo;unfold R;rw[h0];generalize lo / 9223372036854775808=b
 generalize(2*lo%18446744073709551616) / 2^(64-d)=t
 have e:hi*2^(d+1)+(b*2^d+t)=(2*hi+b)*2^d+t:=by
  rw[Nat.pow_succ,Nat.add_mul,Nat.mul_comm 2 hi,Nat.mul_assoc hi 2,Nat.mul_comm 2 (2^d)];omega
 have eq:q*2^(d+1)=2*q*2^d:=by
  rw[Nat.pow_succ,Nat.mul_comm 2 q,Nat.mul_assoc q 2,Nat.mul_comm 2 (2^d)]
 rw[e,eq];generalize 2*hi+b=N
 by_cases h:N<c
 ·rw[if_pos h]
 ·rw[if_neg h]
  have e4:N*2^d+t=c*2^d+((N-c)*2^d+t):=by
   rw[←Nat.add_assoc,←Nat.add_mul,show c+(N-c)=N from by omega]
  rw[e4,Nat.mul_add_div hc,Nat.add_mul];omega
theorem R_zero {c hi lo q:Nat} (hlo:lo<18446744073709551616) (hh:hi<c):R 0 c hi lo q=q:=by
 unfold R;rw[Nat.div_eq_of_lt (a:=lo) (by simpa using hlo)];simp[Nat.div_eq_of_lt hh]
theorem R_all (c hi lo:Nat):R 64 c hi lo 0=(hi*18446744073709551616+lo) / c:=by
 unfold R;simp
theorem R_lt {c hi lo:Nat} (hlo:lo<18446744073709551616) (hh:hi<c):R 64 c hi lo 0<18446744073709551616:=by
 rw[R_all,Nat.div_lt_iff_lt_mul (by omega)];have:(hi+1)*18446744073709551616≤c*18446744073709551616:=Nat.mul_le_mul_right _ hh;omega
theorem R_q {d c hi lo q B:Nat} (h:R d c hi lo q<B):q*2^d<B:=by
 unfold R at h;exact Nat.lt_of_le_of_lt (Nat.le_add_right _ _) h
theorem R_q2 {d c hi lo q B:Nat} (h:R d c hi lo q<B):q<B:=
 Nat.lt_of_le_of_lt (Nat.le_mul_of_pos_right q (Nat.two_pow_pos d)) (R_q h)
end DivMath
end
section
open Go.RowKit Go.Lib
theorem maskN (a:Nat) (ha:a<18446744073709551616):bits .and .u64 (a:Int) 4294967295=((a%4294967296:Nat):Int):=by
 have h:=bits_and_u64_nat a 4294967295 ha (by omega);have e:a&&& 4294967295=a%4294967296:=Nat.and_two_pow_sub_one_eq_mod a 32;rw[e]at h;exact h
theorem divN (a:Nat):(a:Int) / 4294967296=((a / 4294967296:Nat):Int):=by omega
theorem mulN (a b:Nat):(a:Int)*(b:Int)=((a*b:Nat):Int):=(Int.natCast_mul a b).symm
theorem addN (a b:Nat):(a:Int)+(b:Int)=((a+b:Nat):Int):=(Int.natCast_add a b).symm
theorem wrapN (a:Nat) (ha:a<18446744073709551616):IntKind.u64.wrap (a:Int)=(a:Int):=by rw[IntKind.wrap_u64];omega
theorem wrapM (a:Nat):IntKind.u64.wrap (a:Int)=((a%18446744073709551616:Nat):Int):=by rw[IntKind.wrap_u64];omega
def hi64 (x y:Nat):Nat:=x*y / 18446744073709551616
def lo64 (x y:Nat):Nat:=x*y%18446744073709551616
theorem mul64_any (x y:Nat) (hx:x<18446744073709551616) (hy:y<18446744073709551616) (w:World):
  Calls Tryz.prog 200 #[.int .u64 x, .int .u64 y] w fun e w'=>e= .returned (.tuple #[.int .u64 (hi64 x y:Nat), .int .u64 (lo64 x y:Nat)])∧w=w':=by
 obtain⟨bd,bt,bw,hhi⟩:=Lib.mul64_hi x y hx hy;have ba:=Lib.half_mul_le (a:=x / 4294967296) (b:=y / 4294967296) (by omega) (by omega);have bb:=Lib.half_mul_le (a:=x / 4294967296) (b:=y%4294967296) (by omega) (by omega);have bc:=Lib.half_mul_le (a:=x%4294967296) (b:=y / 4294967296) (by omega) (by omega);have ba':x / 4294967296*(y / 4294967296)<18446744073709551616:=by omega
 have bb':x / 4294967296*(y%4294967296)<18446744073709551616:=by omega
 have bc':x%4294967296*(y / 4294967296)<18446744073709551616:=by omega
 have bh1:x / 4294967296*(y / 4294967296)+(x / 4294967296*(y%4294967296)+x%4294967296*(y%4294967296) / 4294967296) / 4294967296<18446744073709551616:=by omega
 have bh:x / 4294967296*(y / 4294967296)+(x / 4294967296*(y%4294967296)+x%4294967296*(y%4294967296) / 4294967296) / 4294967296+((x / 4294967296*(y%4294967296)+x%4294967296*(y%4294967296) / 4294967296)%4294967296+x%4294967296*(y / 4294967296)) / 4294967296<18446744073709551616:=by omega
 unfold hi64 lo64;go_enter Tryz.func200,Tryz.ntmps200
 go_wp2;simp only[maskN x hx,maskN y hy,divN,mulN,addN,wrapN _ bd,wrapN _ bb',wrapN _ bt,maskN _ bt,wrapN _ bc',wrapN _ bw,wrapN _ ba',wrapN _ bh1,wrapN _ bh,wrapM (x*y)];rw[hhi];go_ret2
 exact⟨rfl,rfl⟩
theorem hi64_lt (x y:Nat) (hx:x<18446744073709551616) (hy:y<18446744073709551616):hi64 x y<18446744073709551616:=by
 unfold hi64;rw[Nat.div_lt_iff_lt_mul (by omega)];exact Nat.mul_lt_mul'' hx hy
theorem lo64_lt (x y:Nat):lo64 x y<18446744073709551616:=Nat.mod_lt _ (by omega)
theorem mul_any (x y:Nat) (hx:x<18446744073709551616) (hy:y<18446744073709551616) (w:World):
  Calls Tryz.prog 181 #[.int .u64 x, .int .u64 y] w fun e w'=>e= .returned (.tuple #[.int .u64 (hi64 x y:Nat), .int .u64 (lo64 x y:Nat)])∧w=w':=by
 have h1:=hi64_lt x y hx hy;have h2:=lo64_lt x y;go_enter Tryz.func181,Tryz.ntmps181
 go_wp2_with (go_at_call 200;refine(mul64_any _ _ (by omega) (by omega) _).mono ?_;rintro e w' ⟨rfl,rfl⟩)
 go_ret2
 exact⟨rfl,rfl⟩
theorem div_zero (hi lo:Nat) (w:World):
  Calls Tryz.prog 182 #[.int .u64 hi, .int .u64 lo, .int .u64 0] w fun e w'=>e= .returned (.tuple #[.int .u64 0, .int .i64 1])∧w=w':=by
 go_enter Tryz.func182,Tryz.ntmps182
 go_wp2;go_step3
 go_wp2;rw[Exit.noGoto_ret];go_ret2
 exact⟨rfl,rfl⟩
theorem div_over (hi lo c:Nat) (hc:0<c) (hh:c≤hi) (w:World):
  Calls Tryz.prog 182 #[.int .u64 hi, .int .u64 lo, .int .u64 c] w fun e w'=>e= .returned (.tuple #[.int .u64 0, .int .i64 3])∧w=w':=by
 have h0:((c:Int)==0)=false:=by rw[beq_eq_false_iff_ne];omega
 go_enter Tryz.func182,Tryz.ntmps182
 go_wp2;go_step3
 go_wp2;rw[Exit.noGoto_ret];go_ret2
 exact⟨rfl,rfl⟩
theorem or_bit (x y:Nat) (hx:x%2=0) (hx':x<18446744073709551616) (hy:y<2):bits .or .u64 (x:Int) (y:Int)=((x+y:Nat):Int):=by
 rw[bits_or_u64_nat x y hx' (by omega)];congr 1
 have h:x=2^1*(x / 2):=by omega
 rw[h,←Nat.two_pow_add_eq_or_of_lt (by omega:y<2^1)]
theorem shl1 (x:Nat):IntKind.u64.wrap ((x:Int)*2)=((2*x%18446744073709551616:Nat):Int):=by rw[IntKind.wrap_u64];omega
theorem top_bit (x:Nat):(x:Int) / 9223372036854775808=((x / 9223372036854775808:Nat):Int):=by omega
theorem or_lo (x y:Nat) (hy:y<18446744073709551616):bits .or .u64 (IntKind.u64.wrap ((x:Int)*2)) ((y:Int) / 9223372036854775808)=((2*x%18446744073709551616+y / 9223372036854775808:Nat):Int):=by
 rw[shl1,top_bit,or_bit _ _ (by omega) (by omega) (by omega)]
theorem or_lo' (x y:Nat) (hx:x<9223372036854775808) (hy:y<18446744073709551616):bits .or .u64 ((x:Int)*2) ((y:Int) / 9223372036854775808)=((2*x+y / 9223372036854775808:Nat):Int):=by
 rw[show(x:Int)*2=((2*x:Nat):Int)from by omega,top_bit,or_bit _ _ (by omega) (by omega) (by omega)]
theorem or_one (q:Nat):bits .or .u64 (IntKind.u64.wrap ((q:Int)*2)) 1=((2*q%18446744073709551616+1:Nat):Int):=by
 rw[shl1];exact or_bit _ 1 (by omega) (by omega) (by omega)
def DivRel (c T:Nat) (h l q n:Value):Prop:= ∃ d hi' lo' q':Nat,d≤64∧hi'<c∧lo'<18446744073709551616∧Hid (DivMath.R d c hi' lo' q'=T)∧h= .int .u64 hi'∧l= .int .u64 lo'∧q= .int .u64 q'∧n= .int .i64 ((64-d:Nat):Int)
theorem div_any (hi lo c:Nat) (hh:hi<c) (hl:lo<18446744073709551616) (hc:c<18446744073709551616) (w:World):
  Calls Tryz.prog 182 #[.int .u64 hi, .int .u64 lo, .int .u64 c] w fun e w'=>e= .returned (.tuple #[.int .u64 ((hi*18446744073709551616+lo) / c:Nat), .int .i64 0])∧w=w':=by
 have h0:((c:Int)==0)=false:=by rw[beq_eq_false_iff_ne];omega
 have h00:decide (c≤hi)=false:=by simp;omega
 have hT:(hi*18446744073709551616+lo) / c<18446744073709551616:=by rw[←DivMath.R_all];exact DivMath.R_lt hl hh
 generalize hTT:(hi*18446744073709551616+lo) / c=T at*
 have HT:=zH hTT;clear hTT;go_enter Tryz.func182,Tryz.ntmps182
 go_wp2;go_step3
 go_wp2;go_step3
 go_wp2;go_loop [0,1,8,9] (fun h l q n=>DivRel c T h l q n) (fun _ _ _ n=>(64-intOf n).toNat)
 case atStart=>exact⟨64,hi,lo,0,by omega,hh,hl,(by rw[←HT.out];exact DivMath.R_all c hi lo),rfl,rfl,rfl,rfl⟩
 case round=>
  obtain⟨d,hi',lo',q',hd,hh',hl',HR,rfl,rfl,rfl,rfl⟩:=hrel;rcases Nat.eq_zero_or_pos d with rfl | hpos
  ·go_wp2
   go_ret2
   have:=HR.out;rw[DivMath.R_zero hl' hh']at this;subst this;exact⟨rfl,rfl⟩
  ·obtain⟨k,rfl⟩: ∃ k,d=k+1:=⟨d-1,by omega⟩
   have hR:=HR.out;rw[DivMath.R_step (by omega) hl' (by omega)]at hR;have HR':=zH hR;clear hR;have wd: ∀ a b:Nat,a=b→Value.int IntKind.u64 (a:Int)=Value.int IntKind.u64 (b:Int):=fun a b h=>by rw[h]
   by_cases ht:hi'<9223372036854775808
   ·have E1:=zH (or_lo' hi' lo' ht hl')
    go_wp2
    ·have h2:bits BinOp.or IntKind.u64 ((hi':Int)*2) ((lo':Int) / 9223372036854775808)<(c:Int):=by assumption
     rw[E1.out]at h2;have hr:=HR'.out;rw[if_pos (by omega)]at hr;have hq:=DivMath.R_q2 (by rw[hr];exact hT);go_round
     case rel=>exact⟨k,_,_,_,by omega,by omega,Nat.mod_lt _ (by omega),hr,by rw[E1.out],by rw[shl1],by rw[shl1,Nat.mod_eq_of_lt hq],by go_num⟩
     case measure=>simp[intOf];omega
    ·have h2:(c:Int)≤bits BinOp.or IntKind.u64 ((hi':Int)*2) ((lo':Int) / 9223372036854775808):=by assumption
     rw[E1.out]at h2;have hr:=HR'.out;rw[if_neg (by omega)]at hr;have hq:=DivMath.R_q2 (by rw[hr];exact hT);go_round
     case rel=>exact⟨k,_,_,_,by omega,by omega,Nat.mod_lt _ (by omega),hr,by rw[E1.out,IntKind.wrap_u64];congr 1;omega,by rw[shl1],by rw[or_one,Nat.mod_eq_of_lt (by omega)],by go_num⟩
     case measure=>simp[intOf];omega
   ·have E1:=zH (or_lo hi' lo' hl')
    go_wp2;have hr:=HR'.out;rw[if_neg (by omega)]at hr;have hq:=DivMath.R_q2 (by rw[hr];exact hT);go_round
    case rel=>exact⟨k,_,_,_,by omega,by omega,Nat.mod_lt _ (by omega),hr,by rw[E1.out,IntKind.wrap_u64];congr 1;omega,by rw[shl1],by rw[or_one,Nat.mod_eq_of_lt (by omega)],by go_num⟩
    case measure=>simp[intOf];omega
theorem wide_plain (a b c d:Nat):
  (a*4294967296+b)*(c*4294967296+d)=(a*c+a*d / 4294967296+b*c / 4294967296+(b*d / 4294967296+a*d%4294967296+b*c%4294967296) / 4294967296)*18446744073709551616+
   ((b*d / 4294967296+a*d%4294967296+b*c%4294967296)*4294967296%18446744073709551616+b*d%4294967296):=by
 rw[Lib.split_mul];generalize a*c=p
 generalize a*d=q
 generalize b*c=r
 generalize b*d=s
 omega
theorem or_half (x y:Nat) (hx:x%4294967296=0) (hx':x<18446744073709551616) (hy:y<4294967296):bits .or .u64 (x:Int) (y:Int)=((x+y:Nat):Int):=by
 rw[bits_or_u64_nat x y hx' (by omega)];congr 1
 have h:x=2^32*(x / 4294967296):=by omega
 rw[h,←Nat.two_pow_add_eq_or_of_lt (by omega:y<2^32)]
theorem shl32 (x:Nat):IntKind.u64.wrap ((x:Int)*4294967296)=((x*4294967296%18446744073709551616:Nat):Int):=by rw[IntKind.wrap_u64];omega
theorem rwide_any (x y:Nat) (hx:x<18446744073709551616) (hy:y<18446744073709551616) (w:World):
  Calls Tryz.prog 60 #[.int .u64 x, .int .u64 y] w fun e w'=>e= .returned (.tuple #[.int .u64 (hi64 x y:Nat), .int .u64 (lo64 x y:Nat)])∧w=w':=by
 have ba:=Lib.half_mul_le (a:=x / 4294967296) (b:=y / 4294967296) (by omega) (by omega);have bb:=Lib.half_mul_le (a:=x / 4294967296) (b:=y%4294967296) (by omega) (by omega);have bc:=Lib.half_mul_le (a:=x%4294967296) (b:=y / 4294967296) (by omega) (by omega);have bd:=Lib.half_mul_le (a:=x%4294967296) (b:=y%4294967296) (by omega) (by omega);have hp:=wide_plain (x / 4294967296) (x%4294967296) (y / 4294967296) (y%4294967296);rw[Nat.div_add_mod' x 4294967296,Nat.div_add_mod' y 4294967296]at hp;have hlt:x*y<18446744073709551616*18446744073709551616:=Nat.mul_lt_mul'' hx hy;obtain⟨P,hP⟩: ∃ P,x / 4294967296*(y / 4294967296)=P:=⟨_,rfl⟩;obtain⟨Q,hQ⟩: ∃ Q,x / 4294967296*(y%4294967296)=Q:=⟨_,rfl⟩;obtain⟨R,hR⟩: ∃ R,x%4294967296*(y / 4294967296)=R:=⟨_,rfl⟩;obtain⟨S,hS⟩: ∃ S,x%4294967296*(y%4294967296)=S:=⟨_,rfl⟩;rw[hP,hQ,hR,hS]at hp;rw[hP]at ba;rw[hQ]at bb;rw[hR]at bc;rw[hS]at bd;have e1:hi64 x y=P+Q / 4294967296+R / 4294967296+(S / 4294967296+Q%4294967296+R%4294967296) / 4294967296:=by unfold hi64;rw[hp];omega
 have e2:lo64 x y=(S / 4294967296+Q%4294967296+R%4294967296)*4294967296%18446744073709551616+S%4294967296:=by unfold lo64;rw[hp];omega
 rw[hp]at hlt;have b1:P+Q / 4294967296+R / 4294967296+(S / 4294967296+Q%4294967296+R%4294967296) / 4294967296<18446744073709551616:=by omega
 clear hp hlt;have HP:=zH hP;have HQ:=zH hQ;have HR:=zH hR;have HS:=zH hS;have H1:=zH e1;have H2:=zH e2;clear hP hQ hR hS e1 e2;go_enter Tryz.func60,Tryz.ntmps60
 go_wp2;simp only[maskN x hx,maskN y hy,divN,mulN];rw[HP.out,HQ.out,HR.out,HS.out];rw[wrapN P (by omega),wrapN Q (by omega),wrapN R (by omega),wrapN S (by omega)];rw[maskN Q (by omega),maskN R (by omega),maskN S (by omega),divN,divN,divN,addN,addN,wrapN _ (by omega),wrapN _ (by omega),addN,wrapN _ (by omega),addN,wrapN _ (by omega),divN,addN,wrapN _ b1,shl32,or_half _ _ (by omega) (by omega) (by omega)];rw[←H1.out,←H2.out];go_ret2
 exact⟨rfl,rfl⟩
theorem rdiv_zero (hi lo:Nat) (w:World):
  Calls Tryz.prog 61 #[.int .u64 hi, .int .u64 lo, .int .u64 0] w fun e w'=>e= .returned (.tuple #[.int .u64 0, .int .i64 1])∧w=w':=by
 go_enter Tryz.func61,Tryz.ntmps61
 go_wp2;go_ret2
 exact⟨rfl,rfl⟩
theorem rdiv_over (hi lo c:Nat) (hc:0<c) (hh:c≤hi) (w:World):
  Calls Tryz.prog 61 #[.int .u64 hi, .int .u64 lo, .int .u64 c] w fun e w'=>e= .returned (.tuple #[.int .u64 0, .int .i64 3])∧w=w':=by
 have h0:((c:Int)==0)=false:=by rw[beq_eq_false_iff_ne];omega
 go_enter Tryz.func61,Tryz.ntmps61
 go_wp2;go_ret2
 exact⟨rfl,rfl⟩
theorem rdiv_any (hi lo c:Nat) (hh:hi<c) (hl:lo<18446744073709551616) (hc:c<18446744073709551616) (w:World):
  Calls Tryz.prog 61 #[.int .u64 hi, .int .u64 lo, .int .u64 c] w fun e w'=>e= .returned (.tuple #[.int .u64 ((hi*18446744073709551616+lo) / c:Nat), .int .i64 0])∧w=w':=by
 have h0:((c:Int)==0)=false:=by rw[beq_eq_false_iff_ne];omega
 have h00:decide (c≤hi)=false:=by simp;omega
 have hT:(hi*18446744073709551616+lo) / c<18446744073709551616:=by rw[←DivMath.R_all];exact DivMath.R_lt hl hh
 generalize hTT:(hi*18446744073709551616+lo) / c=T at*
 have HT:=zH hTT;clear hTT;go_enter Tryz.func61,Tryz.ntmps61
 go_wp2;go_loop [1,8,9,10] (fun l q h n=>DivRel c T h l q n) (fun _ _ _ n=>(64-intOf n).toNat)
 case atStart=>exact⟨64,hi,lo,0,by omega,hh,hl,(by rw[←HT.out];exact DivMath.R_all c hi lo),rfl,rfl,rfl,rfl⟩
 case round=>
  obtain⟨d,hi',lo',q',hd,hh',hl',HR,rfl,rfl,rfl,rfl⟩:=hrel;rcases Nat.eq_zero_or_pos d with rfl | hpos
  ·go_wp2
   go_ret2
   have:=HR.out;rw[DivMath.R_zero hl' hh']at this;subst this;exact⟨rfl,rfl⟩
  ·obtain⟨k,rfl⟩: ∃ k,d=k+1:=⟨d-1,by omega⟩
   have hR:=HR.out;rw[DivMath.R_step (by omega) hl' (by omega)]at hR;have HR':=zH hR;clear hR;by_cases ht:hi'<9223372036854775808
   ·have E1:=zH (or_lo' hi' lo' ht hl')
    have t1:((hi':Int) / 9223372036854775808==1)=false:=by rw[beq_eq_false_iff_ne];omega
    go_wp2
    ·have h2:(c:Int)≤bits BinOp.or IntKind.u64 ((hi':Int)*2) ((lo':Int) / 9223372036854775808):=by assumption
     rw[E1.out]at h2;have hr:=HR'.out;rw[if_neg (by omega)]at hr;have hq:=DivMath.R_q2 (by rw[hr];exact hT);go_round
     case rel=>exact⟨k,_,_,_,by omega,by omega,Nat.mod_lt _ (by omega),hr,by rw[E1.out,IntKind.wrap_u64];congr 1;omega,by rw[shl1],by rw[or_one,Nat.mod_eq_of_lt (by omega)],by go_num⟩
     case measure=>simp[intOf];omega
    ·have h2: ¬(c:Int)≤bits BinOp.or IntKind.u64 ((hi':Int)*2) ((lo':Int) / 9223372036854775808):=by first | assumption | (rw[Int.not_le];assumption)
     rw[E1.out]at h2;have hr:=HR'.out;rw[if_pos (by omega)]at hr;have hq:=DivMath.R_q2 (by rw[hr];exact hT);go_round
     case rel=>exact⟨k,_,_,_,by omega,by omega,Nat.mod_lt _ (by omega),hr,by rw[E1.out],by rw[shl1],by rw[shl1,Nat.mod_eq_of_lt hq],by go_num⟩
     case measure=>simp[intOf];omega
   ·have E1:=zH (or_lo hi' lo' hl')
    have t1:((hi':Int) / 9223372036854775808==1)=true:=by rw[beq_iff_eq];omega
    go_wp2;have hr:=HR'.out;rw[if_neg (by omega)]at hr;have hq:=DivMath.R_q2 (by rw[hr];exact hT);go_round
    case rel=>exact⟨k,_,_,_,by omega,by omega,Nat.mod_lt _ (by omega),hr,by rw[E1.out,IntKind.wrap_u64];congr 1;omega,by rw[shl1],by rw[or_one,Nat.mod_eq_of_lt (by omega)],by go_num⟩
    case measure=>simp[intOf];omega
def dq (hi lo c:Nat):Nat:=if c=0 then 0 else if c≤hi then 0 else(hi*18446744073709551616+lo) / c
def de (hi c:Nat):Nat:=if c=0 then 1 else if c≤hi then 3 else 0
theorem div_all (hi lo c:Nat) (hl:lo<18446744073709551616) (hc:c<18446744073709551616) (w:World):
  Calls Tryz.prog 182 #[.int .u64 hi, .int .u64 lo, .int .u64 c] w fun e w'=>e= .returned (.tuple #[.int .u64 (dq hi lo c:Nat), .int .i64 (de hi c:Nat)])∧w=w':=by
 unfold dq de;rcases Nat.eq_zero_or_pos c with rfl | h
 ·exact div_zero hi lo w
 ·have hn: ¬ c=0:=by omega
  simp only[if_neg hn];by_cases h2:c≤hi
  ·simp only[if_pos h2];exact div_over hi lo c h h2 w
  ·simp only[if_neg h2];exact div_any hi lo c (by omega) hl hc w
theorem rdiv_all (hi lo c:Nat) (hl:lo<18446744073709551616) (hc:c<18446744073709551616) (w:World):
  Calls Tryz.prog 61 #[.int .u64 hi, .int .u64 lo, .int .u64 c] w fun e w'=>e= .returned (.tuple #[.int .u64 (dq hi lo c:Nat), .int .i64 (de hi c:Nat)])∧w=w':=by
 unfold dq de;rcases Nat.eq_zero_or_pos c with rfl | h
 ·exact rdiv_zero hi lo w
 ·have hn: ¬ c=0:=by omega
  simp only[if_neg hn];by_cases h2:c≤hi
  ·simp only[if_pos h2];exact rdiv_over hi lo c h h2 w
  ·simp only[if_neg h2];exact rdiv_any hi lo c (by omega) hl hc w
def mulDiv (a b c:Nat):Nat:=if a*b=0 then 0 else if c≤hi64 a b then 18446744073709551615 else a*b / c
theorem hl64 (a b:Nat):hi64 a b*18446744073709551616+lo64 a b=a*b:=by unfold hi64 lo64;omega
theorem mulDiv_zero {a b c:Nat} (h1:hi64 a b=0) (h2:lo64 a b=0):mulDiv a b c=0:=by
 have h3:=hl64 a b;rw[h1,h2]at h3;simp[mulDiv,←h3]
theorem mulDiv_top {a b c:Nat} (h: ¬(hi64 a b=0∧lo64 a b=0)) (he:de (hi64 a b) c≠0):mulDiv a b c=18446744073709551615:=by
 have h3:=hl64 a b;have h4: ¬ a*b=0:=by omega
 have h5:c≤hi64 a b:=by
  rcases Nat.lt_or_ge (hi64 a b) c with g | g
  ·exact absurd (by unfold de;rw[if_neg (by omega),if_neg (by omega)]) he
  ·exact g
 simp[mulDiv,h4,h5]
theorem mulDiv_ok {a b c:Nat} (h: ¬(hi64 a b=0∧lo64 a b=0)) (he:de (hi64 a b) c=0):mulDiv a b c=dq (hi64 a b) (lo64 a b) c:=by
 have h3:=hl64 a b;have h4: ¬ a*b=0:=by omega
 have h5: ¬ c=0∧ ¬ c≤hi64 a b:=by
  unfold de at he;refine⟨fun e=>by simp[e]at he,fun e=> ?_⟩;by_cases hc:c=0<;>simp[hc,e]at he
 simp[mulDiv,h4,h5.1,h5.2,dq,h3]
theorem muldiv_any (a b c:Nat) (ha:a<18446744073709551616) (hb:b<18446744073709551616) (hc:c<18446744073709551616) (w:World):
  Calls Tryz.prog 156 #[.int .u64 a, .int .u64 b, .int .u64 c] w fun e w'=>e= .returned (.int .u64 (mulDiv a b c:Nat))∧w=w':=by
 have h1:=hi64_lt a b ha hb;have h2:=lo64_lt a b;have CM:=mul_any a b ha hb w;have CD:=div_all (hi64 a b) (lo64 a b) c h2 hc w;have M1:=mulDiv_zero (a:=a) (b:=b) (c:=c);have M2:=mulDiv_top (a:=a) (b:=b) (c:=c);have M3:=mulDiv_ok (a:=a) (b:=b) (c:=c);generalize dq (hi64 a b) (lo64 a b) c=q at*
 generalize de (hi64 a b) c=e0 at*
 generalize hi64 a b=h at*
 generalize lo64 a b=l at*
 generalize mulDiv a b c=r at*
 have G1:h=0∧l=0∨ ¬(h=0∧l=0)∧(h=0∧(l==0)=false∨(h==0)=false):=by simp;omega
 have CM':=zH CM;have CD':=zH CD;clear CM CD;rcases G1 with⟨rfl,rfl⟩ | ⟨hn,G1⟩
 ·obtain rfl:=M1 rfl rfl
  clear M1 M2 M3;go_enter Tryz.func156,Tryz.ntmps156
  go_wp2_with (go_at_call 181;refine CM'.out.mono ?_;rintro e w' ⟨rfl,rfl⟩)
  go_ret
  exact⟨rfl,rfl⟩
 ·have M2:=M2 hn
  have M3:=M3 hn;clear M1 hn;rcases Nat.eq_zero_or_pos e0 with e1 | e1
  ·subst e1
   have M3:=M3 rfl;subst M3;clear M2;rcases G1 with⟨rfl,g2⟩ | g1
   all_goals
    go_enter Tryz.func156,Tryz.ntmps156
    go_wp2_with (first | (go_at_call 181;refine CM'.out.mono ?_;rintro e w' ⟨rfl,rfl⟩) | (go_at_call 182;refine CD'.out.mono ?_;rintro e w' ⟨rfl,rfl⟩))
    go_ret
    exact⟨rfl,rfl⟩
  ·have M2:=M2 (by omega)
   subst M2;clear M3;have t:((e0:Int)!=0)=true:=by rw[bne_iff_ne];omega
   rcases G1 with⟨rfl,g2⟩ | g1
   all_goals
    go_enter Tryz.func156,Tryz.ntmps156
    go_wp2_with (first | (go_at_call 181;refine CM'.out.mono ?_;rintro e w' ⟨rfl,rfl⟩) | (go_at_call 182;refine CD'.out.mono ?_;rintro e w' ⟨rfl,rfl⟩))
    go_ret
    exact⟨rfl,rfl⟩
theorem rmuldiv_any (a b c:Nat) (ha:a<18446744073709551616) (hb:b<18446744073709551616) (hc:c<18446744073709551616) (w:World):
  Calls Tryz.prog 36 #[.int .u64 a, .int .u64 b, .int .u64 c] w fun e w'=>e= .returned (.int .u64 (mulDiv a b c:Nat))∧w=w':=by
 have h1:=hi64_lt a b ha hb;have h2:=lo64_lt a b;have CM:=rwide_any a b ha hb w;have CD:=rdiv_all (hi64 a b) (lo64 a b) c h2 hc w;have M1:=mulDiv_zero (a:=a) (b:=b) (c:=c);have M2:=mulDiv_top (a:=a) (b:=b) (c:=c);have M3:=mulDiv_ok (a:=a) (b:=b) (c:=c);generalize dq (hi64 a b) (lo64 a b) c=q at*
 generalize de (hi64 a b) c=e0 at*
 generalize hi64 a b=h at*
 generalize lo64 a b=l at*
 generalize mulDiv a b c=r at*
 have G1:h=0∧l=0∨ ¬(h=0∧l=0)∧(h=0∧(l==0)=false∨(h==0)=false):=by simp;omega
 have CM':=zH CM;have CD':=zH CD;clear CM CD;rcases G1 with⟨rfl,rfl⟩ | ⟨hn,G1⟩
 ·obtain rfl:=M1 rfl rfl
  clear M1 M2 M3;go_enter Tryz.func36,Tryz.ntmps36
  go_wp2_with (go_at_call 60;refine CM'.out.mono ?_;rintro e w' ⟨rfl,rfl⟩)
  go_ret
  exact⟨rfl,rfl⟩
 ·have M2:=M2 hn
  have M3:=M3 hn;clear M1 hn;rcases Nat.eq_zero_or_pos e0 with e1 | e1
  ·subst e1
   have M3:=M3 rfl;subst M3;clear M2;rcases G1 with⟨rfl,g2⟩ | g1
   all_goals
    go_enter Tryz.func36,Tryz.ntmps36
    go_wp2_with (first | (go_at_call 60;refine CM'.out.mono ?_;rintro e w' ⟨rfl,rfl⟩) | (go_at_call 61;refine CD'.out.mono ?_;rintro e w' ⟨rfl,rfl⟩))
    go_ret
    exact⟨rfl,rfl⟩
  ·have M2:=M2 (by omega)
   subst M2;clear M3;have t:((e0:Int)!=0)=true:=by rw[bne_iff_ne];omega
   rcases G1 with⟨rfl,g2⟩ | g1
   all_goals
    go_enter Tryz.func36,Tryz.ntmps36
    go_wp2_with (first | (go_at_call 60;refine CM'.out.mono ?_;rintro e w' ⟨rfl,rfl⟩) | (go_at_call 61;refine CD'.out.mono ?_;rintro e w' ⟨rfl,rfl⟩))
    go_ret
    exact⟨rfl,rfl⟩
end
end Go.Proofs.YtojgokiobdpclaaGreat
