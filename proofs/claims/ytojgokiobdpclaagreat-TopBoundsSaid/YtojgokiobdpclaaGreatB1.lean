import Derived.Test.YtojgokiobdpclaaGreatQ2
import Derived.Lib.Hide
import Derived.Outline
import Derived.WalkKit
import Derived.WalkMore
import Derived.Laws.Externs
namespace Go.Proofs.YtojgokiobdpclaaGreat
set_option linter.unusedVariables false
set_option linter.unusedSimpArgs false
set_option maxRecDepth 8000
set_option maxHeartbeats 8000000
section
open Go.RowKit Go.Lib
theorem rmul_any (a b:Nat) (_:a<18446744073709551616) (hb:b<18446744073709551616) (w:World):
  Calls Tryz.prog 44 #[.int .u64 a, .int .u64 b] w fun e w'=>e= .returned (.int .u64 (satMul a b:Nat))∧w=w':=by
 unfold satMul;rcases Nat.eq_zero_or_pos b with rfl | hp
 ·rw[Nat.mul_zero,if_pos (by omega)]
  go_enter Tryz.func44,Tryz.ntmps44
  go_wp2;go_ret
  exact⟨rfl,rfl⟩
 ·have y:((b:Int)==0)=false:=by rw[beq_eq_false_iff_ne];omega
  have hq:18446744073709551615 / b<a↔ ¬ a*b<18446744073709551616:=by
   rw[Nat.div_lt_iff_lt_mul hp];omega
  obtain⟨q,hq1⟩: ∃ q:Nat,18446744073709551615 / b=q:=⟨_,rfl⟩;have hq2:(18446744073709551615:Int) / b=q:=by rw[←hq1];simp
  rw[hq1]at hq;clear hq1;by_cases h:a*b<18446744073709551616
  ·rw[if_pos h]
   have t1:decide (q<a)=false:=by simp;omega
   have t2:IntKind.u64.wrap ((a:Int)*b)=((a*b:Nat):Int):=by
    rw[IntKind.wrap_u64,show(a:Int)*b=((a*b:Nat):Int)from by simp];omega
   obtain⟨P,hP⟩: ∃ P:Nat,a*b=P:=⟨_,rfl⟩;rw[hP]at t2 ⊢;clear hq h hP;go_enter Tryz.func44,Tryz.ntmps44
   go_wp2;go_ret
   exact⟨rfl,rfl⟩
  ·rw[if_neg h]
   have t1:decide (q<a)=true:=by simp;omega
   clear hq h;go_enter Tryz.func44,Tryz.ntmps44
   go_wp2;go_ret
   exact⟨rfl,rfl⟩
end
section
open Go.RowKit Go.Lib
section
variable {w w':World} {g g':Nat→Nat} {T b:Nat} {m:MC} {n:Nat}
theorem state_at (hm:m.okn n) {s:Nat} (hs:s<8) (hT0:0<T) (hT:Tidy w g) (h:McAt w g T b m):
  Calls Tryz.prog 22 #[.pointer (some ⟨b,0,none⟩), .int .i64 s] w fun e w'=>e= .returned (.tuple #[sto (m.sk s), .bool (m.sk s).isSome])∧Below w.heap.size w w':=by
 obtain⟨pc,sp,pq,pl,fp,bl,bt,h⟩:=h;exact mcstate_any b s hs pc sp pq pl fp bl bt m hm.ok g T hT0 w hT h
end
end
section
open Go.RowKit Go.Lib
def flN (l:List PC):Nat:=(l.map fun p=>if flyB p then p.til-p.frm else 0).sum
def PC.fine (p:PC):Prop:=p.frm<p.til∧p.til≤p.frm+65536∧p.til≤1000000000000
theorem flN_le {l:List PC} (h: ∀ p∈l,p.fine):flN l≤l.length*65536:=by
 unfold flN;induction l with
 | nil=>simp
 | cons p r ih=>
  have h1:=h p (List.mem_cons_self ..);have h2:=ih fun q hq=>h q (List.mem_cons_of_mem _ hq)
  have h3:(if flyB p then p.til-p.frm else 0)≤65536:=by split<;>(unfold PC.fine at h1;omega)
  simp only[List.map_cons,List.sum_cons,List.length_cons];omega
theorem fold_flN: ∀(l:List PC) (a:Nat),(∀ p∈l,p.fine)→a+l.length*65536<18446744073709551616→l.foldl flW (a:Int)=((a+flN l:Nat):Int)
 | [],a,_,_=>by simp[flN]
 | p::r,a,h,hl=>by
  have h1:=h p (List.mem_cons_self ..);simp only[List.length_cons]at hl;have e:flW (a:Int) p=((a+(if flyB p then p.til-p.frm else 0):Nat):Int):=by
   unfold flW;split
   ·unfold PC.fine at h1
    rw[IntKind.wrap_u64,IntKind.wrap_u64];omega
   ·simp
  have h3:(if flyB p then p.til-p.frm else 0)≤65536:=by split<;>(unfold PC.fine at h1;omega)
  rw[List.foldl_cons,e,fold_flN r _ (fun q hq=>h q (List.mem_cons_of_mem _ hq)) (by omega)];unfold flN;simp only[List.map_cons,List.sum_cons];omega
theorem SK.fine {k:SK} (h:k.ok): ∀ p∈k.pcs,p.fine:=fun p hp=>by
 obtain⟨p1,p2,p3,_⟩:=h.pc p hp;obtain⟨b1,b2,b3,b4,b5⟩:=h.bf;have:=h.e;exact⟨p1,p2,by omega⟩
theorem SK.fl_N {k:SK} (h:k.ok):k.fl=flN k.pcs:=by
 have hl:=h.len;have:=fold_flN k.pcs 0 (SK.fine h) (by omega);have e:flSum k.pcs=((flN k.pcs:Nat):Int):=by
  unfold flSum;rw[show(0:Int)=((0:Nat):Int)from rfl,this];simp
 unfold SK.fl;rw[e];rfl
theorem flN_app (l r:List PC):flN (l++r)=flN l+flN r:=by simp[flN]
theorem flN_lose (l:List PC):flN (l.map loseP)≤flN l:=by
 unfold flN;induction l with
 | nil=>simp
 | cons p r ih=>
  have:(if flyB (loseP p)then(loseP p).til-(loseP p).frm else 0)≤(if flyB p then p.til-p.frm else 0):=by
   unfold loseP;cases hb:flyB p with
   | true=>simp[flyB]
   | false=>simp[hb]
  simp only[List.map_cons,List.sum_cons];omega
theorem flN_rest (u:Nat) (s:List (Nat×Nat)) (l:List PC):flN (restF u s l)≤flN l:=by
 unfold flN restF;induction l with
 | nil=>simp
 | cons p r ih=>
  rw[List.filter_cons];split
  ·have:(if flyB (ackP u s p)then(ackP u s p).til-(ackP u s p).frm else 0)≤(if flyB p then p.til-p.frm else 0):=by
    unfold ackP;split
    ·simp[flyB]
    ·exact Nat.le_refl _
   simp only[List.map_cons,List.sum_cons];omega
  ·simp only[List.map_cons,List.sum_cons]
   omega
theorem psF_cons (p:PC) (r:List PC):(psF (p::r)).1={ p with lost:=true }::(psF r).1∨(psF (p::r)).1=p::(psF r).1:=by
 rw[psF];generalize(if p.sacked=true then(psF r).2.2+1 else(psF r).2.2)=ab
 split
 ·exact .inl rfl
 ·exact .inr rfl
theorem flN_ps (l:List PC):flN (psF l).1≤flN l:=by
 unfold flN;induction l with
 | nil=>exact Nat.le_refl _
 | cons p r ih=>
  rcases psF_cons p r with e | e
  ·rw[e]
   simp only[List.map_cons,List.sum_cons];rw[if_neg (show ¬ flyB ({ p with lost:=true }:PC)=true by simp[flyB])];omega
  ·rw[e]
   simp only[List.map_cons,List.sum_cons];omega
theorem flN_set (l:List PC) (i:Nat) (x y:PC) (hx:l[i]? =some x) (h1:y.frm=x.frm) (h2:y.til=x.til):flN (l.set i y)≤flN l+(x.til-x.frm):=by
 unfold flN;induction l generalizing i with
 | nil=>cases hx
 | cons p r ih=>
  cases i with
  | zero=>
   cases hx
   simp only[List.set_cons_zero,List.map_cons,List.sum_cons];have:(if flyB y then y.til-y.frm else 0)≤x.til-x.frm:=by rw[h1,h2];split<;>omega
   omega
  | succ j=>
   simp only[List.set_cons_succ,List.map_cons,List.sum_cons];have:=ih j hx;omega
theorem flN_brd {k:SK} (hk:k.ok) (hm:k.mayE=0) (now:Nat):flN (k.brd now).pcs≤flN k.pcs+(k.rg.2-k.rg.1):=by
 cases hl:k.los with
 | true=>
  rw[SK.brd_los hl,SK.rg_los hl];show flN (agL k.pcs (k.snt now))≤_
  unfold agL agR;cases hx:k.pcs[(lostIx k.pcs).toNat]? with
  | none=>exact Nat.le_add_right _ _
  | some x=>exact flN_set _ _ x _ hx rfl rfl
 | false=>
  rw[SK.brd_no hl,SK.rg_no hl];show flN (k.pcs++[_])≤_
  rw[flN_app];have he:=hk.e;unfold flN;simp only[List.map_cons,List.map_nil,List.sum_cons,List.sum_nil];rw[he];split<;>omega
def wasO:Option SK→Nat
 | none=>0
 | some k=>k.out
def wasF:Option SK→Nat
 | none=>0
 | some k=>k.fl
structure BdP (k0 k:SK):Prop where
 bb:k.bb=k0.bb
 ms:k.mss=k0.mss
 mo:k.most=k0.most
 o:k.out≤max k0.out (k0.lim+65536)
 f:flN k.pcs≤max (flN k0.pcs) (k0.bb.cwnd+65536)
theorem BdP.lim {k0 k:SK} (h:BdP k0 k):k.lim=k0.lim:=by unfold SK.lim SK.tso;rw[h.bb,h.ms,h.mo]
theorem BdP.emit {k0 k:SK} (h:BdP k0 k) (hk:k.ok) (hm:k.mayE=0) (now:Nat):BdP k0 (k.emitF now):=by
 obtain⟨b1,b2,b3,b4,_⟩:=SK.emitF_same k now;obtain⟨_,_,m1,m2,_⟩:=SK.may_zero hm;obtain⟨r1,r2,r3⟩:=SK.rg_ok hk hm;have hl:=h.lim;have hb:=h.bb;have e:=SK.fl_N hk;have hf:=flN_brd hk hm now;rw[hb]at m1;refine⟨b2.trans h.bb,b3.trans h.ms,b4.trans h.mo, ?_, ?_⟩
 ·show k.out+(k.rg.2-k.rg.1)≤_
  omega
 ·show flN (k.brd now).pcs≤_
  omega
theorem BdP.don {k0 k:SK} (h:BdP k0 k) (n:Int):BdP k0 (k.donF n):=by
 obtain⟨_,c2,_,c4,c5,c6,_,c8,_⟩:=SK.donF_same k n;exact⟨c4.trans h.bb,c5.trans h.ms,c6.trans h.mo,Nat.le_trans c2 h.o,by rw[c8];exact h.f⟩
theorem BdP.may {k0 k:SK} (h:BdP k0 k):BdP k0 k.mayS:=by
 obtain⟨_,c2,_,c4,c5,c6,_,c8,_⟩:=SK.mayS_same k;exact⟨c4.trans h.bb,c5.trans h.ms,c6.trans h.mo,by rw[c2];exact h.o,by rw[c8];exact h.f⟩
theorem pumpR_bd {now:Nat} (hn:now<18446744073709551616) {k:SK} {q:FQ} (o:OU) (hk:k.ok) (hq:q.inv):(pumpR now k q o).1.ok∧BdP k (pumpR now k q o).1:=by
 obtain⟨h1,_,h3⟩:=pumpR_ind (P:=fun k' _ _=>BdP k k') hn (fun k' _ _ hk' _ h hm _=>h.emit hk' hm now) (fun k' _ _ hk' _ h hm _=>(h.emit hk' hm now).don _) (fun k' _ _ _ _ h _=>h.may) hk hq (o:=o) ⟨rfl,rfl,rfl,Nat.le_max_left _ _,Nat.le_max_left _ _⟩;exact⟨h1,h3⟩
theorem tldF_fl (k:SK) (d:DD) (now:Nat):flN (tldF k d now).pcs≤flN k.pcs:=by
 unfold tldF;split
 ·exact Nat.le_refl _
 ·split
  ·unfold SK.ack
   split
   ·exact Nat.le_trans (flN_ps _) (flN_rest _ _ _)
   ·exact Nat.le_refl _
  ·split
   ·exact flN_lose _
   ·unfold SK.donF
    split<;>exact Nat.le_refl _
theorem bd_end {k:SK} (hk:k.ok) {o f:Nat} (h1:k.out≤max o (k.lim+65536)) (h2:flN k.pcs≤max f (k.bb.cwnd+65536)):k.out≤max o (k.lim+65536)∧k.fl≤max f (satAdd k.bb.cwnd 65536):=by
 refine⟨h1, ?_⟩;have e:=SK.fl_N hk;have hl:=hk.len;have h3:=flN_le (SK.fine hk);unfold satAdd;split<;>omega
theorem doF_bd {m:MC} {n:Nat} (hm:m.okn n) (hn:n<1000000) {d:DD} (hd:d.ok) {s:Nat} (hs:s<8) {k':SK} (hk':(doF m d).2.1.sk s=some k'):
  k'.out≤max (wasO (m.sk s)) (k'.lim+65536)∧k'.fl≤max (wasF (m.sk s)) (satAdd k'.bb.cwnd 65536):=by
 have hok:k'.ok:=((doF_ok hm hn hd).ok.sk s k' hs hk').1;have hnow:m.now<18446744073709551616:=by have:=hm.ok.now;omega
 have same:m.sk s=some k'→k'.out≤max (wasO (m.sk s)) (k'.lim+65536)∧k'.fl≤max (wasF (m.sk s)) (satAdd k'.bb.cwnd 65536):=fun e=>by
  rw[e];exact⟨Nat.le_max_left _ _,Nat.le_max_left _ _⟩
 by_cases h1:d.kind=5∨d.kind=6∨d.kind=8
 ·refine same ?_
  rw[←hk'];unfold doF;split
  ·rfl
  ·split
   ·rfl
   ·split
    ·show _=(m.set_ d.cr).sk s
     unfold MC.set_;split<;>rfl
    ·rename_i a b c;omega
 ·rw[not_or,not_or]at h1
  obtain⟨g5,g6,g8⟩:=h1;by_cases g:d.kind=1∨d.kind=2∨d.kind=3∨d.kind=4∨d.kind=7∨d.kind=9
  ·have e:doF m d=oneF m d:=by unfold doF;rw[if_neg g5,if_neg g6,if_neg g8,if_pos g]
   rw[e]at hk';unfold oneF at hk';split at hk'
   ·rename_i hsk
    rw[Bool.and_eq_true,decide_eq_true_eq,decide_eq_true_eq]at hsk;have hs8:d.sock.toNat<8:=by omega
    cases hk:m.sk d.sock.toNat with
    | none=>
     rw[hk]at hk';simp only[oneS]at hk';split at hk'
     ·have hp:putF m.sk d.sock.toNat (some (newK d.sock.toNat m.c)) s=some k':=hk'
      by_cases es:s=d.sock.toNat
      ·rw[es,putF_at]at hp
       cases hp
       refine bd_end hok ?_ ?_
       ·show 0≤_;exact Nat.zero_le _
       ·show 0≤_;exact Nat.zero_le _
      ·rw[putF_ne _ _ es]at hp
       exact same hp
     ·exact same hk'
    | some k=>
     obtain⟨k1,k2⟩:=hm.ok.sk _ k hs8 hk;have kw:=hm.wr _ k hs8 hk;rw[hk]at hk';simp only[oneS]at hk';split at hk'
     ·exact same hk'
     ·split at hk'
      ·have hp:putF m.sk d.sock.toNat none s=some k':=hk'
       by_cases es:s=d.sock.toNat
       ·rw[es,putF_at]at hp;cases hp
       ·rw[putF_ne _ _ es]at hp;exact same hp
      ·split at hk'
       ·have hp:putF m.sk d.sock.toNat (some (pumpR m.now (tldF k d m.now) m.q ou0).1) s=some k':=hk'
        by_cases es:s=d.sock.toNat
        ·rw[es,putF_at]at hp
         cases hp
         rw[es,hk];obtain⟨_,_,_,_,t5⟩:=tldF_same k d hd m.now;have t6:=tldF_fl k d m.now;obtain⟨_,hb⟩:=pumpR_bd hnow ou0 (tldF_ok k1 hd (by omega) hnow) hm.ok.q;have ho:=hb.o;have hf:=hb.f;rw[←hb.lim]at ho;rw[←hb.bb]at hf;have e1:=SK.fl_N k1;refine bd_end hok ?_ ?_
         ·show _≤max k.out _;omega
         ·show _≤max k.fl _;omega
        ·rw[putF_ne _ _ es]at hp;exact same hp
       ·exact same hk'
   ·exact same hk'
  ·refine same ?_
   rw[←hk'];unfold doF;rw[if_neg g5,if_neg g6,if_neg g8,if_neg g]
def MoI (m:MC) (mo:Nat→Nat):Prop:= ∀ s k,s<8→m.sk s=some k→k.most=mo s
def moF (m:MC) (d:DD) (mo:Nat→Nat):Nat→Nat:=if(doF m d).1=0∧d.kind=1 then putF mo d.sock.toNat m.c.cap else mo
theorem doF_mo {m:MC} {n:Nat} (hm:m.okn n) (hn:n<1000000) {d:DD} (hd:d.ok) {mo:Nat→Nat} (h:MoI m mo):MoI (doF m d).2.1 (moF m d mo):=by
 have hnow:m.now<18446744073709551616:=by have:=hm.ok.now;omega
 by_cases he:(doF m d).1=0
 ·by_cases h1:d.kind=5∨d.kind=6∨d.kind=8
  ·have e1:moF m d mo=mo:=by unfold moF;rw[if_neg (by rintro⟨_,h⟩;omega)]
   have e2:(doF m d).2.1.sk=m.sk:=by
    unfold doF;split
    ·rfl
    ·split
     ·rfl
     ·split
      ·show(m.set_ d.cr).sk=_
       unfold MC.set_;split<;>rfl
      ·rename_i a b c;omega
   rw[e1];intro s k hs hk;rw[e2]at hk;exact h s k hs hk
  ·rw[not_or,not_or]at h1
   obtain⟨g5,g6,g8⟩:=h1;by_cases g:d.kind=1∨d.kind=2∨d.kind=3∨d.kind=4∨d.kind=7∨d.kind=9
   ·have e:doF m d=oneF m d:=by unfold doF;rw[if_neg g5,if_neg g6,if_neg g8,if_pos g]
    unfold moF;rw[e]at he ⊢;unfold oneF at he ⊢;split
    ·rename_i hsk
     rw[if_pos hsk]at he;rw[Bool.and_eq_true,decide_eq_true_eq,decide_eq_true_eq]at hsk;have hs8:d.sock.toNat<8:=by omega
     cases hk:m.sk d.sock.toNat with
     | none=>
      rw[hk]at he;simp only[oneS]at he ⊢;by_cases g1:d.kind=1
      ·simp only[if_pos g1]
       rw[if_pos ⟨trivial,g1⟩];intro s k' hs hk';have hp:putF m.sk d.sock.toNat (some (newK d.sock.toNat m.c)) s=some k':=hk';by_cases es:s=d.sock.toNat
       ·rw[es,putF_at]at hp ⊢
        cases hp
        rfl
       ·rw[putF_ne _ _ es]at hp ⊢
        exact h s k' hs hp
      ·simp only[if_neg g1]at he
       cases he
     | some k=>
      obtain⟨k1,k2⟩:=hm.ok.sk _ k hs8 hk;have kw:=hm.wr _ k hs8 hk;rw[hk]at he;simp only[oneS]at he ⊢;by_cases g1:d.kind=1
      ·simp only[if_pos g1]at he;cases he
      ·simp only[if_neg g1]at he ⊢
       have hz: ∀(P:Prop) [Decidable (P∧d.kind=1)],(if P∧d.kind=1 then putF mo d.sock.toNat m.c.cap else mo)=mo:=fun P _=>if_neg fun h=>g1 h.2
       rw[hz];by_cases g9:d.kind=9
       ·simp only[if_pos g9]
        intro s k' hs hk';have hp:putF m.sk d.sock.toNat none s=some k':=hk';by_cases es:s=d.sock.toNat
        ·rw[es,putF_at]at hp;cases hp
        ·rw[putF_ne _ _ es]at hp;exact h s k' hs hp
       ·simp only[if_neg g9]at he ⊢
        by_cases gt:tldE k d m.now=0
        ·simp only[if_pos gt]
         intro s k' hs hk';have hp:putF m.sk d.sock.toNat (some (pumpR m.now (tldF k d m.now) m.q ou0).1) s=some k':=hk';by_cases es:s=d.sock.toNat
         ·rw[es,putF_at]at hp
          cases hp
          obtain⟨_,_,_,t4,_⟩:=tldF_same k d hd m.now;obtain⟨_,hb⟩:=pumpR_bd hnow ou0 (tldF_ok k1 hd (by omega) hnow) hm.ok.q;rw[hb.mo,t4,es];exact h _ k hs8 hk
         ·rw[putF_ne _ _ es]at hp;exact h s k' hs hp
        ·simp only[if_neg gt]at he;exact absurd he gt
    ·rename_i hsk;rw[if_neg hsk]at he;cases he
   ·have e:doF m d=(12,m,ou0):=by unfold doF;rw[if_neg g5,if_neg g6,if_neg g8,if_neg g]
    rw[e]at he;cases he
 ·unfold moF
  rw[if_neg (by rintro⟨h,_⟩;exact he h),doF_err he];exact h
end
section
open Go.RowKit Go.Lib
theorem lim_ref (rate tso most:Nat) (hr:rate<18446744073709551616) (h1:tso≤65536) (h2:most≤1073741824) (w:World):
  Calls Tryz.prog 23 #[.int .u64 rate, .int .i64 tso, .int .i64 most] w fun e w'=>e= .returned (.int .u64 (tlimF rate tso most:Nat))∧w=w':=by
 unfold tlimF;have CM:=zH (fun w=>rmul_any 2 tso (by decide) (by omega) w);rw[show satMul 2 tso=2*tso from by unfold satMul;rw[if_pos (by omega)]]at CM;obtain⟨a,ha,HA⟩:=divs rate 1024;rw[ha];have ha2:a≤rate:=ha▸Nat.div_le_self _ _;obtain⟨x,hx⟩: ∃ x,2*tso=x:=⟨_,rfl⟩;obtain⟨y,hy⟩: ∃ y,min a most=y:=⟨_,rfl⟩;rw[hx]at CM;rw[hx,hy];obtain⟨m,hm⟩: ∃ m,max x y=m:=⟨_,rfl⟩;rw[hm];obtain⟨x2,x3⟩:=HA.out;rw[show((1024:Nat):Int)=1024 from rfl]at x2 x3;have w1:=wrapu_of tso (by omega);have w2:=wrapu_of most (by omega);have w3:=wrapu_of a (by omega);have w4:=wrapu_of x (by omega);have hm2:=hm;have hy2:=hy;clear ha hx hm hy;go_enter Tryz.func23,Tryz.ntmps23
 go_upto_region 1 with fail
 refine wp_region_lit ?_;iterate 3 (refine wpList_plain rfl fun K hK=> ?_;go_simp;refine hK _ _ ?_;clear hK K)
 refine wpList_plain rfl fun K hK=> ?_
 go_simp;refine(CM.out _).mono ?_;rintro e w1 ⟨rfl,rfl⟩;refine hK _ _ ?_;clear hK K;have k1:(if(x:Int)<y then(y:Int)else x)=m:=by split<;>omega
 have k2:(if(y:Int)<x then(x:Int)else y)=m:=by split<;>omega
 have k3:max (x:Int) y=m:=by omega
 have k4:(if(a:Int)<most then(a:Int)else most)=y:=by split<;>omega
 have k5:(if(most:Int)<a then(most:Int)else a)=y:=by split<;>omega
 have k6:min (a:Int) most=y:=by omega
 iterate 8 (refine wpList_plain rfl fun K hK=> ?_;go_simp;refine hK _ _ ?_;clear hK K)
 refine wpList_nil ?_;go_wp2;go_ret
 exact⟨rfl,rfl⟩
end
end Go.Proofs.YtojgokiobdpclaaGreat
