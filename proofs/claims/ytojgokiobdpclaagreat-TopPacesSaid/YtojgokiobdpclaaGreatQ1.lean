import Derived.Test.YtojgokiobdpclaaGreatP44
namespace Go.Proofs.YtojgokiobdpclaaGreat
set_option linter.unusedVariables false
set_option linter.unusedSimpArgs false
set_option maxRecDepth 8000
set_option maxHeartbeats 8000000
section
open Go.RowKit Go.Lib
def pick (v lo hi:Int) (p:Nat):Int:=if wth v lo hi=true then v else p
def hzP (h:Nat):Nat:=if h≤4611686018427387904 then h else 10000000000
def crc (c:CR):Array Value:= #[.int .i64 c.quantum, .int .i64 c.first, .int .i64 c.limit, .int .i64 c.flowLimit, .int .u64 c.horizon, .int .u64 c.maxRate, .bool c.drop, .int .i64 c.cap, .int .i64 c.mss]
def cfP (c:CR):CF:=⟨(pick c.quantum 100 65536 3000).toNat,(pick c.first 100 65536 15000).toNat,(pick c.limit 1 512 100).toNat,(pick c.flowLimit 1 512 50).toNat,hzP c.horizon,c.maxRate,c.drop,(pick c.cap 1 1073741824 100000).toNat,(pick c.mss 100 9000 1000).toNat⟩
theorem pick_in {v lo hi:Int} {p:Nat} (h1:lo≤p) (h2:(p:Int)≤hi):lo≤pick v lo hi p∧pick v lo hi p≤hi:=by
 unfold pick wth;split
 ·rename_i h
  simpa [Bool.and_eq_true]using h
 ·exact⟨h1,h2⟩
theorem cfP_ok (c:CR) (hm:c.maxRate<18446744073709551616):(cfP c).ok:=by
 have h1:=pick_in (v:=c.quantum) (lo:=100) (hi:=65536) (p:=3000) (by decide) (by decide);have h2:=pick_in (v:=c.first) (lo:=100) (hi:=65536) (p:=15000) (by decide) (by decide);have h3:=pick_in (v:=c.limit) (lo:=1) (hi:=512) (p:=100) (by decide) (by decide);have h4:=pick_in (v:=c.flowLimit) (lo:=1) (hi:=512) (p:=50) (by decide) (by decide);have h5:=pick_in (v:=c.cap) (lo:=1) (hi:=1073741824) (p:=100000) (by decide) (by decide);have h6:=pick_in (v:=c.mss) (lo:=100) (hi:=9000) (p:=1000) (by decide) (by decide);have h7:hzP c.horizon≤4611686018427387904:=by unfold hzP;split<;>omega
 exact⟨by show 100≤(pick _ _ _ _).toNat;omega,by show(pick _ _ _ _).toNat≤65536;omega,by show 100≤(pick _ _ _ _).toNat;omega,by show(pick _ _ _ _).toNat≤65536;omega,by show 1≤(pick _ _ _ _).toNat;omega,by show(pick _ _ _ _).toNat≤512;omega,by show 1≤(pick _ _ _ _).toNat;omega,by show(pick _ _ _ _).toNat≤512;omega,h7,hm,by show 1≤(pick _ _ _ _).toNat;omega,by show(pick _ _ _ _).toNat≤1073741824;omega,by show 100≤(pick _ _ _ _).toNat;omega,by show(pick _ _ _ _).toNat≤9000;omega⟩
structure PlI (w:World) (N0 N3:Nat) (c:CR) (v:Array Value) (W:World):Prop where
 a:At W N0 24 (crc c)
 z:At W (N0+1) 24 #[.int .i64 0, .int .i64 0, .int .i64 0, .int .i64 0, .int .u64 0, .int .u64 0, .bool false, .int .i64 0, .int .i64 0]
 p:At W N3 24 v
 b:Below w.heap.size w W
 n0:w.heap.size=N0
 lt:N0+1<N3
theorem PlI.put {w:World} {N0 N3:Nat} {c:CR} {v:Array Value} {W:World} (h:PlI w N0 N3 c v W) (i:Nat) (u:Value):PlI w N0 N3 c (v.setIfInBounds i u) (W.setCell ⟨N3,i,none⟩ u):=by
 have hl:=h.lt;have h0:=h.n0;exact⟨h.a.far (by show N0≠N3;omega),h.z.far (by show N0+1≠N3;omega),h.p.set i,h.b.setCell (by show w.heap.size≤N3;omega) _,h0,hl⟩
theorem PlI.drew {w:World} {N0 N3:Nat} {c:CR} {v:Array Value} {W:World} (h:PlI w N0 N3 c v W):PlI w N0 N3 c v W.drew:=⟨h.a,h.z,h.p,h.b.drew,h.n0,h.lt⟩
theorem wpList_store_row {P:Program} {ops:Array Oper} {rest:List Oper} {op:Oper} {a:Act} (w:World) {Q:Exit→Act→World→Prop} (hgd:op.guard=none) (ty:TypeId) (x y:Operand) (ho:op.op= .store ty x y)
  (b:Nat) (c c':Array Value) (hA:At w b ty c) (hx:a.eval x= .pointer (some ⟨b,0,none⟩)) (hy:a.eval y= .agg c') (hi:(P.info? ty).map (·.size)=some c'.size) (hs:c.size=c'.size) (h1:c'.all (·.oneCell')=true)
  (h: ∀ w',Put w w' b ty c'→wpList P ops Q rest (a.put op.dst undef) w'):wpList P ops Q (op::rest) a w:=by
 refine wpList_plain hgd fun K hK=> ?_
 unfold Oper.wp execOp;simp only[ho,hx,hy,Instr.storeAt,Instr.sureAddr,Sem.run_bind,Sem.run_pure,Result.andThen_ok,run_storeVar_row _ _ ty ty c c' hA hi hs h1];exact hK _ _ (h _ ⟨by
  unfold At World.setRow;simp[Array.getElem?_modify,show w.heap[b]? =_ from hA],⟨rfl,rfl,rfl,by simp[World.setRow],fun k hk hne=>by
  simp only[World.setRow,Array.getElem?_modify];rw[if_neg (fun e=>hne (by rw[e]))]⟩⟩)
theorem config_any (c:CR) (w:World):Calls Tryz.prog 8 #[crv c] w fun e w'=>e= .returned (.agg #[.int .i64 (pick c.quantum 100 65536 3000), .int .i64 (pick c.first 100 65536 15000), .int .i64 (pick c.limit 1 512 100), .int .i64 (pick c.flowLimit 1 512 50), .int .u64 (hzP c.horizon:Nat), .int .u64 c.maxRate, .bool c.drop, .int .i64 (pick c.cap 1 1073741824 100000), .int .i64 (pick c.mss 100 9000 1000)])∧Below w.heap.size w w':=by
 obtain⟨N0,e0⟩: ∃ z,w.heap.size=z:=⟨_,rfl⟩;have CP:=zH (fun w'=>plain_any w');unfold cfv at CP;unfold crv;go_enter Tryz.func8,Tryz.ntmps8
 go_upto_region 1 with fail
 refine wp_named (fun W=>At W N0 24 (crc c)∧At W (N0+1) 24 #[.int .i64 0, .int .i64 0, .int .i64 0, .int .i64 0, .int .u64 0, .int .u64 0, .bool false, .int .i64 0, .int .i64 0]∧Below w.heap.size w W∧W.heap.size=N0+2) ⟨?_, ?_, ?_, ?_⟩ (fun W hW=> ?_)
 ·rw[←e0];exact(At.made w _ _).al _
 ·have t:=At.made (w.alloc (.cells (crc c) 24)) 24 #[.int .i64 0, .int .i64 0, .int .i64 0, .int .i64 0, .int .u64 0, .int .u64 0, .bool false, .int .i64 0, .int .i64 0]
  rw[alloc_size,e0]at t;exact t
 ·exact((Below.refl _ w).alloc (Nat.le_refl _) _).alloc (by simp) _
 ·rw[alloc_size,alloc_size,e0]
 obtain⟨A,Z,B,hs⟩:=hW;go_wp2_with fail
 refine(CP.out W).mono ?_;rintro e w2 ⟨rfl,hB⟩;obtain⟨N3,e3⟩: ∃ z,w2.heap.size=z:=⟨_,rfl⟩;have hl:N0+1<N3:=by have:=hB.size;omega
 have I0:PlI w N0 N3 c #[.int .i64 3000, .int .i64 15000, .int .i64 100, .int .i64 50, .int .u64 10000000000, .int .u64 0, .bool false, .int .i64 100000, .int .i64 1000] (w2.alloc (.cells #[.int .i64 3000, .int .i64 15000, .int .i64 100, .int .i64 50, .int .u64 10000000000, .int .u64 0, .bool false, .int .i64 100000, .int .i64 1000] 24)):=⟨(A.below hB (by omega)).al _,(Z.below hB (by omega)).al _,At.mk1 _ _ e3,(B.trans (hB.mono (by omega))).alloc (by omega) _,e0,hl⟩;have HI0:=zH I0;clear I0 A Z B hs hB;go_upto_region 2 with fail
 refine wp_named (fun W=>PlI w N0 N3 c #[.int .i64 3000, .int .i64 15000, .int .i64 100, .int .i64 50, .int .u64 10000000000, .int .u64 0, .bool false, .int .i64 100000, .int .i64 1000] W) HI0.out (fun W hW=> ?_);have HI:=zH hW;clear HI0 hW;have q0:=HI.out.a.ce 0;go_cut [12] (fun v12 wx=>v12= .bool (wth c.quantum 100 65536)∧PlI w N0 N3 c #[.int .i64 3000, .int .i64 15000, .int .i64 100, .int .i64 50, .int .u64 10000000000, .int .u64 0, .bool false, .int .i64 100000, .int .i64 1000] wx)
 case first=>
  by_cases h1:(100:Int)≤c.quantum
  ·by_cases h2:c.quantum≤(65536:Int)
   ·have hb:wth c.quantum 100 65536=true:=by unfold wth;rw[decide_eq_true h1,decide_eq_true h2];rfl
    have d1:=decide_eq_true h1;have d2:=decide_eq_true h2;go_wp2_with fail
    go_meet
    exact⟨by rw[hb],HI.out⟩
   ·have hb:wth c.quantum 100 65536=false:=by unfold wth;rw[decide_eq_true h1,decide_eq_false h2];rfl
    have d1:=decide_eq_true h1;have d2:=decide_eq_false h2;go_wp2_with fail
    go_meet
    exact⟨by rw[hb],HI.out⟩
  ·have hb:wth c.quantum 100 65536=false:=by unfold wth;rw[decide_eq_false h1];rfl
   have d1:=decide_eq_false h1;go_wp2_with fail
   go_meet
   exact⟨by rw[hb],HI.out⟩
 obtain⟨rfl,hW⟩:=hcut;clear HI q0;obtain⟨wt,ewt⟩: ∃ z,wth c.quantum 100 65536=z:=⟨_,rfl⟩;rw[ewt];have HI:=zH hW;have HWT:=zH ewt;clear hW ewt;go_upto_if 12 with fail
 go_cut [] (fun wx=>PlI w N0 N3 c #[.int .i64 (pick c.quantum 100 65536 3000), .int .i64 15000, .int .i64 100, .int .i64 50, .int .u64 10000000000, .int .u64 0, .bool false, .int .i64 100000, .int .i64 1000] wx)
 case first=>
  cases wt
  ·have ewt:=HWT.out
   have e:pick c.quantum 100 65536 3000=3000:=if_neg (by rw[ewt];decide);have HE:=zH e;clear e ewt;go_wp2_with fail
   go_meet
   rw[HE.out];exact HI.out
  ·have ewt:=HWT.out
   have e:pick c.quantum 100 65536 3000=c.quantum:=if_pos ewt;have HE:=zH e;clear e ewt;have q:=HI.out.a.cell 0;have p:=HI.out.p.cell 0;have t:=HI.out.p.free 0;simp only[crc,List.getElem?_toArray,List.getElem?_cons_zero]at q p;go_wp2_with fail
   go_meet
   rw[HE.out];exact HI.out.put 0 (.int .i64 c.quantum)
 have HW:=zH hcut;clear HI HWT hcut;have HI:=HW;clear HW;go_upto_region 4 with fail
 have q1:=HI.out.a.ce 1;go_cut [23] (fun v23 wx=>v23= .bool (wth c.first 100 65536)∧PlI w N0 N3 c #[.int .i64 (pick c.quantum 100 65536 3000), .int .i64 15000, .int .i64 100, .int .i64 50, .int .u64 10000000000, .int .u64 0, .bool false, .int .i64 100000, .int .i64 1000] wx)
 case first=>
  by_cases h1:(100:Int)≤c.first
  ·by_cases h2:c.first≤(65536:Int)
   ·have hb:wth c.first 100 65536=true:=by unfold wth;rw[decide_eq_true h1,decide_eq_true h2];rfl
    have d1:=decide_eq_true h1;have d2:=decide_eq_true h2;go_wp2_with fail
    go_meet
    exact⟨by rw[hb],HI.out⟩
   ·have hb:wth c.first 100 65536=false:=by unfold wth;rw[decide_eq_true h1,decide_eq_false h2];rfl
    have d1:=decide_eq_true h1;have d2:=decide_eq_false h2;go_wp2_with fail
    go_meet
    exact⟨by rw[hb],HI.out⟩
  ·have hb:wth c.first 100 65536=false:=by unfold wth;rw[decide_eq_false h1];rfl
   have d1:=decide_eq_false h1;go_wp2_with fail
   go_meet
   exact⟨by rw[hb],HI.out⟩
 obtain⟨rfl,hW⟩:=hcut;clear HI q1;obtain⟨wt,ewt⟩: ∃ z,wth c.first 100 65536=z:=⟨_,rfl⟩
 rw[ewt];have HI:=zH hW;have HWT:=zH ewt;clear hW ewt;go_upto_if 23 with fail
 go_cut [] (fun wx=>PlI w N0 N3 c #[.int .i64 (pick c.quantum 100 65536 3000), .int .i64 (pick c.first 100 65536 15000), .int .i64 100, .int .i64 50, .int .u64 10000000000, .int .u64 0, .bool false, .int .i64 100000, .int .i64 1000] wx)
 case first=>
  cases wt
  ·have ewt:=HWT.out
   have e:pick c.first 100 65536 15000=15000:=if_neg (by rw[ewt];decide)
   have HE:=zH e;clear e ewt;go_wp2_with fail
   go_meet
   rw[HE.out];exact HI.out
  ·have ewt:=HWT.out
   have e:pick c.first 100 65536 15000=c.first:=if_pos ewt
   have HE:=zH e;clear e ewt;have q:=HI.out.a.cell 1;have p:=HI.out.p.cell 1;have t:=HI.out.p.free 1;simp only[crc,List.getElem?_toArray,List.getElem?_cons_zero,List.getElem?_cons_succ]at q p;go_wp2_with fail
   go_meet
   rw[HE.out];exact HI.out.put 1 (.int .i64 c.first)
 have HW:=zH hcut;clear HI HWT hcut;have HI:=HW;clear HW;go_upto_region 6 with fail
 have q2:=HI.out.a.ce 2;go_cut [34] (fun v34 wx=>v34= .bool (wth c.limit 1 512)∧PlI w N0 N3 c #[.int .i64 (pick c.quantum 100 65536 3000), .int .i64 (pick c.first 100 65536 15000), .int .i64 100, .int .i64 50, .int .u64 10000000000, .int .u64 0, .bool false, .int .i64 100000, .int .i64 1000] wx)
 case first=>
  by_cases h1:(1:Int)≤c.limit
  ·by_cases h2:c.limit≤(512:Int)
   ·have hb:wth c.limit 1 512=true:=by unfold wth;rw[decide_eq_true h1,decide_eq_true h2];rfl
    have d1:=decide_eq_true h1;have d2:=decide_eq_true h2;go_wp2_with fail
    go_meet
    exact⟨by rw[hb],HI.out⟩
   ·have hb:wth c.limit 1 512=false:=by unfold wth;rw[decide_eq_true h1,decide_eq_false h2];rfl
    have d1:=decide_eq_true h1;have d2:=decide_eq_false h2;go_wp2_with fail
    go_meet
    exact⟨by rw[hb],HI.out⟩
  ·have hb:wth c.limit 1 512=false:=by unfold wth;rw[decide_eq_false h1];rfl
   have d1:=decide_eq_false h1;go_wp2_with fail
   go_meet
   exact⟨by rw[hb],HI.out⟩
 obtain⟨rfl,hW⟩:=hcut;clear HI q2;obtain⟨wt,ewt⟩: ∃ z,wth c.limit 1 512=z:=⟨_,rfl⟩;rw[ewt];have HI:=zH hW;have HWT:=zH ewt;clear hW ewt;go_upto_if 34 with fail
 go_cut [] (fun wx=>PlI w N0 N3 c #[.int .i64 (pick c.quantum 100 65536 3000), .int .i64 (pick c.first 100 65536 15000), .int .i64 (pick c.limit 1 512 100), .int .i64 50, .int .u64 10000000000, .int .u64 0, .bool false, .int .i64 100000, .int .i64 1000] wx)
 case first=>
  cases wt
  ·have ewt:=HWT.out
   have e:pick c.limit 1 512 100=100:=if_neg (by rw[ewt];decide);have HE:=zH e;clear e ewt;go_wp2_with fail
   go_meet
   rw[HE.out];exact HI.out
  ·have ewt:=HWT.out
   have e:pick c.limit 1 512 100=c.limit:=if_pos ewt;have HE:=zH e;clear e ewt;have q:=HI.out.a.cell 2;have p:=HI.out.p.cell 2;have t:=HI.out.p.free 2;simp only[crc,List.getElem?_toArray,List.getElem?_cons_zero,List.getElem?_cons_succ]at q p;go_wp2_with fail
   go_meet
   rw[HE.out];exact HI.out.put 2 (.int .i64 c.limit)
 have HW:=zH hcut;clear HI HWT hcut;have HI:=HW;clear HW;go_upto_region 8 with fail
 have q3:=HI.out.a.ce 3;go_cut [45] (fun v45 wx=>v45= .bool (wth c.flowLimit 1 512)∧PlI w N0 N3 c #[.int .i64 (pick c.quantum 100 65536 3000), .int .i64 (pick c.first 100 65536 15000), .int .i64 (pick c.limit 1 512 100), .int .i64 50, .int .u64 10000000000, .int .u64 0, .bool false, .int .i64 100000, .int .i64 1000] wx)
 case first=>
  by_cases h1:(1:Int)≤c.flowLimit
  ·by_cases h2:c.flowLimit≤(512:Int)
   ·have hb:wth c.flowLimit 1 512=true:=by unfold wth;rw[decide_eq_true h1,decide_eq_true h2];rfl
    have d1:=decide_eq_true h1;have d2:=decide_eq_true h2;go_wp2_with fail
    go_meet
    exact⟨by rw[hb],HI.out⟩
   ·have hb:wth c.flowLimit 1 512=false:=by unfold wth;rw[decide_eq_true h1,decide_eq_false h2];rfl
    have d1:=decide_eq_true h1;have d2:=decide_eq_false h2;go_wp2_with fail
    go_meet
    exact⟨by rw[hb],HI.out⟩
  ·have hb:wth c.flowLimit 1 512=false:=by unfold wth;rw[decide_eq_false h1];rfl
   have d1:=decide_eq_false h1;go_wp2_with fail
   go_meet
   exact⟨by rw[hb],HI.out⟩
 obtain⟨rfl,hW⟩:=hcut;clear HI q3;obtain⟨wt,ewt⟩: ∃ z,wth c.flowLimit 1 512=z:=⟨_,rfl⟩;rw[ewt];have HI:=zH hW;have HWT:=zH ewt;clear hW ewt;go_upto_if 45 with fail
 go_cut [] (fun wx=>PlI w N0 N3 c #[.int .i64 (pick c.quantum 100 65536 3000), .int .i64 (pick c.first 100 65536 15000), .int .i64 (pick c.limit 1 512 100), .int .i64 (pick c.flowLimit 1 512 50), .int .u64 10000000000, .int .u64 0, .bool false, .int .i64 100000, .int .i64 1000] wx)
 case first=>
  cases wt
  ·have ewt:=HWT.out
   have e:pick c.flowLimit 1 512 50=50:=if_neg (by rw[ewt];decide);have HE:=zH e;clear e ewt;go_wp2_with fail
   go_meet
   rw[HE.out];exact HI.out
  ·have ewt:=HWT.out
   have e:pick c.flowLimit 1 512 50=c.flowLimit:=if_pos ewt;have HE:=zH e;clear e ewt;have q:=HI.out.a.cell 3;have p:=HI.out.p.cell 3;have t:=HI.out.p.free 3;simp only[crc,List.getElem?_toArray,List.getElem?_cons_zero,List.getElem?_cons_succ]at q p;go_wp2_with fail
   go_meet
   rw[HE.out];exact HI.out.put 3 (.int .i64 c.flowLimit)
 have HW:=zH hcut;clear HI HWT hcut;have HI:=HW;clear HW;go_upto_region 10 with fail
 have q4:=HI.out.a.ce 4;go_cut [51] (fun v51 wx=>v51= .bool (decide (c.horizon≤4611686018427387904))∧PlI w N0 N3 c #[.int .i64 (pick c.quantum 100 65536 3000), .int .i64 (pick c.first 100 65536 15000), .int .i64 (pick c.limit 1 512 100), .int .i64 (pick c.flowLimit 1 512 50), .int .u64 10000000000, .int .u64 0, .bool false, .int .i64 100000, .int .i64 1000] wx)
 case first=>
  by_cases h1:c.horizon≤4611686018427387904
  ·have d1:=decide_eq_true h1
   have d2:decide ((c.horizon:Int)≤4611686018427387904)=true:=decide_eq_true (by omega);go_wp2_with fail
   go_meet
   exact⟨by rw[d1],HI.out⟩
  ·have d1:=decide_eq_false h1
   have d2:decide ((c.horizon:Int)≤4611686018427387904)=false:=decide_eq_false (by omega);go_wp2_with fail
   go_meet
   exact⟨by rw[d1],HI.out⟩
 obtain⟨rfl,hW⟩:=hcut;clear HI q4;obtain⟨wt,ewt⟩: ∃ z,decide (c.horizon≤4611686018427387904)=z:=⟨_,rfl⟩;rw[ewt];have HI:=zH hW;have HWT:=zH ewt;clear hW ewt;go_upto_if 51 with fail
 go_cut [] (fun wx=>PlI w N0 N3 c #[.int .i64 (pick c.quantum 100 65536 3000), .int .i64 (pick c.first 100 65536 15000), .int .i64 (pick c.limit 1 512 100), .int .i64 (pick c.flowLimit 1 512 50), .int .u64 (hzP c.horizon:Nat), .int .u64 0, .bool false, .int .i64 100000, .int .i64 1000] wx)
 case first=>
  cases wt
  ·have ewt:=HWT.out
   have e:hzP c.horizon=10000000000:=if_neg (of_decide_eq_false ewt);have HE:=zH e;clear e ewt;go_wp2_with fail
   go_meet
   rw[HE.out];exact HI.out
  ·have ewt:=HWT.out
   have e:hzP c.horizon=c.horizon:=if_pos (of_decide_eq_true ewt);have HE:=zH e;clear e ewt;have q:=HI.out.a.cell 4;have p:=HI.out.p.cell 4;have t:=HI.out.p.free 4;simp only[crc,List.getElem?_toArray,List.getElem?_cons_zero,List.getElem?_cons_succ]at q p;go_wp2_with fail
   go_meet
   rw[HE.out];exact HI.out.put 4 (.int .u64 c.horizon)
 have HW:=zH hcut;clear HI HWT hcut;have HI:=HW;clear HW;go_upto_region 12 with fail
 have q7:=HI.out.a.ce 7;go_cut [62] (fun v62 wx=>v62= .bool (wth c.cap 1 1073741824)∧PlI w N0 N3 c #[.int .i64 (pick c.quantum 100 65536 3000), .int .i64 (pick c.first 100 65536 15000), .int .i64 (pick c.limit 1 512 100), .int .i64 (pick c.flowLimit 1 512 50), .int .u64 (hzP c.horizon:Nat), .int .u64 0, .bool false, .int .i64 100000, .int .i64 1000] wx)
 case first=>
  by_cases h1:(1:Int)≤c.cap
  ·by_cases h2:c.cap≤(1073741824:Int)
   ·have hb:wth c.cap 1 1073741824=true:=by unfold wth;rw[decide_eq_true h1,decide_eq_true h2];rfl
    have d1:=decide_eq_true h1;have d2:=decide_eq_true h2;go_wp2_with fail
    go_meet
    exact⟨by rw[hb],HI.out⟩
   ·have hb:wth c.cap 1 1073741824=false:=by unfold wth;rw[decide_eq_true h1,decide_eq_false h2];rfl
    have d1:=decide_eq_true h1;have d2:=decide_eq_false h2;go_wp2_with fail
    go_meet
    exact⟨by rw[hb],HI.out⟩
  ·have hb:wth c.cap 1 1073741824=false:=by unfold wth;rw[decide_eq_false h1];rfl
   have d1:=decide_eq_false h1;go_wp2_with fail
   go_meet
   exact⟨by rw[hb],HI.out⟩
 obtain⟨rfl,hW⟩:=hcut;clear HI q7;obtain⟨wt,ewt⟩: ∃ z,wth c.cap 1 1073741824=z:=⟨_,rfl⟩;rw[ewt];have HI:=zH hW;have HWT:=zH ewt;clear hW ewt;go_upto_if 62 with fail
 go_cut [] (fun wx=>PlI w N0 N3 c #[.int .i64 (pick c.quantum 100 65536 3000), .int .i64 (pick c.first 100 65536 15000), .int .i64 (pick c.limit 1 512 100), .int .i64 (pick c.flowLimit 1 512 50), .int .u64 (hzP c.horizon:Nat), .int .u64 0, .bool false, .int .i64 (pick c.cap 1 1073741824 100000), .int .i64 1000] wx)
 case first=>
  cases wt
  ·have ewt:=HWT.out
   have e:pick c.cap 1 1073741824 100000=100000:=if_neg (by rw[ewt];decide);have HE:=zH e;clear e ewt;go_wp2_with fail
   go_meet
   rw[HE.out];exact HI.out
  ·have ewt:=HWT.out
   have e:pick c.cap 1 1073741824 100000=c.cap:=if_pos ewt;have HE:=zH e;clear e ewt;have q:=HI.out.a.cell 7;have p:=HI.out.p.cell 7;have t:=HI.out.p.free 7;simp only[crc,List.getElem?_toArray,List.getElem?_cons_zero,List.getElem?_cons_succ]at q p;go_wp2_with fail
   go_meet
   rw[HE.out];exact HI.out.put 7 (.int .i64 c.cap)
 have HW:=zH hcut;clear HI HWT hcut;have HI:=HW;clear HW;go_upto_region 14 with fail
 have q8:=HI.out.a.ce 8;go_cut [73] (fun v73 wx=>v73= .bool (wth c.mss 100 9000)∧PlI w N0 N3 c #[.int .i64 (pick c.quantum 100 65536 3000), .int .i64 (pick c.first 100 65536 15000), .int .i64 (pick c.limit 1 512 100), .int .i64 (pick c.flowLimit 1 512 50), .int .u64 (hzP c.horizon:Nat), .int .u64 0, .bool false, .int .i64 (pick c.cap 1 1073741824 100000), .int .i64 1000] wx)
 case first=>
  by_cases h1:(100:Int)≤c.mss
  ·by_cases h2:c.mss≤(9000:Int)
   ·have hb:wth c.mss 100 9000=true:=by unfold wth;rw[decide_eq_true h1,decide_eq_true h2];rfl
    have d1:=decide_eq_true h1;have d2:=decide_eq_true h2;go_wp2_with fail
    go_meet
    exact⟨by rw[hb],HI.out⟩
   ·have hb:wth c.mss 100 9000=false:=by unfold wth;rw[decide_eq_true h1,decide_eq_false h2];rfl
    have d1:=decide_eq_true h1;have d2:=decide_eq_false h2;go_wp2_with fail
    go_meet
    exact⟨by rw[hb],HI.out⟩
  ·have hb:wth c.mss 100 9000=false:=by unfold wth;rw[decide_eq_false h1];rfl
   have d1:=decide_eq_false h1;go_wp2_with fail
   go_meet
   exact⟨by rw[hb],HI.out⟩
 obtain⟨rfl,hW⟩:=hcut;clear HI q8;obtain⟨wt,ewt⟩: ∃ z,wth c.mss 100 9000=z:=⟨_,rfl⟩;rw[ewt];have HI:=zH hW;have HWT:=zH ewt;clear hW ewt;go_upto_if 73 with fail
 go_cut [] (fun wx=>PlI w N0 N3 c #[.int .i64 (pick c.quantum 100 65536 3000), .int .i64 (pick c.first 100 65536 15000), .int .i64 (pick c.limit 1 512 100), .int .i64 (pick c.flowLimit 1 512 50), .int .u64 (hzP c.horizon:Nat), .int .u64 0, .bool false, .int .i64 (pick c.cap 1 1073741824 100000), .int .i64 (pick c.mss 100 9000 1000)] wx)
 case first=>
  cases wt
  ·have ewt:=HWT.out
   have e:pick c.mss 100 9000 1000=1000:=if_neg (by rw[ewt];decide);have HE:=zH e;clear e ewt;go_wp2_with fail
   go_meet
   rw[HE.out];exact HI.out
  ·have ewt:=HWT.out
   have e:pick c.mss 100 9000 1000=c.mss:=if_pos ewt;have HE:=zH e;clear e ewt;have q:=HI.out.a.cell 8;have p:=HI.out.p.cell 8;have t:=HI.out.p.free 8;simp only[crc,List.getElem?_toArray,List.getElem?_cons_zero,List.getElem?_cons_succ]at q p;go_wp2_with fail
   go_meet
   rw[HE.out];exact HI.out.put 8 (.int .i64 c.mss)
 have HW:=zH hcut;clear HI HWT hcut;have HI:=HW;clear HW;go_upto_region 16 with fail
 have q5:=HI.out.a.ce 5;have q6:=HI.out.a.ce 6;have p5:=HI.out.p.ce 5;have p6:=HI.out.p.ce 6;have t5:=HI.out.p.free 5;have t6:=HI.out.p.free 6;go_cut [] (fun wx=>PlI w N0 N3 c #[.int .i64 (pick c.quantum 100 65536 3000), .int .i64 (pick c.first 100 65536 15000), .int .i64 (pick c.limit 1 512 100), .int .i64 (pick c.flowLimit 1 512 50), .int .u64 (hzP c.horizon:Nat), .int .u64 c.maxRate, .bool c.drop, .int .i64 (pick c.cap 1 1073741824 100000), .int .i64 (pick c.mss 100 9000 1000)] wx)
 case first=>
  go_region
  all_goals go_wp2_with fail
  all_goals go_meet
  all_goals first
   | exact((HI.out.put 5 (.int .u64 c.maxRate)).put 6 (.bool c.drop)).drew
   | exact((HI.out.put 6 (.bool c.drop)).put 5 (.int .u64 c.maxRate)).drew
 have HW:=zH hcut;clear HI q5 q6 p5 p6 t5 t6 hcut;have HI:=HW;clear HW;go_upto_region 17 with fail
 have p0:=HI.out.p.ce 0;have p1:=HI.out.p.ce 1;have p2:=HI.out.p.ce 2;have p3:=HI.out.p.ce 3;have p4:=HI.out.p.ce 4;have p5:=HI.out.p.ce 5;have p6:=HI.out.p.ce 6;have p7:=HI.out.p.ce 7;have p8:=HI.out.p.ce 8;refine wp_region_lit ?_;refine wpList_plain rfl fun K hK=> ?_
 go_simp;refine hK _ _ ?_;clear hK K;refine wpList_store_row _ rfl 24 (.tmp 2) (.tmp 83) rfl (N0+1) _ #[.int .i64 (pick c.quantum 100 65536 3000), .int .i64 (pick c.first 100 65536 15000), .int .i64 (pick c.limit 1 512 100), .int .i64 (pick c.flowLimit 1 512 50), .int .u64 (hzP c.horizon:Nat), .int .u64 c.maxRate, .bool c.drop, .int .i64 (pick c.cap 1 1073741824 100000), .int .i64 (pick c.mss 100 9000 1000)] HI.out.z rfl rfl (by kernel_rfl) rfl (by simp[Value.oneCell']) (fun w9 P9=> ?_);have HB:=zH (P9.below HI.out.b HI.out.b.size (by have:=HI.out.n0;omega));have r0:=P9.1.ce 0;have r1:=P9.1.ce 1;have r2:=P9.1.ce 2;have r3:=P9.1.ce 3;have r4:=P9.1.ce 4;have r5:=P9.1.ce 5;have r6:=P9.1.ce 6;have r7:=P9.1.ce 7;have r8:=P9.1.ce 8;clear HI p0 p1 p2 p3 p4 p5 p6 p7 p8 P9;refine wpList_nil ?_;go_wp2_with fail
 refine bodyPost_ret (v:= .agg #[.int .i64 (pick c.quantum 100 65536 3000), .int .i64 (pick c.first 100 65536 15000), .int .i64 (pick c.limit 1 512 100), .int .i64 (pick c.flowLimit 1 512 50), .int .u64 (hzP c.horizon:Nat), .int .u64 c.maxRate, .bool c.drop, .int .i64 (pick c.cap 1 1073741824 100000), .int .i64 (pick c.mss 100 9000 1000)]) ?_ rfl ⟨rfl,HB.out⟩;simp[results,Tryz.f8,go_sem,Act.put,r0,r1,r2,r3,r4,r5,r6,r7,r8]
end
section
open Go.RowKit Go.Lib
def ddL (x:Int):Int:=if x>200000 then 200000 else x
def ddP (d:DD):DD:={ d with len:=ddL d.len,sks:=d.sks.take 6 }
def ddw (d:DD) (l:Int) (v:Value):Array Value:= #[.int .i64 d.kind, .int .i64 d.sock, .int .i64 l, .int .u64 d.upto, .int .u64 d.at_,v, .int .i64 d.cr.quantum, .int .i64 d.cr.first, .int .i64 d.cr.limit, .int .i64 d.cr.flowLimit, .int .u64 d.cr.horizon, .int .u64 d.cr.maxRate, .bool d.cr.drop, .int .i64 d.cr.cap, .int .i64 d.cr.mss]
structure PdI (w:World) (N0:Nat) (d:DD) (l:Int) (v:Value) (W:World):Prop where
 a:At W N0 46 (ddw d l v)
 z:At W (N0+1) 46 #[.int .i64 0, .int .i64 0, .int .i64 0, .int .u64 0, .int .u64 0, .slice none 0 0, .int .i64 0, .int .i64 0, .int .i64 0, .int .i64 0, .int .u64 0, .int .u64 0, .bool false, .int .i64 0, .int .i64 0]
 b:Below w.heap.size w W
 n0:w.heap.size=N0
theorem PdI.put {w:World} {N0:Nat} {d:DD} {l:Int} {v:Value} {W:World} (h:PdI w N0 d l v W) (i:Nat) (u:Value) {l2:Int} {v2:Value} (e:(ddw d l v).setIfInBounds i u=ddw d l2 v2):PdI w N0 d l2 v2 (W.setCell ⟨N0,i,none⟩ u):=by
 have h0:=h.n0;exact⟨by rw[←e];exact h.a.set i,h.z.far (by show N0+1≠N0;omega),h.b.setCell (by show w.heap.size≤N0;omega) _,h0⟩
theorem deed_any (d:DD) (a:Option Addr) (n cap:Nat) (ha:6<n→ ∃ b o,a=some ⟨b,o,none⟩) (hn:n≤9223372036854775807) (hcap:n≤cap) (w:World):Calls Tryz.prog 28 #[ddv d (.slice a n cap)] w fun e w'=>e= .returned (ddv { d with len:=ddL d.len } (.slice a (min n 6:Nat) cap))∧Below w.heap.size w w':=by
 obtain⟨N0,e0⟩: ∃ z,w.heap.size=z:=⟨_,rfl⟩;unfold ddv;go_enter Tryz.func28,Tryz.ntmps28
 go_upto_region 1 with fail
 refine wp_named (fun W=>PdI w N0 d d.len (.slice a n cap) W) ⟨?_, ?_, ?_,e0⟩ (fun W hW=> ?_)
 ·rw[←e0];exact(At.made w _ _).al _
 ·have t:=At.made (w.alloc (.cells (ddw d d.len (.slice a n cap)) 46)) 46 #[.int .i64 0, .int .i64 0, .int .i64 0, .int .u64 0, .int .u64 0, .slice none 0 0, .int .i64 0, .int .i64 0, .int .i64 0, .int .i64 0, .int .u64 0, .int .u64 0, .bool false, .int .i64 0, .int .i64 0]
  rw[alloc_size,e0]at t;exact t
 ·exact((Below.refl _ w).alloc (Nat.le_refl _) _).alloc (by simp) _
 have HI:=zH hW;clear hW;have q5:=HI.out.a.ce 5;have t5:=HI.out.a.free 5;go_upto_if 6 with fail
 go_cut [] (fun wx=>PdI w N0 d d.len (.slice a (min n 6:Nat) cap) wx)
 case first=>
  by_cases h6:6<n
  ·obtain⟨b,off,rfl⟩:=ha h6
   have d1:decide ((6:Int)<n)=true:=decide_eq_true (by omega);have d2:decide (6<n)=true:=decide_eq_true h6;have HE:=zH (show min n 6=6 by omega);have hc:6≤cap:=by omega
   go_wp2_with fail
   go_meet
   rw[HE.out];exact HI.out.put 5 _ rfl
  ·have d1:decide ((6:Int)<n)=false:=decide_eq_false (by omega)
   have d2:decide (6<n)=false:=decide_eq_false h6;have HE:=zH (show min n 6=n by omega);go_wp2_with fail
   go_meet
   rw[HE.out];exact HI.out
 have HW:=zH hcut;clear HI q5 t5 hcut;have HI:=HW;clear HW;have q2:=HI.out.a.ce 2;have t2:=HI.out.a.free 2;go_upto_if 13 with fail
 go_cut [] (fun wx=>PdI w N0 d (ddL d.len) (.slice a (min n 6:Nat) cap) wx)
 case first=>
  by_cases h6:d.len>200000
  ·have d1:decide ((200000:Int)<d.len)=true:=decide_eq_true (by omega)
   have HE:=zH h6;go_wp2_with fail
   go_meet
   rw[show ddL d.len=200000 from if_pos (by have:=HE.out;omega)];exact HI.out.put 2 _ rfl
  ·have d1:decide ((200000:Int)<d.len)=false:=decide_eq_false (by omega)
   have HE:=zH h6;go_wp2_with fail
   go_meet
   rw[show ddL d.len=d.len from if_neg (by have:=HE.out;omega)];exact HI.out
 have HW:=zH hcut;clear HI q2 t2 hcut;have HI:=HW;clear HW;obtain⟨LL,hLL⟩: ∃ z,(ddL d.len)=z:=⟨_,rfl⟩;obtain⟨MM,hMM⟩: ∃ z,min n 6=z:=⟨_,rfl⟩;rw[hLL,hMM]at HI;have HLL:=zH hLL;have HMM:=zH hMM;clear hLL hMM e0;go_upto_region 5 with fail
 have p0:=HI.out.a.ce 0;have p1:=HI.out.a.ce 1;have p2:=HI.out.a.ce 2;have p3:=HI.out.a.ce 3;have p4:=HI.out.a.ce 4;have p5:=HI.out.a.ce 5;have p6:=HI.out.a.ce 6;have p7:=HI.out.a.ce 7;have p8:=HI.out.a.ce 8;have p9:=HI.out.a.ce 9;have p10:=HI.out.a.ce 10;have p11:=HI.out.a.ce 11;have p12:=HI.out.a.ce 12;have p13:=HI.out.a.ce 13;have p14:=HI.out.a.ce 14;refine wp_region_lit ?_;refine wpList_plain rfl fun K hK=> ?_
 go_simp;refine hK _ _ ?_;clear hK K;refine wpList_store_row _ rfl 46 (.tmp 2) (.tmp 15) rfl (N0+1) _ #[.int .i64 d.kind, .int .i64 d.sock, .int .i64 LL, .int .u64 d.upto, .int .u64 d.at_, .slice a MM cap, .int .i64 d.cr.quantum, .int .i64 d.cr.first, .int .i64 d.cr.limit, .int .i64 d.cr.flowLimit, .int .u64 d.cr.horizon, .int .u64 d.cr.maxRate, .bool d.cr.drop, .int .i64 d.cr.cap, .int .i64 d.cr.mss] HI.out.z rfl rfl (by kernel_rfl) rfl (by simp[Value.oneCell']) (fun w9 P9=> ?_);have HB:=zH (P9.below HI.out.b HI.out.b.size (by have:=HI.out.n0;omega));have r0:=P9.1.ce 0;have r1:=P9.1.ce 1;have r2:=P9.1.ce 2;have r3:=P9.1.ce 3;have r4:=P9.1.ce 4;have r5:=P9.1.ce 5;have r6:=P9.1.ce 6;have r7:=P9.1.ce 7;have r8:=P9.1.ce 8;have r9:=P9.1.ce 9;have r10:=P9.1.ce 10;have r11:=P9.1.ce 11;have r12:=P9.1.ce 12;have r13:=P9.1.ce 13;have r14:=P9.1.ce 14;clear HI p0 p1 p2 p3 p4 p5 p6 p7 p8 p9 p10 p11 p12 p13 p14 P9;refine wpList_nil ?_;go_wp2_with fail
 refine bodyPost_ret (v:= .agg #[.int .i64 d.kind, .int .i64 d.sock, .int .i64 LL, .int .u64 d.upto, .int .u64 d.at_, .slice a MM cap, .int .i64 d.cr.quantum, .int .i64 d.cr.first, .int .i64 d.cr.limit, .int .i64 d.cr.flowLimit, .int .u64 d.cr.horizon, .int .u64 d.cr.maxRate, .bool d.cr.drop, .int .i64 d.cr.cap, .int .i64 d.cr.mss]) ?_ rfl ⟨by rw[←HLL.out,←HMM.out],HB.out⟩;simp[results,Tryz.f28,go_sem,Act.put,r0,r1,r2,r3,r4,r5,r6,r7,r8,r9,r10,r11,r12,r13,r14]
end
section
open Go.RowKit Go.Lib
def RdZ (w:World) (g:Nat→Nat) (v:Value) (size n:Nat) (xs:List Value):Prop:=Rd w v size n xs∧ ∀ a m c,v= .slice (some a) m c→0<n→a.block<w.heap.size∧g a.block=0
section
variable {w w':World} {g g':Nat→Nat} {v:Value} {size n lo hi:Nat} {xs:List Value}
theorem RdZ.same (h:RdZ w g v size n xs) (hb: ∀ b,b<w.heap.size→g b=0→w'.heap[b]? =w.heap[b]? ∧b<w'.heap.size∧g' b=0):RdZ w' g' v size n xs:=by
 obtain⟨⟨h1,h2⟩,h3⟩:=h;refine⟨⟨h1, ?_⟩,fun a m c hv h0=> ?_⟩
 ·rcases h2 with hn | ⟨b,off,cap,hv,k1,k2,k3,k4⟩
  ·exact .inl hn
  ·by_cases h0:0<n
   ·obtain⟨_,gb⟩:=h3 _ _ _ hv h0
    obtain⟨q1,q2,q3⟩:=hb b k1 gb;exact .inr ⟨b,off,cap,hv,q2,k2,k3,fun j hj=>(World.cell?_of_block q1).trans (k4 j hj)⟩
   ·obtain rfl:n=0:=by omega
    exact .inl ⟨⟨_,_,hv⟩,rfl⟩
 ·obtain⟨q1,q2⟩:=h3 a m c hv h0
  obtain⟨_,q3,q4⟩:=hb _ q1 q2;exact⟨q3,q4⟩
theorem RdZ.chg (h:RdZ w g v size n xs) (c:Chg w w' g g' lo hi) (h0:0<lo):RdZ w' g' v size n xs:=
 h.same fun b hb hg=>⟨c.kept b hb (.inl (by rw[hg];exact h0)),Nat.lt_of_lt_of_le hb c.size,(c.old b hb).trans hg⟩
theorem RdZ.below (h:RdZ w g v size n xs) (hb:Below w.heap.size w w'):RdZ w' g v size n xs:=
 h.same fun b hlt hg=>⟨hb.block b hlt,Nat.lt_of_lt_of_le hlt hb.size,hg⟩
end
def DsXs (w:World) (g:Nat→Nat) (xs:List Value) (ds:List DD):Prop:=xs.length=ds.length*15∧ ∀ j d,ds[j]? =some d→ ∃ vi,(∀ q,q<15→xs[j*15+q]? =(ddc d vi)[q]?)∧RdZ w g vi 2 d.sks.length (d.sks.flatMap rgl)
theorem DsXs.same {w w':World} {g g':Nat→Nat} {xs:List Value} {ds:List DD} (h:DsXs w g xs ds) (hb: ∀ b,b<w.heap.size→g b=0→w'.heap[b]? =w.heap[b]? ∧b<w'.heap.size∧g' b=0):DsXs w' g' xs ds:=
 ⟨h.1,fun j d hd=>by
  obtain⟨vi,h1,h2⟩:=h.2 j d hd;exact⟨vi,h1,h2.same hb⟩⟩
theorem DsXs.snoc {w:World} {g:Nat→Nat} {xs:List Value} {ds:List DD} (h:DsXs w g xs ds) (d:DD) (vi:Value) (hv:RdZ w g vi 2 d.sks.length (d.sks.flatMap rgl)):DsXs w g (xs++(ddc d vi).toList) (ds++[d]):=by
 refine⟨by rw[List.length_append,List.length_append,h.1];simp[ddc];omega,fun j e hj=> ?_⟩;rcases Nat.lt_trichotomy j ds.length with hl | hl | hl
 ·rw[List.getElem?_append_left hl]at hj
  obtain⟨vi,h1,h2⟩:=h.2 j e hj;exact⟨vi,fun q hq=>by rw[List.getElem?_append_left (by rw[h.1];omega)];exact h1 q hq,h2⟩
 ·subst hl
  rw[List.getElem?_append_right (Nat.le_refl _)]at hj;simp at hj
  subst hj;exact⟨vi,fun q hq=>by rw[List.getElem?_append_right (by rw[h.1];omega),h.1,show ds.length*15+q-ds.length*15=q from by omega,Array.getElem?_toList],hv⟩
 ·rw[List.getElem?_eq_none (by simp;omega)]at hj
  cases hj
def DsRd (w:World) (g:Nat→Nat) (v:Value) (ds:List DD):Prop:= ∃ xs,RdZ w g v 15 ds.length xs∧DsXs w g xs ds
theorem DsRd.same {w w':World} {g g':Nat→Nat} {v:Value} {ds:List DD} (h:DsRd w g v ds) (hb: ∀ b,b<w.heap.size→g b=0→w'.heap[b]? =w.heap[b]? ∧b<w'.heap.size∧g' b=0):DsRd w' g' v ds:=by
 obtain⟨xs,h1,h2⟩:=h;exact⟨xs,h1.same hb,h2.same hb⟩
theorem DsRd.chg {w w':World} {g g':Nat→Nat} {v:Value} {ds:List DD} {lo hi:Nat} (h:DsRd w g v ds) (c:Chg w w' g g' lo hi) (h0:0<lo):DsRd w' g' v ds:=
 h.same fun b hb hg=>⟨c.kept b hb (.inl (by rw[hg];exact h0)),Nat.lt_of_lt_of_le hb c.size,(c.old b hb).trans hg⟩
theorem DsRd.below {w w':World} {g:Nat→Nat} {v:Value} {ds:List DD} (h:DsRd w g v ds) (hb:Below w.heap.size w w'):DsRd w' g v ds:=
 h.same fun b hlt hg=>⟨hb.block b hlt,Nat.lt_of_lt_of_le hlt hb.size,hg⟩
theorem infoDD: ∃ i0:TypeInfo,Hid (Tryz.prog.info? 46=some i0∧i0.zero=some (.agg (ddc (⟨0,0,0,0,0,[],⟨0,0,0,0,0,0,false,0,0⟩⟩) (.slice none 0 0)))∧i0.size=15∧i0.bytes=136):=by
 obtain⟨i0,h1,h2,h3,h4⟩:=info_parts (show(Tryz.prog.info? 46).map (fun i=>(i.zero,i.size,i.bytes))=some (some (.agg (ddc (⟨0,0,0,0,0,[],⟨0,0,0,0,0,0,false,0,0⟩⟩) (.slice none 0 0))),15,136) by kernel_rfl);exact⟨i0,zH ⟨h1,h2,h3,h4⟩⟩
theorem RdZ.six {w:World} {g:Nat→Nat} {a:Option Addr} {n cap:Nat} {sk:List (Nat×Nat)} (hn:sk.length=n) (h:RdZ w g (.slice a n cap) 2 n (sk.flatMap rgl)):RdZ w g (.slice a (min n 6) cap) 2 (sk.take 6).length ((sk.take 6).flatMap rgl):=by
 have hl:(sk.take 6).length=min n 6:=by rw[List.length_take,hn];omega
 have hfl: ∀ l:List (Nat×Nat),(l.flatMap rgl).length=l.length*2:=fun l=>by
  induction l with
  | nil=>rfl
  | cons x r ih=>rw[List.flatMap_cons,List.length_append,ih,rgl_len,List.length_cons];omega
 obtain⟨⟨h1,h2⟩,h3⟩:=h;refine⟨⟨hfl _, ?_⟩,fun a' m c hv h0=> ?_⟩
 ·rw[hl]
  rcases h2 with⟨⟨a',c',hv⟩,h0⟩ | ⟨b,off,cap',hv,k1,k2,k3,k4⟩
  ·cases hv
   exact .inl ⟨⟨a,cap,by simp⟩,by simp⟩
  ·cases hv
   refine .inr ⟨b,off,_,rfl,k1,by omega,k3,fun j hj=> ?_⟩;rw[k4 j (by omega)];have e:sk.flatMap rgl=(sk.take 6).flatMap rgl++(sk.drop 6).flatMap rgl:=by rw[←List.flatMap_append,List.take_append_drop]
   rw[e,List.getElem?_append_left (by rw[hfl,hl];exact hj)]
 ·cases hv
  exact h3 a' n cap rfl (by rw[hl]at h0;omega)
theorem deeds_any (ds:List DD) (most:Nat) (hmost:most≤1000) (v:Value) (g:Nat→Nat) (w:World) (hT:Tidy w g) (h:DsRd w g v ds):
  Calls Tryz.prog 11 #[v, .int .i64 most] w fun e w'=> ∃ v',e= .returned v'∧Below w.heap.size w w'∧DsRd w' g v' ((ds.take most).map ddP):=by
 obtain⟨i0,HI⟩:=infoDD;obtain⟨s,es⟩: ∃ s,w.heap.size=s:=⟨_,rfl⟩;obtain⟨n,en⟩: ∃ n,ds.length=n:=⟨_,rfl⟩;obtain⟨xs,hr,hx⟩:=h;rw[en]at hr;obtain⟨a,cap,rfl,hcap,hform⟩:=hr.1.form;have HX:=zH hx;have HR:=zH hr;have HF:=zH hform;have HEN:=zH en;have HES:=zH es;have HT:=zH hT;clear hx hr hform hT en es;go_enter Tryz.func11,Tryz.ntmps11
 go_wp2_with fail
 go_loopw [5,6] (fun v5 v6 wr=> ∃(i:Nat) (ys:List Value),v6= .int .i64 i∧i≤n∧i≤most∧wr.ownsRow s 46 15 v5 i ys∧Hid (DsXs w g ys ((ds.take i).map ddP))∧Hid (Below s w wr)) (fun _ v6 _=>match v6 with | .int _ y=>n-y.toNat | _=>0)
 case atStart=>exact⟨0,[],rfl,Nat.zero_le _,Nat.zero_le _,World.ownsRow_nil _ _ _ _,zH ⟨rfl,fun j d hj=>by simp at hj⟩,zH (by rw[←HES.out];exact Below.refl _ w)⟩
 case round=>
  obtain⟨i,ys,rfl,hin,him,own,HY,HB⟩:=hrel;obtain⟨a5,c5,rfl,m5⟩:=own_form own;have HO:=zH own;clear own;by_cases hgo:i<n∧i<most
  ·obtain⟨g1,g2⟩:=hgo
   have d1:decide ((i:Int)<n)=true:=decide_eq_true (by omega);have d2:decide (i<n)=true:=decide_eq_true g1;have d3:decide ((i:Int)<most)=true:=decide_eq_true (by omega);have d4:decide (i<most)=true:=decide_eq_true g2;have HLT:Hid (n-(i+1)<n-i):=zH (by omega);have HG:Hid (i<n∧i<most):=zH ⟨g1,g2⟩;have hiw:wrap64 ((i:Int)+1)=((i+1:Nat):Int):=by unfold wrap64;omega
   obtain⟨d,hd⟩: ∃ d,ds[i]? =some d:=⟨_,List.getElem?_eq_getElem (by have:=HEN.out;omega)⟩;obtain⟨vi,hvi,hri⟩:=HX.out.2 i d hd;obtain⟨b,off,rfl,hb,hc⟩:=HF.out (by omega);obtain⟨av,kv,rfl,hkv,hav⟩:=hri.1.form;have hcell: ∀ q,q<15→wr.cell? ⟨b,off+i*15+q,none⟩=(ddc d (.slice av d.sks.length kv))[q]? :=fun q hq=>by
    rw[HB.out.cell (p:=⟨b,off+i*15+q,none⟩) (by rw[←HES.out];exact hb),Nat.add_assoc,hc _ (by omega)];exact hvi q hq
   have r0:wr.cell? ⟨b,off+i*15,none⟩=some (.int .i64 d.kind):=hcell 0 (by decide);have r1:wr.cell? ⟨b,off+i*15+1,none⟩=some (.int .i64 d.sock):=hcell 1 (by decide);have r2:wr.cell? ⟨b,off+i*15+2,none⟩=some (.int .i64 d.len):=hcell 2 (by decide);have r3:wr.cell? ⟨b,off+i*15+3,none⟩=some (.int .u64 d.upto):=hcell 3 (by decide);have r4:wr.cell? ⟨b,off+i*15+4,none⟩=some (.int .u64 d.at_):=hcell 4 (by decide);have r5:wr.cell? ⟨b,off+i*15+5,none⟩=some (.slice av d.sks.length kv):=hcell 5 (by decide);have r6:wr.cell? ⟨b,off+i*15+6,none⟩=some (.int .i64 d.cr.quantum):=hcell 6 (by decide);have r7:wr.cell? ⟨b,off+i*15+7,none⟩=some (.int .i64 d.cr.first):=hcell 7 (by decide);have r8:wr.cell? ⟨b,off+i*15+8,none⟩=some (.int .i64 d.cr.limit):=hcell 8 (by decide);have r9:wr.cell? ⟨b,off+i*15+9,none⟩=some (.int .i64 d.cr.flowLimit):=hcell 9 (by decide);have r10:wr.cell? ⟨b,off+i*15+10,none⟩=some (.int .u64 d.cr.horizon):=hcell 10 (by decide);have r11:wr.cell? ⟨b,off+i*15+11,none⟩=some (.int .u64 d.cr.maxRate):=hcell 11 (by decide);have r12:wr.cell? ⟨b,off+i*15+12,none⟩=some (.bool d.cr.drop):=hcell 12 (by decide);have r13:wr.cell? ⟨b,off+i*15+13,none⟩=some (.int .i64 d.cr.cap):=hcell 13 (by decide);have r14:wr.cell? ⟨b,off+i*15+14,none⟩=some (.int .i64 d.cr.mss):=hcell 14 (by decide)
   have hskn:d.sks.length≤9223372036854775807:=by
    rcases hri.1.2 with⟨_,h0⟩ | ⟨_,_,c,hv,_,h1,h2,_⟩
    ·omega
    ·unfold maxLen at h2;omega
   have HRI:=zH hri;have HD:=zH hd;have CD:=zH (fun w'=>deed_any d av d.sks.length kv (fun h6=>by obtain⟨b,o,e,_⟩:=hav (by omega);exact⟨b,o,e⟩) hskn hkv w');have HBB:=zH hb;unfold ddv at CD;clear hri hd hav hskn hkv hvi hc hcell hb;have HTW:Hid (Tidy w g):=HT;go_upto_region 5 with fail
   refine wp_region_lit ?_;refine wpList_plain rfl fun K hK=> ?_
   go_simp;refine hK _ _ ?_;clear hK K;refine wpList_plain rfl fun K hK=> ?_
   go_simp;refine hK _ _ ?_;clear hK K;refine wpList_plain rfl fun K hK=> ?_
   go_simp;refine hK _ _ ?_;clear hK K;refine wpList_plain rfl fun K hK=> ?_
   go_simp;refine hK _ _ ?_;clear hK K;refine wpList_plain rfl fun K hK=> ?_
   go_simp;refine hK _ _ ?_;clear hK K;refine wpList_plain rfl fun K hK=> ?_
   go_simp;refine(CD.out _).mono ?_;rintro e w2 ⟨rfl,hB2⟩;refine hK _ _ ?_;clear hK K;refine wpList_plain rfl fun K hK=> ?_
   go_simp;refine hK _ _ ?_;clear hK K;have HRI2:=zH (HRI.out.six rfl);have hsw:s≤wr.heap.size:=by have:=HB.out.size;rw[HES.out]at this;exact this
   have HO2:Hid (w2.ownsRow s 46 15 (.slice a5 i c5) i ys):=zH (own_below HO.out hB2);have HB2:=zH (HB.out.trans (hB2.mono hsw));have HSZ:Hid (s≤w2.heap.size):=zH (Nat.le_trans hsw hB2.size);have A2:At (w2.alloc (.cells (ddc (ddP d) (.slice av (min d.sks.length 6:Nat) kv)) 46)) w2.heap.size 46 (ddc (ddP d) (.slice av (min d.sks.length 6:Nat) kv)):=At.made w2 _ _;refine wpList_append_lies _ rfl _ _ 25 rfl s 46 i0 _ 15 136 Tryz.underlying25 HI.out.1 HI.out.2.1 HI.out.2.2.1 HI.out.2.2.2 rfl (by decide) _ i ys rfl (HO2.out.alloc _) ⟨w2.heap.size,0,none⟩ 1 1 (ddc (ddP d) (.slice av (min d.sks.length 6:Nat) kv)).toList rfl rfl (World.news_of_block A2) (by simp[Value.oneCell',ddc]) (by decide) ?c1 ?c2 ?c3 _ rfl ?_
   case c1=>unfold maxLen;omega
   case c2=>omega
   case c3=>have:=HSZ.out;simp;omega
   intro g2 cap2 w3 ho hg hat hlt;have HB3:=zH ((HB2.out.alloc HSZ.out _).grown hg (by have:=HSZ.out;simp;omega) (fun q hq=>(HO2.out.lt q hq).1));have HO3:=zH ho;have HY3:Hid (DsXs w g (ys++(ddc (ddP d) (.slice av (min d.sks.length 6:Nat) kv)).toList) ((ds.take (i+1)).map ddP)):=zH (by
    rw[take_snoc HD.out,List.map_append];exact HY.out.snoc (ddP d) _ HRI2.out)
   clear ho hg hat hlt HO2 HB2 HSZ A2 hB2 hsw r0 r1 r2 r3 r4 r5 r6 r7 r8 r9 r10 r11 r12 r13 r14 CD;refine wpList_plain rfl fun K hK=> ?_
   go_simp;refine hK _ _ ?_;clear hK K;refine wpList_nil ?_;go_wp2_with fail
   go_roundw
   case rel=>exact⟨i+1,_,rfl,HG.out.1,HG.out.2,HO3.out,HY3,HB3⟩
   case measure=>exact HLT.out
  ·have HFIN:Hid (DsRd wr g (.slice a5 i c5) ((ds.take most).map ddP)):=zH (by
    have e:ds.take most=ds.take i:=by
     have hn:=HEN.out;by_cases h1:i<n
     ·rw[show i=most from by omega]
     ·rw[List.take_of_length_le (by omega),List.take_of_length_le (by omega)]
    rw[e];have hl:((ds.take i).map ddP).length=i:=by have:=HEN.out;simp;omega
    refine⟨ys,⟨by rw[hl];exact Rd.own HO.out,fun a m c hv h0=> ?_⟩,HY.out.same fun b hb hg=>⟨HB.out.block b (by rw[←HES.out];exact hb),Nat.lt_of_lt_of_le hb HB.out.size,hg⟩⟩;cases hv
    rcases HO.out.2 with⟨h1,_⟩ | ⟨q,cq,cur,h1,h2,h3,_⟩
    ·cases h1
    ·cases h1
     exact⟨lt_of_heap h3,HT.out q (by rw[HES.out];exact h2)⟩)
   have HBF:Hid (Below w.heap.size w wr):=zH (by rw[HES.out];exact HB.out);by_cases h1:i<n
   ·have d1:decide ((i:Int)<n)=true:=decide_eq_true (by omega)
    have d2:decide (i<n)=true:=decide_eq_true h1;have d3:decide ((i:Int)<most)=false:=decide_eq_false (by omega);have d4:decide (i<most)=false:=decide_eq_false (by omega);clear h1 hgo hin him;go_wp2_with fail
    go_ret
    exact⟨_,rfl,HBF.out,HFIN.out⟩
   ·have d1:decide ((i:Int)<n)=false:=decide_eq_false (by omega)
    have d2:decide (i<n)=false:=decide_eq_false h1;clear h1 hgo hin him;go_wp2_with fail
    go_ret
    exact⟨_,rfl,HBF.out,HFIN.out⟩
end
end Go.Proofs.YtojgokiobdpclaaGreat
