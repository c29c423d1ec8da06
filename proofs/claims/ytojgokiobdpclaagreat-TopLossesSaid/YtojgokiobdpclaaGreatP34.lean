import Derived.Test.YtojgokiobdpclaaGreatP33
namespace Go.Proofs.YtojgokiobdpclaaGreat
set_option linter.unusedVariables false
set_option linter.unusedSimpArgs false
set_option maxRecDepth 8000
set_option maxHeartbeats 8000000
section
open Go.RowKit Go.Lib
structure CR where
 quantum:Int
 first:Int
 limit:Int
 flowLimit:Int
 horizon:Nat
 maxRate:Nat
 drop:Bool
 cap:Int
 mss:Int
def crv (c:CR):Value:= .agg #[.int .i64 c.quantum, .int .i64 c.first, .int .i64 c.limit, .int .i64 c.flowLimit, .int .u64 c.horizon, .int .u64 c.maxRate, .bool c.drop, .int .i64 c.cap, .int .i64 c.mss]
def wth (v lo hi:Int):Bool:=decide (lo≤v)&&decide (v≤hi)
def CR.may (c:CR):Bool:=wth c.quantum 100 65536&&wth c.first 100 65536&&wth c.limit 1 512&&wth c.flowLimit 1 512&&decide (c.horizon≤4611686018427387904)&&wth c.cap 1 1073741824&&wth c.mss 100 9000
def CR.cf (c:CR):CF:=⟨c.quantum.toNat,c.first.toNat,c.limit.toNat,c.flowLimit.toNat,c.horizon,c.maxRate,c.drop,c.cap.toNat,c.mss.toNat⟩
theorem CR.may_ok {c:CR} (h:c.may=true) (hm:c.maxRate<18446744073709551616):c.cf.ok∧(c.quantum=c.cf.quantum∧c.first=c.cf.first∧c.limit=c.cf.limit∧c.flowLimit=c.cf.flowLimit∧c.cap=c.cf.cap∧c.mss=c.cf.mss):=by
 unfold CR.may wth at h;simp only[Bool.and_eq_true,decide_eq_true_eq]at h;obtain⟨⟨⟨⟨⟨⟨h1,h2⟩,h3⟩,h4⟩,h5⟩,h6⟩,h7⟩:=h;unfold CR.cf;refine⟨⟨?_, ?_, ?_, ?_, ?_, ?_, ?_, ?_, ?_,hm, ?_, ?_, ?_, ?_⟩, ?_, ?_, ?_, ?_, ?_, ?_⟩<;>simp only<;>omega
theorem fqmay_any (c:CR) (w:World):
  Calls Tryz.prog 45 #[crv c] w fun e w'=>e= .returned (.bool c.may)∧Below w.heap.size w w':=by
 have C0:Hid (∀ w',Calls Tryz.prog 72 #[.int .i64 c.quantum, .int .i64 100, .int .i64 65536] w' fun e w''=>e= .returned (.bool (wth c.quantum 100 65536))∧w'=w''):=zH fun w'=>fqwithin_any c.quantum 100 65536 w'
 have C1:Hid (∀ w',Calls Tryz.prog 72 #[.int .i64 c.first, .int .i64 100, .int .i64 65536] w' fun e w''=>e= .returned (.bool (wth c.first 100 65536))∧w'=w''):=zH fun w'=>fqwithin_any c.first 100 65536 w'
 have C2:Hid (∀ w',Calls Tryz.prog 72 #[.int .i64 c.limit, .int .i64 1, .int .i64 512] w' fun e w''=>e= .returned (.bool (wth c.limit 1 512))∧w'=w''):=zH fun w'=>fqwithin_any c.limit 1 512 w'
 have C3:Hid (∀ w',Calls Tryz.prog 72 #[.int .i64 c.flowLimit, .int .i64 1, .int .i64 512] w' fun e w''=>e= .returned (.bool (wth c.flowLimit 1 512))∧w'=w''):=zH fun w'=>fqwithin_any c.flowLimit 1 512 w'
 have C5:Hid (∀ w',Calls Tryz.prog 72 #[.int .i64 c.cap, .int .i64 1, .int .i64 1073741824] w' fun e w''=>e= .returned (.bool (wth c.cap 1 1073741824))∧w'=w''):=zH fun w'=>fqwithin_any c.cap 1 1073741824 w'
 have C6:Hid (∀ w',Calls Tryz.prog 72 #[.int .i64 c.mss, .int .i64 100, .int .i64 9000] w' fun e w''=>e= .returned (.bool (wth c.mss 100 9000))∧w'=w''):=zH fun w'=>fqwithin_any c.mss 100 9000 w'
 unfold CR.may crv;obtain⟨b0,hb0⟩: ∃ z,wth c.quantum 100 65536=z:=⟨_,rfl⟩;rw[hb0]at C0 ⊢;clear hb0;obtain⟨b1,hb1⟩: ∃ z,wth c.first 100 65536=z:=⟨_,rfl⟩
 rw[hb1]at C1 ⊢;clear hb1;obtain⟨b2,hb2⟩: ∃ z,wth c.limit 1 512=z:=⟨_,rfl⟩;rw[hb2]at C2 ⊢;clear hb2;obtain⟨b3,hb3⟩: ∃ z,wth c.flowLimit 1 512=z:=⟨_,rfl⟩;rw[hb3]at C3 ⊢;clear hb3;obtain⟨b5,hb5⟩: ∃ z,wth c.cap 1 1073741824=z:=⟨_,rfl⟩;rw[hb5]at C5 ⊢;clear hb5;obtain⟨b6,hb6⟩: ∃ z,wth c.mss 100 9000=z:=⟨_,rfl⟩;rw[hb6]at C6 ⊢;clear hb6;cases b0 with
 | false=>
  go_enter Tryz.func45,Tryz.ntmps45
  go_wp2_with fail
  refine(C0.out _).mono ?_;rintro e w0 ⟨rfl,rfl⟩;go_wp2_with fail
  go_ret
  exact⟨by simp,(Below.refl _ w).alloc (Nat.le_refl _) _⟩
 | true=>
  cases b1 with
  | false=>
   go_enter Tryz.func45,Tryz.ntmps45
   go_wp2_with fail
   refine(C0.out _).mono ?_;rintro e w0 ⟨rfl,rfl⟩;go_wp2_with fail
   refine(C1.out _).mono ?_;rintro e w1 ⟨rfl,rfl⟩;go_wp2_with fail
   go_ret
   exact⟨by simp,(Below.refl _ w).alloc (Nat.le_refl _) _⟩
  | true=>
   cases b2 with
   | false=>
    go_enter Tryz.func45,Tryz.ntmps45
    go_wp2_with fail
    refine(C0.out _).mono ?_;rintro e w0 ⟨rfl,rfl⟩;go_wp2_with fail
    refine(C1.out _).mono ?_;rintro e w1 ⟨rfl,rfl⟩;go_wp2_with fail
    refine(C2.out _).mono ?_;rintro e w2 ⟨rfl,rfl⟩;go_wp2_with fail
    go_ret
    exact⟨by simp,(Below.refl _ w).alloc (Nat.le_refl _) _⟩
   | true=>
    cases b3 with
    | false=>
     go_enter Tryz.func45,Tryz.ntmps45
     go_wp2_with fail
     refine(C0.out _).mono ?_;rintro e w0 ⟨rfl,rfl⟩;go_wp2_with fail
     refine(C1.out _).mono ?_;rintro e w1 ⟨rfl,rfl⟩;go_wp2_with fail
     refine(C2.out _).mono ?_;rintro e w2 ⟨rfl,rfl⟩;go_wp2_with fail
     refine(C3.out _).mono ?_;rintro e w3 ⟨rfl,rfl⟩;go_wp2_with fail
     go_ret
     exact⟨by simp,(Below.refl _ w).alloc (Nat.le_refl _) _⟩
    | true=>
     by_cases hh:c.horizon≤4611686018427387904
     ·have hh':decide (c.horizon≤4611686018427387904)=true:=decide_eq_true hh
      rw[hh'];cases b5 with
      | false=>
       go_enter Tryz.func45,Tryz.ntmps45
       go_wp2_with fail
       refine(C0.out _).mono ?_;rintro e w0 ⟨rfl,rfl⟩;go_wp2_with fail
       refine(C1.out _).mono ?_;rintro e w1 ⟨rfl,rfl⟩;go_wp2_with fail
       refine(C2.out _).mono ?_;rintro e w2 ⟨rfl,rfl⟩;go_wp2_with fail
       refine(C3.out _).mono ?_;rintro e w3 ⟨rfl,rfl⟩;go_wp2_with fail
       refine(C5.out _).mono ?_;rintro e w5 ⟨rfl,rfl⟩;go_wp2_with fail
       go_ret
       exact⟨by simp,(Below.refl _ w).alloc (Nat.le_refl _) _⟩
      | true=>
       cases b6 with
       | false=>
        go_enter Tryz.func45,Tryz.ntmps45
        go_wp2_with fail
        refine(C0.out _).mono ?_;rintro e w0 ⟨rfl,rfl⟩;go_wp2_with fail
        refine(C1.out _).mono ?_;rintro e w1 ⟨rfl,rfl⟩;go_wp2_with fail
        refine(C2.out _).mono ?_;rintro e w2 ⟨rfl,rfl⟩;go_wp2_with fail
        refine(C3.out _).mono ?_;rintro e w3 ⟨rfl,rfl⟩;go_wp2_with fail
        refine(C5.out _).mono ?_;rintro e w5 ⟨rfl,rfl⟩;go_wp2_with fail
        refine(C6.out _).mono ?_;rintro e w6 ⟨rfl,rfl⟩;go_wp2_with fail
        go_ret
        exact⟨by simp,(Below.refl _ w).alloc (Nat.le_refl _) _⟩
       | true=>
        go_enter Tryz.func45,Tryz.ntmps45
        go_wp2_with fail
        refine(C0.out _).mono ?_;rintro e w0 ⟨rfl,rfl⟩;go_wp2_with fail
        refine(C1.out _).mono ?_;rintro e w1 ⟨rfl,rfl⟩;go_wp2_with fail
        refine(C2.out _).mono ?_;rintro e w2 ⟨rfl,rfl⟩;go_wp2_with fail
        refine(C3.out _).mono ?_;rintro e w3 ⟨rfl,rfl⟩;go_wp2_with fail
        refine(C5.out _).mono ?_;rintro e w5 ⟨rfl,rfl⟩;go_wp2_with fail
        refine(C6.out _).mono ?_;rintro e w6 ⟨rfl,rfl⟩;go_wp2_with fail
        go_ret
        exact⟨by simp,(Below.refl _ w).alloc (Nat.le_refl _) _⟩
     ·have hh':decide (c.horizon≤4611686018427387904)=false:=decide_eq_false hh
      rw[hh'];go_enter Tryz.func45,Tryz.ntmps45
      go_wp2_with fail
      refine(C0.out _).mono ?_;rintro e w0 ⟨rfl,rfl⟩;go_wp2_with fail
      refine(C1.out _).mono ?_;rintro e w1 ⟨rfl,rfl⟩;go_wp2_with fail
      refine(C2.out _).mono ?_;rintro e w2 ⟨rfl,rfl⟩;go_wp2_with fail
      refine(C3.out _).mono ?_;rintro e w3 ⟨rfl,rfl⟩;go_wp2_with fail
      go_ret
      exact⟨by simp,(Below.refl _ w).alloc (Nat.le_refl _) _⟩
end
section
open Go.RowKit Go.Lib
theorem FqIn.conf {w:World} {g:Nat→Nat} {T b bl bt:Nat} {fp:Nat→Option Nat} {q:FQ} (h:FqIn w g T b fp bl bt q) (hT0:0<T) (c:CF):FqIn (((((((((w.setCell ⟨b,0,none⟩ (.int .i64 (c.quantum:Nat))).setCell ⟨b,1,none⟩ (.int .i64 (c.first:Nat))).setCell ⟨b,2,none⟩ (.int .i64 (c.limit:Nat))).setCell ⟨b,3,none⟩ (.int .i64 (c.flowLimit:Nat))).setCell ⟨b,4,none⟩ (.int .u64 (c.horizon:Nat))).setCell ⟨b,5,none⟩ (.int .u64 (c.maxRate:Nat))).setCell ⟨b,6,none⟩ (.bool c.drop)).setCell ⟨b,7,none⟩ (.int .i64 (c.cap:Nat))).setCell ⟨b,8,none⟩ (.int .i64 (c.mss:Nat))) g T b fp bl bt { q with c:=c }∧w.grownBy (((((((((w.setCell ⟨b,0,none⟩ (.int .i64 (c.quantum:Nat))).setCell ⟨b,1,none⟩ (.int .i64 (c.first:Nat))).setCell ⟨b,2,none⟩ (.int .i64 (c.limit:Nat))).setCell ⟨b,3,none⟩ (.int .i64 (c.flowLimit:Nat))).setCell ⟨b,4,none⟩ (.int .u64 (c.horizon:Nat))).setCell ⟨b,5,none⟩ (.int .u64 (c.maxRate:Nat))).setCell ⟨b,6,none⟩ (.bool c.drop)).setCell ⟨b,7,none⟩ (.int .i64 (c.cap:Nat))).setCell ⟨b,8,none⟩ (.int .i64 (c.mss:Nat))) (some b):=by
 have gb:=h.own.2;have G:=(((((((((grown_set w b 0 (.int .i64 (c.quantum:Nat))).trans (grown_set _ b 1 (.int .i64 (c.first:Nat)))).trans (grown_set _ b 2 (.int .i64 (c.limit:Nat)))).trans (grown_set _ b 3 (.int .i64 (c.flowLimit:Nat)))).trans (grown_set _ b 4 (.int .u64 (c.horizon:Nat)))).trans (grown_set _ b 5 (.int .u64 (c.maxRate:Nat)))).trans (grown_set _ b 6 (.bool c.drop))).trans (grown_set _ b 7 (.int .i64 (c.cap:Nat)))).trans (grown_set _ b 8 (.int .i64 (c.mss:Nat))));have A:=(((((((((h.own.1.set (u:= .int .i64 (c.quantum:Nat)) 0).set (u:= .int .i64 (c.first:Nat)) 1).set (u:= .int .i64 (c.limit:Nat)) 2).set (u:= .int .i64 (c.flowLimit:Nat)) 3).set (u:= .int .u64 (c.horizon:Nat)) 4).set (u:= .int .u64 (c.maxRate:Nat)) 5).set (u:= .bool c.drop) 6).set (u:= .int .i64 (c.cap:Nat)) 7).set (u:= .int .i64 (c.mss:Nat)) 8);simp only[fqa,List.setIfInBounds_toArray,List.set_cons_zero,List.set_cons_succ]at A;exact⟨⟨⟨A,gb⟩,fun s hs=>(h.fls s hs).other G (fun q hq=>by cases hq;omega),h.ls.other G (fun q hq=>by cases hq;omega),h.tr.other G (fun q hq=>by cases hq;omega)⟩,G⟩
theorem fqset_any (b:Nat) (c:CR) (hm:c.maxRate<18446744073709551616) (fp:Nat→Option Nat) (bl bt:Nat) (q:FQ) (g:Nat→Nat) (T:Nat) (hT0:0<T) (w:World) (hT:Tidy w g) (h:FqIn w g T b fp bl bt q):
  Calls Tryz.prog 55 #[.pointer (some ⟨b,0,none⟩),crv c] w fun e w'=>e= .returned (.int .i64 (if c.may=true then 0 else 13))∧Chg w w' g g T (T+25)∧FqIn w' g T b fp bl bt (if c.may=true then { q with c:=c.cf }else q):=by
 have CM:=zH (fun w'=>fqmay_any c w');obtain⟨N0,e0⟩: ∃ z,w.heap.size=z:=⟨_,rfl⟩;have hbN:b<N0:=by rw[←e0];exact h.own.1.lt
 have HH:=zH h;have HT:=zH hT;clear h hT;unfold crv at CM ⊢;cases hc:c.may with
 | false=>
  rw[hc]at CM;simp only[Bool.false_eq_true,if_false];clear hc;go_enter Tryz.func55,Tryz.ntmps55
  go_wp2_with fail
  refine(CM.out _).mono ?_;rintro e w1 ⟨rfl,hB⟩;have HB:=zH (((Below.refl w.heap.size w).alloc (Nat.le_refl _) (.cells #[.int .i64 c.quantum, .int .i64 c.first, .int .i64 c.limit, .int .i64 c.flowLimit, .int .u64 c.horizon, .int .u64 c.maxRate, .bool c.drop, .int .i64 c.cap, .int .i64 c.mss] 24)).trans (hB.mono (by simp)));clear hB;go_wp2_with fail
  go_ret
  exact⟨rfl,(Chg.refl HT.out _ _).below HB.out,HH.out.below HB.out⟩
 | true=>
  rw[hc]at CM;obtain⟨hok,q1,q2,q3,q4,q5,q6⟩:=CR.may_ok hc hm;simp only[if_true];rw[q1,q2,q3,q4,q5,q6]at CM ⊢;obtain⟨d,ed⟩: ∃ d,c.cf=d:=⟨_,rfl⟩;have e1:c.horizon=d.horizon:=by rw[←ed];rfl
  have e2:c.maxRate=d.maxRate:=by rw[←ed];rfl
  have e3:c.drop=d.drop:=by rw[←ed];rfl
  rw[ed,e1,e2,e3]at CM ⊢;clear hc hok q1 q2 q3 q4 q5 q6 e1 e2 e3 ed;go_enter Tryz.func55,Tryz.ntmps55
  go_wp2_with fail
  refine(CM.out _).mono ?_;rintro e w1 ⟨rfl,hB⟩;have A1:At w1 N0 24 #[.int .i64 (d.quantum:Nat), .int .i64 (d.first:Nat), .int .i64 (d.limit:Nat), .int .i64 (d.flowLimit:Nat), .int .u64 (d.horizon:Nat), .int .u64 (d.maxRate:Nat), .bool d.drop, .int .i64 (d.cap:Nat), .int .i64 (d.mss:Nat)]:=by rw[←e0];exact(At.made w _ _).below hB (At.made w _ _).lt
  have HB1:=zH (((Below.refl w.heap.size w).alloc (Nat.le_refl _) (.cells #[.int .i64 (d.quantum:Nat), .int .i64 (d.first:Nat), .int .i64 (d.limit:Nat), .int .i64 (d.flowLimit:Nat), .int .u64 (d.horizon:Nat), .int .u64 (d.maxRate:Nat), .bool d.drop, .int .i64 (d.cap:Nat), .int .i64 (d.mss:Nat)] 24)).trans (hB.mono (by simp)));have N1:=HH.out.below HB1.out;have y0:=A1.cell 0;have y1:=A1.cell 1;have y2:=A1.cell 2;have y3:=A1.cell 3;have y4:=A1.cell 4;have y5:=A1.cell 5;have y6:=A1.cell 6;have y7:=A1.cell 7;have y8:=A1.cell 8;simp only[List.getElem?_toArray,List.getElem?_cons_zero,List.getElem?_cons_succ]at y0 y1 y2 y3 y4 y5 y6 y7 y8;have z0:=N1.own.1.cell 0;have zf0:=N1.own.1.free 0;have z1:=N1.own.1.cell 1;have zf1:=N1.own.1.free 1;have z2:=N1.own.1.cell 2;have zf2:=N1.own.1.free 2;have z3:=N1.own.1.cell 3;have zf3:=N1.own.1.free 3;have z4:=N1.own.1.cell 4;have zf4:=N1.own.1.free 4;have z5:=N1.own.1.cell 5;have zf5:=N1.own.1.free 5;have z6:=N1.own.1.cell 6;have zf6:=N1.own.1.free 6;have z7:=N1.own.1.cell 7;have zf7:=N1.own.1.free 7;have z8:=N1.own.1.cell 8;have zf8:=N1.own.1.free 8;simp only[fqa,List.getElem?_toArray,List.getElem?_cons_zero,List.getElem?_cons_succ]at z0 z1 z2 z3 z4 z5 z6 z7 z8;have HF:=zH (N1.conf hT0 d);have gb1:=N1.own.2;have hbne:b≠N0:=by omega
  have hbne2:N0≠b:=by omega
  have hb1:b<w1.heap.size:=N1.own.1.lt;clear hB A1 N1;go_wp2_with fail
  go_ret
  refine⟨rfl,((Chg.refl HT.out T (T+25)).below HB1.out).by HF.out.2 (fun k hk hlt=>by cases hk;omega), ?_⟩;exact HF.out.1
end
section
open Go.RowKit Go.Lib
def CF.cr (c:CF):CR:=⟨c.quantum,c.first,c.limit,c.flowLimit,c.horizon,c.maxRate,c.drop,c.cap,c.mss⟩
def cfv (c:CF):Value:= .agg #[.int .i64 (c.quantum:Nat), .int .i64 (c.first:Nat), .int .i64 (c.limit:Nat), .int .i64 (c.flowLimit:Nat), .int .u64 (c.horizon:Nat), .int .u64 (c.maxRate:Nat), .bool c.drop, .int .i64 (c.cap:Nat), .int .i64 (c.mss:Nat)]
theorem CF.cr_may {c:CF} (h:c.ok):c.cr.may=true:=by
 obtain⟨h1,h2,h3,h4,h5,h6,h7,h8,h9,_,h11,h12,h13,h14⟩:=h;unfold CR.may wth CF.cr;simp only[Bool.and_eq_true,decide_eq_true_eq];omega
def newQ (c:CF):FQ:=⟨c,fun _=>none,[],[],[],0⟩
theorem newQ_inv {c:CF} (h:c.ok):(newQ c).inv:=
 ⟨⟨by simp[newQ],by simp[newQ]⟩,h,fun s f hf=>(by cases hf),fun s hs=>(by simp[FQ.all,newQ]at hs),rfl,by simp[newQ],fun k hk=>(by simp[newQ]at hk),fun s f _ hf=>(by cases hf)⟩
theorem fqnew_any (c:CF) (hok:c.ok) (g:Nat→Nat) (T:Nat) (hT0:0<T) (w:World) (hT:Tidy w g):
  Calls Tryz.prog 24 #[cfv c] w fun e w'=> ∃ b,e= .returned (.tuple #[.pointer (some ⟨b,0,none⟩), .int .i64 0])∧w.heap.size≤b∧ ∃ bl bt g',Chg w w' g g' T (T+25)∧FqIn w' g' T b (fun _=>none) bl bt (newQ c):=by
 have CM:Hid (∀ w',Calls Tryz.prog 45 #[cfv c] w' fun e w''=>e= .returned (.bool true)∧Below w'.heap.size w' w''):=zH fun w'=>by
  have:=fqmay_any c.cr w';rw[CF.cr_may hok]at this;exact this
 obtain⟨N0,e0⟩: ∃ z,w.heap.size=z:=⟨_,rfl⟩;have gN:g N0=0:=hT _ (by omega);have HT:=zH hT;clear hT hok;unfold cfv at CM ⊢;go_enter Tryz.func24,Tryz.ntmps24
 go_wp2_with fail
 refine(CM.out _).mono ?_;rintro e w1 ⟨rfl,hB⟩;have A1:At w1 N0 24 #[.int .i64 (c.quantum:Nat), .int .i64 (c.first:Nat), .int .i64 (c.limit:Nat), .int .i64 (c.flowLimit:Nat), .int .u64 (c.horizon:Nat), .int .u64 (c.maxRate:Nat), .bool c.drop, .int .i64 (c.cap:Nat), .int .i64 (c.mss:Nat)]:=by rw[←e0];exact(At.made w _ _).below hB (At.made w _ _).lt
 have C1:Chg w w1 g g T (T+25):=((Chg.refl HT.out _ _).alloc _).below hB;have HA:=zH A1;have HC:=zH C1;clear hB A1 C1;go_upto_region 3 with fail
 refine wp_named (fun W=>At W N0 24 #[.int .i64 (c.quantum:Nat), .int .i64 (c.first:Nat), .int .i64 (c.limit:Nat), .int .i64 (c.flowLimit:Nat), .int .u64 (c.horizon:Nat), .int .u64 (c.maxRate:Nat), .bool c.drop, .int .i64 (c.cap:Nat), .int .i64 (c.mss:Nat)]∧Chg w W g g T (T+25)) ⟨HA.out,HC.out⟩ (fun W hW=> ?_);obtain⟨AW,CW⟩:=hW;clear HA HC;have CE:Hid (∀ wq,At wq N0 24 #[.int .i64 (c.quantum:Nat), .int .i64 (c.first:Nat), .int .i64 (c.limit:Nat), .int .i64 (c.flowLimit:Nat), .int .u64 (c.horizon:Nat), .int .u64 (c.maxRate:Nat), .bool c.drop, .int .i64 (c.cap:Nat), .int .i64 (c.mss:Nat)]→wq.cell? ⟨N0,0,none⟩=some (.int .i64 (c.quantum:Nat))∧wq.cell? ⟨N0,1,none⟩=some (.int .i64 (c.first:Nat))∧wq.cell? ⟨N0,2,none⟩=some (.int .i64 (c.limit:Nat))∧wq.cell? ⟨N0,3,none⟩=some (.int .i64 (c.flowLimit:Nat))∧wq.cell? ⟨N0,4,none⟩=some (.int .u64 (c.horizon:Nat))∧wq.cell? ⟨N0,5,none⟩=some (.int .u64 (c.maxRate:Nat))∧wq.cell? ⟨N0,6,none⟩=some (.bool c.drop)∧wq.cell? ⟨N0,7,none⟩=some (.int .i64 (c.cap:Nat))∧wq.cell? ⟨N0,8,none⟩=some (.int .i64 (c.mss:Nat))):=by
  refine zH fun wq h=> ?_
  exact⟨h.cell 0,h.cell 1,h.cell 2,h.cell 3,h.cell 4,h.cell 5,h.cell 6,h.cell 7,h.cell 8⟩
 have HAW:=zH (show At W.drew N0 24 _ from AW);have HCW:=zH CW.drew;clear AW CW;obtain⟨bl,ebl⟩: ∃ z,W.heap.size=z:=⟨_,rfl⟩;have hNbl:N0<bl:=by rw[←ebl];exact HAW.out.lt
 have hwbl:w.heap.size≤bl:=by omega
 refine wp_region_held_drew (S:=fun wq=>wq.cell? ⟨N0,0,none⟩=some (.int .i64 (c.quantum:Nat))∧wq.cell? ⟨N0,1,none⟩=some (.int .i64 (c.first:Nat))∧wq.cell? ⟨N0,2,none⟩=some (.int .i64 (c.limit:Nat))∧wq.cell? ⟨N0,3,none⟩=some (.int .i64 (c.flowLimit:Nat))∧wq.cell? ⟨N0,4,none⟩=some (.int .u64 (c.horizon:Nat))∧wq.cell? ⟨N0,5,none⟩=some (.int .u64 (c.maxRate:Nat))∧wq.cell? ⟨N0,6,none⟩=some (.bool c.drop)∧wq.cell? ⟨N0,7,none⟩=some (.int .i64 (c.cap:Nat))∧wq.cell? ⟨N0,8,none⟩=some (.int .i64 (c.mss:Nat))) (by kernel_rfl) (CE.out _ HAW.out) (fun hHeld=> ?_);refine zt 0 ?_;refine zc 1 (fun K hK=> ?_);go_simp;refine(lsnew_any _).mono ?_;rintro e w5 ⟨rfl,hw5⟩;have L5:Of w5 (tagAt g bl (T+17)) (T+17) bl 150 #[.slice none 0 0, .slice none 0 0]:=(by rw[hw5,←ebl];exact Of.made W.drew g (T+17) 150 _);have C5:Chg w w5 g (tagAt g bl (T+17)) T (T+25):=(by rw[hw5,←ebl];exact HCW.out.tag _ _);have A5:At w5 N0 24 _:=(by rw[hw5];exact HAW.out.al _);clear hw5;refine hK.out _ _ ?_ (fun hHeld=> ?_);focus exact CE.out _ A5
 clear hK K;refine zl ?_;refine zc 2 (fun K hK=> ?_);go_simp;refine(rbnew_any (tagAt g bl (T+17)) (T+20) w5 C5.tidy).mono ?_;rintro e w6 ⟨g6,bt,rfl,hbt,C6,T6⟩;have A6:=A5.chg C6 (by rw[tagAt_ne g _ (by omega)];omega);have L6:=L5.chg C6 (by omega);have C7:=C5.trans (C6.mono (by omega) (by omega));refine hK.out _ _ ?_ (fun hHeld=> ?_);focus exact CE.out _ A6
 clear hK K;refine zl ?_;refine zt 3 ?_;refine zc 4 (fun K hK=> ?_);go_simp;refine hK.out _ _ ?_ (fun hHeld=> ?_);focus exact CE.out _ (A6.al _)
 clear hK K;refine zl ?_;refine zt 5 ?_;refine zt 6 ?_;refine dnZ ?_;have hN:FqIn (w6.alloc (.cells (fqa c (fun _=>none) bl bt 0) 108)) (tagAt g6 w6.heap.size T) T w6.heap.size (fun _=>none) bl bt (newQ c):=by
  have CT:=(Chg.refl C7.tidy 0 0).tag (.cells (fqa c (fun _=>none) bl bt 0) 108) T;have LT:LsAt w6 g6 (T+17) bl [] []:=⟨_,_,L6,Sli.nil _ _ _ _ _,Sli.nil _ _ _ _ _⟩;exact⟨Of.made _ _ _ _ _,fun s hs=>trivial,LT.chg CT (.inr (Nat.zero_le _)),T6.chg CT (.inr (Nat.zero_le _))⟩
 have HN:=zH hN;have HC:=zH (C7.tag (.cells (fqa c (fun _=>none) bl bt 0) 108) T);have hsz:=C7.size;clear hN C7 L5 C5 A5 C6 T6 A6 L6 hHeld;go_wp2_with fail
 go_ret2
 refine⟨w6.heap.size,rfl,by omega, ?_⟩;first | exact⟨bl,bt,_,HC.out,HN.out⟩ | exact⟨_,HC.out,bl,bt,HN.out⟩
end
end Go.Proofs.YtojgokiobdpclaaGreat
