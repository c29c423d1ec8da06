import Derived.Test.YtojgokiobdpclaaGreatP30
import Derived.Deep.DeepCutAuto
namespace Go.Proofs.YtojgokiobdpclaaGreat
set_option linter.unusedVariables false
set_option linter.unusedSimpArgs false
set_option maxRecDepth 8000
set_option maxHeartbeats 8000000
section
open Go.RowKit Go.Lib
theorem SK.may_zero {k:SK} (h:k.mayE=0):k.mayS=k∧(k.los=false→1≤k.uns)∧k.fl<k.bb.cwnd∧k.out<k.lim∧(k.los=false→k.pcs.length<4096):=by
 unfold SK.mayE at h;split at h
 ·cases h
 ·rename_i h1
  split at h
  ·cases h
  ·rename_i h2
   split at h
   ·cases h
   ·rename_i h3
    refine⟨?_,fun hl=> ?_,by omega,by omega,fun hl=> ?_⟩
    ·unfold SK.mayS
     rw[if_neg (fun hh=>h1 ⟨hh.1,hh.2.1⟩)]
    ·have: ¬ k.uns=0:=fun e=>h1 ⟨hl,e⟩
     omega
    ·have: ¬ 4096≤k.pcs.length:=fun e=>h3 ⟨hl,e⟩
     omega
theorem SkIn.alloc {w:World} {g:Nat→Nat} {T b pb pd ps B:Nat} {k:SK} (h:SkIn w g T b pb pd ps B k) (o:Obj):SkIn (w.alloc o) g T b pb pd ps B k:=h.below ((Below.refl _ w).alloc (Nat.le_refl _) o)
theorem At.box {w:World} {b:Nat} {t:TypeId} {cs:Array Value} (h:At w b t cs) (t2:TypeId) (cs2:Array Value):At (w.alloc (.cells cs2 t2)) w.heap.size t2 cs2:=At.made w t2 cs2
theorem drew_size (w:World):w.drew.heap.size=w.heap.size:=rfl
theorem At.c5 {w:World} {N:Nat} {t:TypeId} {a b c d e:Value} (h:At w N t #[a,b,c,d,e]):w.cell? ⟨N,0,none⟩=some a∧w.cell? ⟨N,1,none⟩=some b∧w.cell? ⟨N,2,none⟩=some c∧w.cell? ⟨N,3,none⟩=some d∧w.cell? ⟨N,4,none⟩=some e∧ ∀ i,w.frozen? ⟨N,i,none⟩=false:=
 ⟨h.cell 0,h.cell 1,h.cell 2,h.cell 3,h.cell 4,fun i=>h.free i⟩
def sg0:Array Value:= #[.int .i64 0, .int .u64 0, .int .i64 0, .int .u64 0, .bool false]
theorem bdAgain_any (b e:Nat) (l:List PC) (y:ST) (hl:l.length≤5000) (g:Nat→Nat) (T:Nat) (hT1:1≤T) (w:World) (hT:Tidy w g) (hL:BdAt w g T b l e):
  Calls Tryz.prog 137 #[.pointer (some ⟨b,0,none⟩),stv y] w fun e2 w'=> ∃(r1 r2:Nat) (g':Nat→Nat),e2= .returned (.tuple #[.agg #[.int .u64 r1, .int .u64 r2], .bool (decide (lostIx l≠ -1))])∧Chg w w' g g' T (T+2)∧BdAt w' g' T b (if lostIx l≠ -1 then agL l y else l) e∧(lostIx l≠ -1→(r1,r2)=agR l):=by
 rcases lostIx_cases l with⟨h,_⟩ | ⟨i,x,h,hx,_⟩
 ·refine(bdAgain_none b e l y hl g T w hL h).mono ?_
  rintro e2 w' ⟨rfl,hB⟩;refine⟨0,0,g,by rw[h];rfl,(Chg.refl hT _ _).below hB, ?_,fun hn=>absurd h hn⟩;rw[if_neg (by rw[h];simp)];exact hL.below hB
 ·refine(bdAgain_some b e i x l y hl g T hT1 w hT hL h hx).mono ?_
  rintro e2 w' ⟨rfl,g',hC,hD⟩;have hne:lostIx l≠ -1:=by rw[h];omega
  have ha:agL l y=l.set i { x with sent:=y,lost:=false }:=by unfold agL;rw[h,Int.toNat_natCast,hx]
  refine⟨x.frm,x.til,g',by rw[decide_eq_true hne];rfl,hC, ?_,fun _=> ?_⟩
  ·rw[if_pos hne,ha];exact hD
  ·unfold agR;rw[h,Int.toNat_natCast,hx]
theorem set2 {w:World} {N:Nat} {t:TypeId} {a b:Value} (h:At w N t #[a,b]) (v0 v1:Value):Put w ((w.setCell ⟨N,0,none⟩ v0).setCell ⟨N,1,none⟩ v1) N t #[v0,v1]:=by
 have A:=(h.set (u:=v0) 0).set (u:=v1) 1;simp only[List.setIfInBounds_toArray,List.set_cons_zero,List.set_cons_succ]at A;exact⟨A,(grown_set w N 0 v0).trans (grown_set _ N 1 v1)⟩
theorem At.c2 {w:World} {N:Nat} {t:TypeId} {a b:Value} (h:At w N t #[a,b]):w.cell? ⟨N,0,none⟩=some a∧w.cell? ⟨N,1,none⟩=some b∧ ∀ i,w.frozen? ⟨N,i,none⟩=false:=⟨h.cell 0,h.cell 1,fun i=>h.free i⟩
theorem SK.brd_los {k:SK} (h:k.los=true) (now:Nat):k.brd now={ k with sa:=sentF k.sa now k.fl,pcs:=agL k.pcs (k.snt now) }:=if_pos h
theorem SK.rg_los {k:SK} (h:k.los=true):k.rg=agR k.pcs:=if_pos h
theorem i64w (n:Nat) (h:n<9223372036854775808):IntKind.i64.wrap (n:Int)=n:=by rw[IntKind.wrap_i64];omega
theorem SK.rg_ok {k:SK} (hk:k.ok) (hm:k.mayE=0):k.rg.1<k.rg.2∧k.rg.2≤k.rg.1+65536∧k.rg.2<18446744073709551616:=by
 obtain⟨_,hz1,_,_,_⟩:=SK.may_zero hm;have hb:=hk.bf;obtain⟨b1,b2,b3,b4,b5⟩:=hb;cases hl:k.los with
 | true=>
  rw[SK.rg_los hl];unfold agR;have hne:lostIx k.pcs≠ -1:=of_decide_eq_true hl;rcases lostIx_cases k.pcs with⟨h,_⟩ | ⟨i,x,h,hx,_⟩
  ·exact absurd h hne
  ·rw[h,Int.toNat_natCast,hx]
   obtain⟨p1,p2,p3,_⟩:=hk.pc x (List.mem_of_getElem? hx);have he:=hk.e;exact⟨p1,p2,by simp only;omega⟩
 | false=>
  have hu:=hz1 hl;have h1:=tsoF_le k.bb.rate k.mss hk.m1 hk.m2;have h2:=tsoF_ge k.bb.rate k.mss hk.m1;have e:k.rg=(k.bf.tk,k.bf.tk+min k.tso k.uns):=by unfold SK.rg;rw[hl];rfl
  rw[e];have ht:k.tso=tsoF k.bb.rate k.mss:=rfl;have hun:k.uns=k.bf.wr-k.bf.tk:=rfl;simp only
  omega
theorem skemit_yes (b pb pd ps B now:Nat) (hnow:now<18446744073709551616) (k:SK) (hk:k.ok) (hm:k.mayE=0) (g:Nat→Nat) (T:Nat) (hT0:0<T) (w:World) (hT:Tidy w g) (h:SkIn w g T b pb pd ps B k):
  Calls Tryz.prog 102 #[.pointer (some ⟨b,0,none⟩), .int .u64 now] w fun e w'=>e= .returned (.tuple #[sgv (k.emitX now), .int .i64 0])∧ ∃ g',Chg w w' g g' T (T+6)∧SkIn w' g' T b pb pd ps B (k.emitF now):=by
 obtain⟨N0,e0⟩: ∃ z,w.heap.size=z:=⟨_,rfl⟩;have gN:g N0=0:=hT _ (by omega);obtain⟨hmS,hz1,hz2,hz3,hz4⟩:=SK.may_zero hm;have CM:=zH (skmay_any b pb pd ps B k hk g T (w.alloc (.cells sg0 48)) (hT.alloc _) (h.below ((Below.refl _ w).alloc (Nat.le_refl _) _)));rw[hm,hmS]at CM;have HC0:=zH ((Chg.refl hT T (T+6)).alloc (.cells sg0 48));have hl:k.pcs.length≤5000:=by have:=hk.len;omega
 have CF:=zH (fun w' h=>skfl_any b pb pd ps B k hl g T w' h);rw[k.fl_eq]at CF;obtain⟨fl,efl⟩: ∃ z,k.fl=z:=⟨_,rfl⟩;rw[efl]at CF;have CS:=zH (fun w' (h:SkIn w' g T b pb pd ps B k)=>sent_any ps k.sa now fl w' h.sa.1);obtain⟨⟨ya,yd,yda,yfa,yl⟩,ey⟩: ∃ y,sentV (sentF k.sa now fl) now=y:=⟨_,rfl⟩;rw[ey]at CS;unfold stv at CS;simp only at CS
 have hsn:k.snt now=⟨ya,yd,yda,yfa,yl⟩:=by unfold SK.snt;rw[efl];exact ey
 have HSN:=zH hsn;have HFL:=zH efl;have HK:=zH hk;have HZ1:=zH hz1;have HZ4:=zH hz4;have HRG:=zH (SK.rg_ok hk hm);clear h hT hsn ey efl hz1 hz2 hz3 hz4 hmS hm hk;unfold sg0 at CM HC0;go_enter Tryz.func102,Tryz.ntmps102
 go_wp2_with fail
 refine CM.out.mono ?_;rintro e w1 ⟨rfl,hC,hS⟩;have A1:At w1 N0 48 sg0:=(show At _ N0 48 _ by rw[←e0];exact At.made w _ _).chg hC (by omega);have HC1:=zH (HC0.out.trans hC);have HS1:=zH hS;have HA1:=zH A1;have c5:=hS.own.1.ce 5;clear hC hS A1 CM HC0;go_upto_region 6 with fail
 go_cut [7] (fun v7 wx=> ∃ N,v7= .pointer (some ⟨N,0,none⟩)∧At wx N 190 #[.int .u64 ya, .int .u64 yd, .int .u64 yda, .int .u64 yfa, .bool yl]∧g N=0∧w.heap.size≤N∧At wx N0 48 sg0∧SkIn wx g T b pb pd ps B { k with sa:=sentF k.sa now fl }∧Chg w wx g g T (T+6))
 case first=>
  have X:=HS1.out.below ((Below.refl w1.heap.size w1).drew);have C:=HC1.out.drew;have Z:=HA1.out.drew;refine wp_region_held_drew (S:=fun wq=>wq.cell? ⟨b,5,none⟩=some (.pointer (some ⟨ps,0,none⟩))) (by kernel_rfl) c5 (fun hHeld=> ?_);refine zt 0 ?_;refine zt 1 ?_;refine zt 2 ?_;refine zt 3 ?_;refine zt 4 ?_;refine zt 5 ?_;refine rdZ [6,8] ?_;refine(cnZ 6 rfl (fun K hK=> ?_) (cnZ 8 rfl (fun K hK=> ?_) AllReadyH.nil))
  ·go_simp
   refine(CF.out _ X).mono ?_;rintro e w2 ⟨rfl,hB2⟩;have C:=C.below hB2;have Z:=Z.below hB2 Z.lt;(try have BX:=BX.below hB2 BX.lt);have X:=X.below hB2;refine hK.out _ _ ?_ (fun hHeld=> ?_);focus exact X.own.1.cell 5
   clear hK K;refine zl ?_;refine rdZ [7,8] ?_;refine(cnZ 7 rfl (fun K hK=> ?_) (cnZ 8 rfl (fun K hK=> ?_) AllReadyH.nil))
   ·go_simp
    refine(CS.out _ X).mono ?_;rintro e w3 ⟨rfl,hP3⟩;have Z:=hP3.other Z (by have:=X.sa.2;rintro rfl;omega);(try have BX:=hP3.other BX (by have:=X.sa.2;intro e;rw[e]at gX;omega));(try obtain⟨y0,y1,y2,y3,y4,yf⟩:=BX.c5);obtain⟨X,c⟩:=X.put_sa C.tidy hP3;have C:=C.trans (c.mono (by omega) (by omega));refine hK.out _ _ ?_ (fun hHeld=> ?_);focus exact X.own.1.cell 5
    clear hK K;refine zl ?_;refine zc 8 (fun K hK=> ?_);go_simp;refine hK.out _ _ ?_ (fun hHeld=> ?_);focus exact(World.grownBy_alloc _ _ none).cell hHeld (by simp)
    clear hK K;have XA:=X;have CA:=C;have ZA:=Z;have BX:=X.own.1.box 190 #[.int .u64 0, .int .u64 0, .int .u64 0, .int .u64 0, .bool false];have gX:=C.tidy _ (Nat.le_refl _);have sX:=C.size;(try simp only[drew_size]at BX gX sX);have X:=X.below ((Below.refl _ _).alloc (Nat.le_refl _) (.cells #[.int .u64 0, .int .u64 0, .int .u64 0, .int .u64 0, .bool false] 190));have C:=C.alloc (.cells #[.int .u64 0, .int .u64 0, .int .u64 0, .int .u64 0, .bool false] 190);have Z:=Z.kept (World.grownBy_alloc _ (.cells #[.int .u64 0, .int .u64 0, .int .u64 0, .int .u64 0, .bool false] 190) none) (by simp);refine zc 9 (fun K hK=> ?_);go_simp;refine hK.out _ _ ?_ (fun hHeld=> ?_);focus first | ((with_reducible show World.cell? (World.alloc _ _) _=_);exact(World.grownBy_alloc _ _ none).cell (XA.own.1.cell 5) (by simp)) | exact(X.apart C.tidy hT0 gX (set5 BX _ _ _ _ _).2).own.1.cell 5
    clear hK K;refine zl ?_;refine dnZ ?_;go_wp2_with fail
    go_meet
    first
     | ((with_reducible have mark:World.cell? (World.alloc w3 _) _=_:=hHeld);exact⟨_,rfl,XA.own.1.box _ _,gX,sX,ZA.kept (World.grownBy_alloc _ _ none) (by simp),XA.alloc _,CA.alloc _⟩)
     | exact⟨_,rfl,(set5 BX _ _ _ _ _).1,gX,sX,Z.kept (set5 BX _ _ _ _ _).2 (by have hz:=ZA.lt;intro e;injection e with e;(try simp only[drew_size]at hz);omega),X.apart C.tidy hT0 gX (set5 BX _ _ _ _ _).2,C.by (set5 BX _ _ _ _ _).2 (fun q hq hlt=>by cases hq;omega)⟩
   ·go_simp
    refine hK.out _ _ ?_ (fun hHeld=> ?_);focus exact(World.grownBy_alloc _ _ none).cell hHeld (by simp)
    clear hK K;have XA:=X;have CA:=C;have ZA:=Z;have BX:=X.own.1.box 190 #[.int .u64 0, .int .u64 0, .int .u64 0, .int .u64 0, .bool false];have gX:=C.tidy _ (Nat.le_refl _);have sX:=C.size;(try simp only[drew_size]at BX gX sX);have X:=X.below ((Below.refl _ _).alloc (Nat.le_refl _) (.cells #[.int .u64 0, .int .u64 0, .int .u64 0, .int .u64 0, .bool false] 190));have C:=C.alloc (.cells #[.int .u64 0, .int .u64 0, .int .u64 0, .int .u64 0, .bool false] 190);have Z:=Z.kept (World.grownBy_alloc _ (.cells #[.int .u64 0, .int .u64 0, .int .u64 0, .int .u64 0, .bool false] 190) none) (by simp);refine zc 7 (fun K hK=> ?_);go_simp;refine(CS.out _ X).mono ?_;rintro e w3 ⟨rfl,hP3⟩;have Z:=hP3.other Z (by have:=X.sa.2;rintro rfl;omega);(try have BX:=hP3.other BX (by have:=X.sa.2;intro e;rw[e]at gX;omega));(try obtain⟨y0,y1,y2,y3,y4,yf⟩:=BX.c5);obtain⟨X,c⟩:=X.put_sa C.tidy hP3;have C:=C.trans (c.mono (by omega) (by omega));refine hK.out _ _ ?_ (fun hHeld=> ?_);focus exact X.own.1.cell 5
    clear hK K;refine zl ?_;refine zc 9 (fun K hK=> ?_);go_simp;refine hK.out _ _ ?_ (fun hHeld=> ?_);focus first | ((with_reducible show World.cell? (World.alloc _ _) _=_);exact(World.grownBy_alloc _ _ none).cell (XA.own.1.cell 5) (by simp)) | exact(X.apart C.tidy hT0 gX (set5 BX _ _ _ _ _).2).own.1.cell 5
    clear hK K;refine zl ?_;refine dnZ ?_;go_wp2_with fail
    go_meet
    first
     | ((with_reducible have mark:World.cell? (World.alloc w3 _) _=_:=hHeld);exact⟨_,rfl,XA.own.1.box _ _,gX,sX,ZA.kept (World.grownBy_alloc _ _ none) (by simp),XA.alloc _,CA.alloc _⟩)
     | exact⟨_,rfl,(set5 BX _ _ _ _ _).1,gX,sX,Z.kept (set5 BX _ _ _ _ _).2 (by have hz:=ZA.lt;intro e;injection e with e;(try simp only[drew_size]at hz);omega),X.apart C.tidy hT0 gX (set5 BX _ _ _ _ _).2,C.by (set5 BX _ _ _ _ _).2 (fun q hq hlt=>by cases hq;omega)⟩
  ·go_simp
   refine hK.out _ _ ?_ (fun hHeld=> ?_);focus exact(World.grownBy_alloc _ _ none).cell hHeld (by simp)
   clear hK K;have XA:=X;have CA:=C;have ZA:=Z;have BX:=X.own.1.box 190 #[.int .u64 0, .int .u64 0, .int .u64 0, .int .u64 0, .bool false];have gX:=C.tidy _ (Nat.le_refl _);have sX:=C.size;(try simp only[drew_size]at BX gX sX);have X:=X.below ((Below.refl _ _).alloc (Nat.le_refl _) (.cells #[.int .u64 0, .int .u64 0, .int .u64 0, .int .u64 0, .bool false] 190));have C:=C.alloc (.cells #[.int .u64 0, .int .u64 0, .int .u64 0, .int .u64 0, .bool false] 190);have Z:=Z.kept (World.grownBy_alloc _ (.cells #[.int .u64 0, .int .u64 0, .int .u64 0, .int .u64 0, .bool false] 190) none) (by simp);refine zc 6 (fun K hK=> ?_);go_simp;refine(CF.out _ X).mono ?_;rintro e w2 ⟨rfl,hB2⟩;have C:=C.below hB2;have Z:=Z.below hB2 Z.lt;(try have BX:=BX.below hB2 BX.lt);have X:=X.below hB2;refine hK.out _ _ ?_ (fun hHeld=> ?_);focus exact X.own.1.cell 5
   clear hK K;refine zl ?_;refine zc 7 (fun K hK=> ?_);go_simp;refine(CS.out _ X).mono ?_;rintro e w3 ⟨rfl,hP3⟩;have Z:=hP3.other Z (by have:=X.sa.2;rintro rfl;omega);(try have BX:=hP3.other BX (by have:=X.sa.2;intro e;rw[e]at gX;omega));(try obtain⟨y0,y1,y2,y3,y4,yf⟩:=BX.c5);obtain⟨X,c⟩:=X.put_sa C.tidy hP3;have C:=C.trans (c.mono (by omega) (by omega));refine hK.out _ _ ?_ (fun hHeld=> ?_);focus exact X.own.1.cell 5
   clear hK K;refine zl ?_;refine zc 9 (fun K hK=> ?_);go_simp;refine hK.out _ _ ?_ (fun hHeld=> ?_);focus first | ((with_reducible show World.cell? (World.alloc _ _) _=_);exact(World.grownBy_alloc _ _ none).cell (XA.own.1.cell 5) (by simp)) | exact(X.apart C.tidy hT0 gX (set5 BX _ _ _ _ _).2).own.1.cell 5
   clear hK K;refine zl ?_;refine dnZ ?_;go_wp2_with fail
   go_meet
   first
    | ((with_reducible have mark:World.cell? (World.alloc w3 _) _=_:=hHeld);exact⟨_,rfl,XA.own.1.box _ _,gX,sX,ZA.kept (World.grownBy_alloc _ _ none) (by simp),XA.alloc _,CA.alloc _⟩)
    | exact⟨_,rfl,(set5 BX _ _ _ _ _).1,gX,sX,Z.kept (set5 BX _ _ _ _ _).2 (by have hz:=ZA.lt;intro e;injection e with e;(try simp only[drew_size]at hz);omega),X.apart C.tidy hT0 gX (set5 BX _ _ _ _ _).2,C.by (set5 BX _ _ _ _ _).2 (fun q hq hlt=>by cases hq;omega)⟩
 case rest=>
  obtain⟨N7,rfl,B7,g7,s7,Z7,X7,C7⟩:=hcut;have c4:=X7.own.1.ce 4;obtain⟨q0,q1,q2,q3,q4,_⟩:=B7.c5;have HX7:=zH X7;have HC7:=zH C7;have HZ7:=zH Z7;have HB7:=zH B7;have CA:=zH (bdAgain_any pd k.e k.pcs ⟨ya,yd,yda,yfa,yl⟩ hl);unfold stv at CA;simp only at CA
  have hlo:decide (lostIx k.pcs≠ -1)=k.los:=rfl;clear X7 C7 Z7 B7 CS CF c5 HS1 HC1 HA1;go_upto_region 7 with fail
  go_cut [8,9] (fun v8 v9 wx=> ∃(N8 r1 r2:Nat) (g':Nat→Nat),v8= .pointer (some ⟨N8,0,none⟩)∧v9= .bool k.los∧At wx N8 64 #[.int .u64 r1, .int .u64 r2]∧g' N8=0∧g' N0=0∧g' N7=0∧w.heap.size≤N8∧N7≠N8∧At wx N0 48 sg0∧N0≠N8∧At wx N7 190 #[.int .u64 ya, .int .u64 yd, .int .u64 yda, .int .u64 yfa, .bool yl]∧SkIn wx g' T b pb pd ps B { k with sa:=sentF k.sa now fl,pcs:=if lostIx k.pcs≠ -1 then agL k.pcs ⟨ya,yd,yda,yfa,yl⟩else k.pcs }∧Chg w wx g g' T (T+6)∧(k.los=true→(r1,r2)=agR k.pcs))
  case first=>
   have X:=HX7.out.below ((Below.refl wc.heap.size wc).drew);have C:=HC7.out.drew;have Z:=HZ7.out.drew;have Y:=HB7.out.drew;refine wp_region_held_drew (S:=fun wq=>wq.cell? ⟨b,4,none⟩=some (.pointer (some ⟨pd,0,none⟩))∧wq.cell? ⟨N7,0,none⟩=some (.int .u64 ya)∧wq.cell? ⟨N7,1,none⟩=some (.int .u64 yd)∧wq.cell? ⟨N7,2,none⟩=some (.int .u64 yda)∧wq.cell? ⟨N7,3,none⟩=some (.int .u64 yfa)∧wq.cell? ⟨N7,4,none⟩=some (.bool yl)) (by kernel_rfl) ⟨c4,q0,q1,q2,q3,q4⟩ (fun hHeld=> ?_);refine zt 0 ?_;refine zt 1 ?_;refine zt 2 ?_;refine zt 3 ?_;refine zt 4 ?_;refine rdZ [5,9] ?_;refine(cnZ 5 rfl (fun K hK=> ?_) (cnZ 9 rfl (fun K hK=> ?_) AllReadyH.nil))
   ·go_simp
    refine(CA.out _ (T+2) (by omega) _ C.tidy X.bd).mono ?_;rintro e w5 ⟨r1,r2,g5,rfl,c,hD,hr⟩;have gZ:=(c.old _ Z.lt).trans gN;have gY:=(c.old _ Y.lt).trans g7;have Z:=Z.chg c (by rw[gN];omega);have Y:=Y.chg c (by rw[g7];omega);(try have BXl:=BX.lt);(try have BX:=BX.chg c (by rw[gX];omega));(try have gX:=(c.old _ BXl).trans gX);(try obtain⟨y0,y1,yf⟩:=BX.c2);have X:=X.put_bd c hD;have C:=C.trans (c.mono (by omega) (by omega));refine hK.out _ _ ?_ (fun hHeld=> ?_);focus exact⟨X.own.1.cell 4,Y.cell 0,Y.cell 1,Y.cell 2,Y.cell 3,Y.cell 4⟩
    clear hK K;refine zl ?_;refine zt 6 ?_;refine zt 7 ?_;refine zt 8 ?_;refine zc 9 (fun K hK=> ?_);go_simp;refine hK.out _ _ ?_ (fun hHeld=> ?_);focus obtain⟨h0,h1,h2,h3,h4,h5⟩:=hHeld;exact⟨(World.grownBy_alloc _ _ none).cell h0 (by simp),(World.grownBy_alloc _ _ none).cell h1 (by simp),(World.grownBy_alloc _ _ none).cell h2 (by simp),(World.grownBy_alloc _ _ none).cell h3 (by simp),(World.grownBy_alloc _ _ none).cell h4 (by simp),(World.grownBy_alloc _ _ none).cell h5 (by simp)⟩
    clear hK K;have XA:=X;have CA2:=C;have ZA:=Z;have YA:=Y;have BX:=X.own.1.box 64 #[.int .u64 0, .int .u64 0];have gX:=C.tidy _ (Nat.le_refl _);have sX:=C.size;(try simp only[drew_size]at BX gX sX);have X:=X.alloc (.cells #[.int .u64 0, .int .u64 0] 64);have C:=C.alloc (.cells #[.int .u64 0, .int .u64 0] 64);have Z:=Z.kept (World.grownBy_alloc _ (.cells #[.int .u64 0, .int .u64 0] 64) none) (by simp);have Y:=Y.kept (World.grownBy_alloc _ (.cells #[.int .u64 0, .int .u64 0] 64) none) (by simp);have nY:=Nat.ne_of_lt YA.lt;have nZ:=Nat.ne_of_lt ZA.lt;(try simp only[drew_size]at nY nZ);refine zc 10 (fun K hK=> ?_);go_simp;refine hK.out _ _ ?_ (fun hHeld=> ?_);focus first | ((with_reducible show World.cell? (World.alloc _ _) _=_∧_);have YB:=YA.kept (World.grownBy_alloc _ (.cells #[.int .u64 r1, .int .u64 r2] 64) none) (by simp);exact⟨(World.grownBy_alloc _ _ none).cell (XA.own.1.cell 4) (by simp),YB.cell 0,YB.cell 1,YB.cell 2,YB.cell 3,YB.cell 4⟩) | (have P:=set2 BX (.int .u64 r1) (.int .u64 r2);have YB:=Y.kept P.2 (by intro e;injection e with e;exact nY e);exact⟨(X.apart C.tidy hT0 gX P.2).own.1.cell 4,YB.cell 0,YB.cell 1,YB.cell 2,YB.cell 3,YB.cell 4⟩)
    clear hK K;refine zl ?_;refine zt 11 ?_;refine dnZ ?_;go_wp2_with fail
    go_meet
    first
     | ((with_reducible have mark:World.cell? (World.alloc w5 _) _=_:=hHeld.1);exact⟨_,r1,r2,g5,rfl,rfl,XA.own.1.box _ _,gX,gZ,gY,sX,nY,ZA.kept (World.grownBy_alloc _ _ none) (by simp),nZ,YA.kept (World.grownBy_alloc _ _ none) (by simp),XA.alloc _,CA2.alloc _,fun h=>hr (of_decide_eq_true (hlo.trans h))⟩)
     | (have P:=set2 BX (.int .u64 r1) (.int .u64 r2);exact⟨_,r1,r2,g5,rfl,rfl,P.1,gX,gZ,gY,sX,nY,Z.kept P.2 (by intro e;injection e with e;exact nZ e),nZ,Y.kept P.2 (by intro e;injection e with e;exact nY e),X.apart C.tidy hT0 gX P.2,C.by P.2 (fun q hq hlt=>by cases hq;omega),fun h=>hr (of_decide_eq_true (hlo.trans h))⟩)
   ·go_simp
    refine hK.out _ _ ?_ (fun hHeld=> ?_);focus obtain⟨h0,h1,h2,h3,h4,h5⟩:=hHeld;exact⟨(World.grownBy_alloc _ _ none).cell h0 (by simp),(World.grownBy_alloc _ _ none).cell h1 (by simp),(World.grownBy_alloc _ _ none).cell h2 (by simp),(World.grownBy_alloc _ _ none).cell h3 (by simp),(World.grownBy_alloc _ _ none).cell h4 (by simp),(World.grownBy_alloc _ _ none).cell h5 (by simp)⟩
    clear hK K;have XA:=X;have CA2:=C;have ZA:=Z;have YA:=Y;have BX:=X.own.1.box 64 #[.int .u64 0, .int .u64 0];have gX:=C.tidy _ (Nat.le_refl _);have sX:=C.size;(try simp only[drew_size]at BX gX sX);have X:=X.alloc (.cells #[.int .u64 0, .int .u64 0] 64);have C:=C.alloc (.cells #[.int .u64 0, .int .u64 0] 64);have Z:=Z.kept (World.grownBy_alloc _ (.cells #[.int .u64 0, .int .u64 0] 64) none) (by simp);have Y:=Y.kept (World.grownBy_alloc _ (.cells #[.int .u64 0, .int .u64 0] 64) none) (by simp);have nY:=Nat.ne_of_lt YA.lt;have nZ:=Nat.ne_of_lt ZA.lt;(try simp only[drew_size]at nY nZ);refine zc 5 (fun K hK=> ?_);go_simp;refine(CA.out _ (T+2) (by omega) _ C.tidy X.bd).mono ?_;rintro e w5 ⟨r1,r2,g5,rfl,c,hD,hr⟩;have gZ:=(c.old _ Z.lt).trans gN;have gY:=(c.old _ Y.lt).trans g7;have Z:=Z.chg c (by rw[gN];omega);have Y:=Y.chg c (by rw[g7];omega);(try have BXl:=BX.lt);(try have BX:=BX.chg c (by rw[gX];omega));(try have gX:=(c.old _ BXl).trans gX);(try obtain⟨y0,y1,yf⟩:=BX.c2);have X:=X.put_bd c hD;have C:=C.trans (c.mono (by omega) (by omega));refine hK.out _ _ ?_ (fun hHeld=> ?_);focus exact⟨X.own.1.cell 4,Y.cell 0,Y.cell 1,Y.cell 2,Y.cell 3,Y.cell 4⟩
    clear hK K;refine zl ?_;refine zt 6 ?_;refine zt 7 ?_;refine zt 8 ?_;refine zc 10 (fun K hK=> ?_);go_simp;refine hK.out _ _ ?_ (fun hHeld=> ?_);focus first | ((with_reducible show World.cell? (World.alloc _ _) _=_∧_);have YB:=YA.kept (World.grownBy_alloc _ (.cells #[.int .u64 r1, .int .u64 r2] 64) none) (by simp);exact⟨(World.grownBy_alloc _ _ none).cell (XA.own.1.cell 4) (by simp),YB.cell 0,YB.cell 1,YB.cell 2,YB.cell 3,YB.cell 4⟩) | (have P:=set2 BX (.int .u64 r1) (.int .u64 r2);have YB:=Y.kept P.2 (by intro e;injection e with e;exact nY e);exact⟨(X.apart C.tidy hT0 gX P.2).own.1.cell 4,YB.cell 0,YB.cell 1,YB.cell 2,YB.cell 3,YB.cell 4⟩)
    clear hK K;refine zl ?_;refine zt 11 ?_;refine dnZ ?_;go_wp2_with fail
    go_meet
    first
     | ((with_reducible have mark:World.cell? (World.alloc w5 _) _=_:=hHeld.1);exact⟨_,r1,r2,g5,rfl,rfl,XA.own.1.box _ _,gX,gZ,gY,sX,nY,ZA.kept (World.grownBy_alloc _ _ none) (by simp),nZ,YA.kept (World.grownBy_alloc _ _ none) (by simp),XA.alloc _,CA2.alloc _,fun h=>hr (of_decide_eq_true (hlo.trans h))⟩)
     | (have P:=set2 BX (.int .u64 r1) (.int .u64 r2);exact⟨_,r1,r2,g5,rfl,rfl,P.1,gX,gZ,gY,sX,nY,Z.kept P.2 (by intro e;injection e with e;exact nZ e),nZ,Y.kept P.2 (by intro e;injection e with e;exact nY e),X.apart C.tidy hT0 gX P.2,C.by P.2 (fun q hq hlt=>by cases hq;omega),fun h=>hr (of_decide_eq_true (hlo.trans h))⟩)
  case rest=>
   obtain⟨N8,r1,r2,g8,rfl,rfl,B8,g8N,g8Z,g8Y,s8,ne78,Z8,ne08,Y8,X8,C8,hr8⟩:=hcut;have HX8:=zH X8;have HC8:=zH C8;have HZ8:=zH Z8;have HB8:=zH B8;have HY8:=zH Y8;clear X8 C8 Z8 B8 Y8 CA c4 q0 q1 q2 q3 q4 HX7 HC7 HZ7 HB7;go_upto_if 38 with fail
   go_cut [9] (fun v9 wx=>v9= .bool k.los∧ ∃(g':Nat→Nat),g' N0=0∧g' N8=0∧At wx N8 64 #[.int .u64 (k.rg.1:Nat), .int .u64 (k.rg.2:Nat)]∧At wx N0 48 sg0∧SkIn wx g' T b pb pd ps B (k.brd now)∧Chg w wx g g' T (T+6))
   case first=>
    cases hl:k.los with
    | true=>
     have h8:=hr8 hl;have hne:lostIx k.pcs≠ -1:=of_decide_eq_true (hlo.trans hl);rw[if_pos hne]at HX8;go_wp2_with fail
     go_meet
     refine⟨by rw[hl],g8,g8Z,g8N, ?_,HZ8.out, ?_,HC8.out⟩
     ·rw[SK.rg_los hl,←h8];exact HB8.out
     ·rw[SK.brd_los hl,HSN.out,HFL.out];exact HX8.out
    | false=>
     have hne: ¬ lostIx k.pcs≠ -1:=of_decide_eq_false (hlo.trans hl);rw[if_neg hne]at HX8;have c3:=HX8.out.own.1.ce 3;have t1:=tsoF_le k.bb.rate k.mss HK.out.m1 HK.out.m2;have t2:=tsoF_ge k.bb.rate k.mss HK.out.m1;have hu:=HZ1.out hl;obtain⟨NN,eN⟩: ∃ z,min k.tso k.uns=z:=⟨_,rfl⟩;have hNN:NN≤k.uns∧1≤NN:=by have:k.tso=tsoF k.bb.rate k.mss:=rfl;omega
     have CT:=zH (fun w' h=>sktso_any b pb pd ps B { k with sa:=sentF k.sa now fl } HK.out.bb.rate HK.out.m1 HK.out.m2 g8 T w' h);have CB:=zH (fun w' (h:SkIn w' g8 T b pb pd ps B { k with sa:=sentF k.sa now fl })=>btk_some pb k.bf k.tso NN HK.out.bf (by show 1≤tsoF _ _;omega) (by show tsoF _ _≤_;omega) hu eN w' h.bf.1);have ets:SK.tso { k with sa:=sentF k.sa now fl }=k.tso:=rfl;rw[ets]at CT;obtain⟨tz,etz⟩: ∃ z,k.tso=z:=⟨_,rfl⟩;rw[etz]at CT CB;have hrg:k.rg=(k.bf.tk,k.bf.tk+NN):=by unfold SK.rg;rw[hl,eN];rfl
     have hbr:k.brd now={ k with sa:=sentF k.sa now fl,bf:=btkF k.bf NN,pcs:=k.pcs++[⟨k.e,k.bf.tk+NN,⟨ya,yd,yda,yfa,yl⟩,false,false⟩],e:=k.bf.tk+NN }:=by
      unfold SK.brd;rw[hl,eN,HSN.out,HFL.out];rfl
     obtain⟨tl,etl⟩: ∃ z,k.bf.tk+NN=z:=⟨_,rfl⟩;have hke:=HK.out.e;have CN:=zH (fun w' g' (h:BdAt w' g' (T+2) pd k.pcs k.e) hT'=>bdSent_any pd tl k.e k.pcs ⟨ya,yd,yda,yfa,yl⟩ (HZ4.out hl) (by omega) g' (T+2) (by omega) w' hT' h);unfold stv at CN;simp only at CN
     rw[hke]at CN;rw[etl]at CB hrg hbr;rw[hke]at hbr;have HRG1:=zH hrg;have HBR:=zH hbr;obtain⟨tk,etk⟩: ∃ z,k.bf.tk=z:=⟨_,rfl⟩;rw[etk]at CN CB;have HKE:=zH hke;have HTK:=zH etk;clear hke etk hrg hbr etl etz eN hNN hu t1 t2 ets hne hr8;obtain⟨o0,o1,of⟩:=HB8.out.c2;go_wp2_with fail
     refine wp_region_held_drew (S:=fun wq=>wq.cell? ⟨b,3,none⟩=some (.pointer (some ⟨pb,0,none⟩))) (by kernel_rfl) c3 (fun hHeld=> ?_);refine zt 0 ?_;refine zt 1 ?_;refine zt 2 ?_;refine zt 3 ?_;refine zt 4 ?_;refine zc 5 (fun K hK=> ?_);go_simp;refine(CT.out _ (HX8.out.below (Below.drew (Below.refl _ _)))).mono ?_;rintro e w5 ⟨rfl,hB5⟩;have hB5:=(Below.refl wc.heap.size wc).drew.trans hB5;have X:=HX8.out.below hB5;have C:=HC8.out.below hB5;have Z:=HZ8.out.below hB5 HZ8.out.lt;have Y:=HY8.out.below hB5 HY8.out.lt;have BX:=HB8.out.below hB5 HB8.out.lt;refine hK.out _ _ ?_ (fun hHeld=> ?_);focus exact X.own.1.cell 3
     clear hK K;refine zl ?_;refine zc 6 (fun K hK=> ?_);go_simp;refine(CB.out _ X).mono ?_;rintro e w6 ⟨rfl,hP⟩;have Z:=hP.other Z (by have:=X.bf.2;rintro rfl;omega);have Y:=hP.other Y (by have:=X.bf.2;rintro rfl;omega);have BX:=hP.other BX (by have:=X.bf.2;rintro rfl;omega);obtain⟨y0,y1,yf⟩:=BX.c2;obtain⟨X,c⟩:=X.put_bf C.tidy hP;have C:=C.trans (c.mono (by omega) (by omega));refine hK.out _ _ ?_ (fun hHeld=> ?_);focus exact X.own.1.cell 3
     clear hK K;refine zl ?_;refine zt 7 ?_;refine zt 8 ?_;refine zt 9 ?_;refine zc 10 (fun K hK=> ?_);go_simp;refine hK.out _ _ ?_ (fun hHeld=> ?_);focus exact(X.apart C.tidy hT0 g8N (set2 BX _ _).2).own.1.cell 3
     clear hK K;refine zl ?_;refine dnZ ?_;have P:=set2 BX (.int .u64 (tk:Nat)) (.int .u64 (tl:Nat));go_upto_region 10 with fail
     refine wp_named (fun W=>At W N8 64 #[.int .u64 (tk:Nat), .int .u64 (tl:Nat)]∧At W N0 48 sg0∧At W N7 190 #[.int .u64 ya, .int .u64 yd, .int .u64 yda, .int .u64 yfa, .bool yl]∧SkIn W g8 T b pb pd ps B { k with sa:=sentF k.sa now fl,bf:=btkF k.bf NN }∧Chg w W g g8 T (T+6)) ⟨P.1,Z.kept P.2 (by intro e;injection e with e;exact ne08 e),Y.kept P.2 (by intro e;injection e with e;exact ne78 e),X.apart C.tidy hT0 g8N P.2,C.by P.2 (fun q hq hlt=>by cases hq;omega)⟩ (fun W hW=> ?_);clear P X C Z Y BX y0 y1 yf hP hB5 hHeld c3 o0 o1 of HX8 HC8 HZ8 HY8 HB8 CT CB;obtain⟨B9,Z9,Y9,X9,C9⟩:=hW;have c4:=X9.own.1.ce 4;obtain⟨o0,o1,_⟩:=B9.c2;obtain⟨q0,q1,q2,q3,q4,_⟩:=Y9.c5;have HX9:=zH X9;have HC9:=zH C9;have HB9:=zH B9;have HZ9:=zH Z9;have HY9:=zH Y9;clear X9 C9 B9 Z9 Y9;refine wp_region_held_drew (S:=fun wq=>wq.cell? ⟨b,4,none⟩=some (.pointer (some ⟨pd,0,none⟩))∧wq.cell? ⟨N8,0,none⟩=some (.int .u64 (tk:Nat))∧wq.cell? ⟨N8,1,none⟩=some (.int .u64 (tl:Nat))∧wq.cell? ⟨N7,0,none⟩=some (.int .u64 ya)∧wq.cell? ⟨N7,1,none⟩=some (.int .u64 yd)∧wq.cell? ⟨N7,2,none⟩=some (.int .u64 yda)∧wq.cell? ⟨N7,3,none⟩=some (.int .u64 yfa)∧wq.cell? ⟨N7,4,none⟩=some (.bool yl)) (by kernel_rfl) ⟨c4,o0,o1,q0,q1,q2,q3,q4⟩ (fun hHeld=> ?_);refine zt 0 ?_;refine zt 1 ?_;refine zt 2 ?_;refine zt 3 ?_;refine zt 4 ?_;refine zt 5 ?_;refine zt 6 ?_;refine zt 7 ?_;refine zt 8 ?_
     refine zc 9 (fun K hK=> ?_);go_simp;refine(CN.out _ _ (by have t:=HX9.out.bd;have e:=HKE.out.trans HTK.out;simp only at t;rw[e]at t;exact t.below (Below.refl _ _).drew) HC9.out.tidy.drew).mono ?_;rintro e w5 ⟨rfl,g5,c,hD⟩;have B:=HB9.out.drew.chg c (by rw[g8N];omega);have Y:=HY9.out.drew.chg c (by rw[g8Y];omega);have X:=(HX9.out.below (Below.refl _ _).drew).put_bd c hD;refine hK.out _ _ ?_ (fun hHeld=> ?_);focus exact⟨X.own.1.cell 4,B.cell 0,B.cell 1,Y.cell 0,Y.cell 1,Y.cell 2,Y.cell 3,Y.cell 4⟩
     clear hK K;refine zl ?_;refine dnZ ?_;go_wp2_with fail
     go_meet
     refine⟨by rw[hl],g5,(c.old _ HZ9.out.lt).trans g8Z,(c.old _ HB9.out.lt).trans g8N, ?_,HZ9.out.drew.chg c (by rw[g8Z];omega), ?_,HC9.out.drew.trans (c.mono (by omega) (by omega))⟩
     ·rw[HRG1.out,←HTK.out]at*;exact B
     ·rw[HBR.out,HTK.out];exact X
   case rest=>
    obtain⟨rfl,gA,gA0,gA8,hBx,Z,X,C⟩:=hcut;obtain⟨h12,h13,h14⟩:=HRG.out;obtain⟨ln,eln⟩: ∃ z,k.rg.2-k.rg.1=z:=⟨_,rfl⟩;have hln:ln≤65536∧1≤ln:=by omega
    obtain⟨r1',er1⟩: ∃ z,k.rg.1=z:=⟨_,rfl⟩;obtain⟨r2',er2⟩: ∃ z,k.rg.2=z:=⟨_,rfl⟩;rw[er1,er2]at hBx eln h12 h13;rw[er2]at h14;have e1:IntKind.u64.wrap ((r2':Int)-r1')=(ln:Int):=by rw[show(r2':Int)-r1'=(ln:Int)from by omega];exact wrapu_of _ (by omega)
    have e2:=max_cast now k.at_;obtain⟨st,est⟩: ∃ z,max now k.at_=z:=⟨_,rfl⟩;rw[est]at e2;have eX:k.emitX now=⟨k.id,r1',ln,st,k.los⟩:=by unfold SK.emitX;rw[er1,er2,eln,est]
    obtain⟨dl,edl⟩: ∃ z,delayOf (ln:Int) k.bb.rate=z:=⟨_,rfl⟩;obtain⟨sm,esm⟩: ∃ z,satAdd st dl=z:=⟨_,rfl⟩;obtain⟨ot,eot⟩: ∃ z,k.out+ln=z:=⟨_,rfl⟩;have eF:k.emitF now={ k.brd now with at_:=sm,out:=ot }:=by unfold SK.emitF;rw[er1,er2,eln,est,edl,esm,eot]
    obtain⟨k2,ek2⟩: ∃ z,k.brd now=z:=⟨_,rfl⟩;have hk2:k2.id=k.id∧k2.at_=k.at_∧k2.out=k.out∧k2.bb=k.bb:=by
     rw[←ek2];unfold SK.brd;split<;>exact⟨rfl,rfl,rfl,rfl⟩
    rw[ek2]at X eF;have HEX:=zH eX;have HEF:=zH eF;obtain⟨p1,p2,p3,p4⟩:=hk2;have CO:=zH (fun w'=>of_any (ln:Int) k.bb.rate (by omega) (by omega) HK.out.bb.rate w');rw[edl]at CO;have CD:=zH (fun w'=>add_any st dl (by have:=HK.out.at_;omega) (by have:=delayOf_le (ln:Int) k.bb.rate;omega) w');rw[esm]at CD;have hot:ot<18446744073709551616:=by have:=HK.out.out;omega
    have e3:IntKind.u64.wrap ((k.out:Int)+ln)=(ot:Int):=by rw[show(k.out:Int)+ln=(ot:Int)from by omega];exact wrapu_of _ hot
    have d0:wc.cell? ⟨b,0,none⟩=some (.int .i64 k.id):=by rw[←p1];exact X.own.1.cell 0
    have d8:wc.cell? ⟨b,8,none⟩=some (.int .u64 k.at_):=by rw[←p2];exact X.own.1.cell 8
    obtain⟨o0,o1,of⟩:=hBx.c2;have HX:=zH X;have HC:=zH C;have HZ:=zH Z;have HP:=zH (And.intro p1 (And.intro p2 (And.intro p3 p4)));clear X C Z hBx edl esm eot eX eF ek2 p1 p2 p3 p4 HRG HSN HFL HK HZ1 HZ4 est er1 er2 eln hot h12 h13 h14;go_upto_region 11 with fail
    refine wp_region_held_drew (S:=fun wq=>wq.cell? ⟨b,0,none⟩=some (.int .i64 k.id)∧wq.cell? ⟨b,8,none⟩=some (.int .u64 k.at_)∧wq.cell? ⟨N8,0,none⟩=some (.int .u64 r1')∧wq.cell? ⟨N8,1,none⟩=some (.int .u64 r2')) (by kernel_rfl) ⟨d0,d8,o0,o1⟩ (fun hHeld=> ?_);refine zt 0 ?_;refine zt 1 ?_;refine zt 2 ?_;refine zt 3 ?_;refine zt 4 ?_;refine zt 5 ?_;refine zt 6 ?_;refine zt 7 ?_;refine zt 8 ?_;refine zt 9 ?_;refine zt 10 ?_;refine zt 11 ?_;refine zt 12 ?_;refine zt 13 ?_;refine zt 14 ?_;refine zt 15 ?_;refine zt 16 ?_;refine zt 17 ?_;refine zt 18 ?_;refine zt 19 ?_;refine zc 20 (fun K hK=> ?_);go_simp;refine hK.out _ _ ?_ (fun hHeld=> ?_);focus obtain⟨h0,h1,h2,h3⟩:=hHeld;exact⟨(World.grownBy_alloc _ _ none).cell h0 (by simp),(World.grownBy_alloc _ _ none).cell h1 (by simp),(World.grownBy_alloc _ _ none).cell h2 (by simp),(World.grownBy_alloc _ _ none).cell h3 (by simp)⟩
    clear hK K;refine zl ?_;refine zc 21 (fun K hK=> ?_);go_simp;refine hK.out _ _ ?_ (fun hHeld=> ?_);focus exact⟨cell_drew ((World.grownBy_alloc _ _ none).cell d0 (by simp)),cell_drew ((World.grownBy_alloc _ _ none).cell d8 (by simp)),cell_drew ((World.grownBy_alloc _ _ none).cell o0 (by simp)),cell_drew ((World.grownBy_alloc _ _ none).cell o1 (by simp))⟩
    clear hK K;refine zl ?_;refine dnZ ?_;have ew:IntKind.i64.wrap (ln:Int)=(ln:Int):=i64w ln (by omega);have gN10:=HC.out.tidy _ (Nat.le_refl _);have sN10:=HC.out.size;have nN10:=Nat.ne_of_lt HZ.out.lt;obtain⟨N10,e10⟩: ∃ z,wc.heap.size=z:=⟨_,rfl⟩;rw[e10]at gN10 sN10 nN10;go_upto_region 12 with fail
    refine wp_named (fun W=>At W N10 48 #[.int .i64 k.id, .int .u64 r1', .int .i64 ln, .int .u64 st, .bool k.los]∧At W N0 48 sg0∧SkIn W gA T b pb pd ps B k2∧Chg w W g gA T (T+6)) ⟨by rw[ew,←e10];exact(At.made wc _ _).drew,(HZ.out.kept (World.grownBy_alloc wc _ none) (by simp)).drew,(HX.out.alloc _).below (Below.refl _ _).drew,(HC.out.alloc _).drew⟩ (fun W hW=> ?_);rw[e10];clear ew e10 d0 d8 o0 o1 of hHeld HZ HX HC;obtain⟨Q,Z,X,C⟩:=hW;have q2:=Q.ce 2;have q3:=Q.ce 3;have d6:=X.own.1.ce 6;have CM:=zH (fun w' (h:SkIn w' gA T b pb pd ps B k2)=>bstate_any B k2.bb w' h.bb);rw[HP.out.2.2.2]at CM;unfold mdv at CM;have hF: ∀ w,(Instr.field 35 (.agg #[.int .i64 (k.bb.mode:Nat), .int .i64 (k.bb.cp:Nat), .int .u64 (k.bb.rate:Nat), .int .u64 (k.bb.cwnd:Nat), .int .u64 (k.bb.bw:Nat), .int .u64 (k.bb.pr.best:Nat), .int .u64 (k.bb.gain:Nat), .int .u64 (k.bb.rn.n:Nat), .bool k.bb.pp.full, .bool k.bb.pl.use]) 2).run Tryz.prog w= .ok (.int .u64 (k.bb.rate:Nat)) w:=fun _=>by kernel_rfl
    have HQ:=zH Q;have HZ:=zH Z;have HX:=zH X;have HC:=zH C;clear Q Z X C;refine wp_region_held_drew (S:=fun wq=>wq.cell? ⟨N10,2,none⟩=some (.int .i64 ln)∧wq.cell? ⟨N10,3,none⟩=some (.int .u64 st)∧wq.cell? ⟨b,6,none⟩=some (.pointer (some ⟨B+6,0,none⟩))) (by kernel_rfl) ⟨q2,q3,d6⟩ (fun hHeld=> ?_);refine zt 0 ?_;refine zt 1 ?_;refine zt 2 ?_;refine zt 3 ?_;refine zt 4 ?_;refine zt 5 ?_;refine zt 6 ?_;refine zt 7 ?_;refine zt 8 ?_;refine zc 9 (fun K hK=> ?_);go_simp;refine(CM.out _ (HX.out.below (Below.refl _ _).drew)).mono ?_;rintro e w5 ⟨rfl,hB5⟩;have hB5:=(Below.refl W.heap.size W).drew.trans hB5;have Q:=HQ.out.below hB5 HQ.out.lt;have Z:=HZ.out.below hB5 HZ.out.lt;have X:=HX.out.below hB5;have C:=HC.out.below hB5;have d8:w5.cell? ⟨b,8,none⟩=some (.int .u64 k2.at_):=X.own.1.cell 8;have f8:=X.own.1.free 8;refine hK.out _ _ ?_ (fun hHeld=> ?_);focus exact⟨Q.cell 2,Q.cell 3,X.own.1.cell 6⟩
    clear hK K;refine zl ?_;refine zt 10 ?_;refine zc 11 (fun K hK=> ?_);go_simp;refine(CO.out _).mono ?_;rintro e w6 ⟨rfl,rfl⟩;refine hK.out _ _ ?_ (fun hHeld=> ?_);focus exact hHeld
    clear hK K;refine zl ?_;refine zc 12 (fun K hK=> ?_);go_simp;refine(CD.out _).mono ?_;rintro e w6 ⟨rfl,rfl⟩;refine hK.out _ _ ?_ (fun hHeld=> ?_);focus exact hHeld
    clear hK K;refine zl ?_;refine zt 13 ?_;refine zt 14 ?_;refine zc 15 (fun K hK=> ?_);go_simp;refine hK.out _ _ ?_ (fun hHeld=> ?_);focus exact⟨((Put.set (u:= .int .u64 (sm:Nat)) X.own.1 8).other Q (by have:=X.own.2;rintro rfl;omega)).cell 2,((Put.set (u:= .int .u64 (sm:Nat)) X.own.1 8).other Q (by have:=X.own.2;rintro rfl;omega)).cell 3,(Put.set (u:= .int .u64 (sm:Nat)) X.own.1 8).1.cell 6⟩
    clear hK K;refine zl ?_;refine dnZ ?_;have P8:=Put.set (u:= .int .u64 (sm:Nat)) X.own.1 8;obtain⟨X8,C8⟩:=X.put_own (k':={ k2 with at_:=sm }) C.tidy P8;go_upto_region 13 with fail
    refine wp_named (fun W=>At W N10 48 #[.int .i64 k.id, .int .u64 r1', .int .i64 ln, .int .u64 st, .bool k.los]∧At W N0 48 sg0∧SkIn W gA T b pb pd ps B { k2 with at_:=sm }∧Chg w W g gA T (T+6)) ⟨P8.other Q (by have:=X.own.2;rintro rfl;omega),P8.other Z (by have:=X.own.2;rintro rfl;omega),X8,C.trans (C8.mono (Nat.le_refl _) (by omega))⟩ (fun W2 hW=> ?_);clear P8 X8 C8 X C Z Q hB5 hHeld d8 f8 q2 q3 d6 HQ HZ HX HC CM hF;obtain⟨Q,Z,X,C⟩:=hW;have q2:=Q.ce 2;have d7:W2.cell? ⟨b,7,none⟩=some (.int .u64 k.out):=by rw[←HP.out.2.2.1];exact X.own.1.cell 7
    have f7:=X.own.1.free 7;have HQ:=zH Q;have HZ:=zH Z;have HX:=zH X;have HC:=zH C;have elw:IntKind.u64.wrap (ln:Int)=(ln:Int):=wrapu_of _ (by omega);clear Q Z X C;refine wp_region_held_drew (S:=fun wq=>wq.cell? ⟨N10,2,none⟩=some (.int .i64 ln)) (by kernel_rfl) q2 (fun hHeld=> ?_);refine zt 0 ?_;refine zt 1 ?_;refine zt 2 ?_;refine zt 4 ?_;refine zt 5 ?_;refine zt 6 ?_;refine zc 3 (fun K hK=> ?_);go_simp;refine hK.out _ _ ?_ (fun hHeld=> ?_);focus exact hHeld
    clear hK K;refine zl ?_;refine zt 7 ?_;refine zt 8 ?_;refine zt 9 ?_;refine zc 10 (fun K hK=> ?_);go_simp;refine hK.out _ _ ?_ (fun hHeld=> ?_);focus exact cell_drew (((Put.set (u:= .int .u64 (ot:Nat)) HX.out.own.1 7).other HQ.out (by have:=HX.out.own.2;rintro rfl;omega)).cell 2)
    clear hK K;refine zl ?_;refine dnZ ?_;have P7:=Put.set (u:= .int .u64 (ot:Nat)) HX.out.own.1 7;obtain⟨X7,C7⟩:=HX.out.put_own (k':={ k2 with at_:=sm,out:=ot }) HC.out.tidy P7;go_upto_region 14 with fail
    refine wp_named (fun W=>At W N10 48 #[.int .i64 k.id, .int .u64 r1', .int .i64 ln, .int .u64 st, .bool k.los]∧At W N0 48 sg0∧SkIn W gA T b pb pd ps B { k2 with at_:=sm,out:=ot }∧Chg w W g gA T (T+6)) ⟨(P7.other HQ.out (by have:=HX.out.own.2;rintro rfl;omega)).drew,(P7.other HZ.out (by have:=HX.out.own.2;rintro rfl;omega)).drew,X7.below (Below.refl _ _).drew,(HC.out.trans (C7.mono (Nat.le_refl _) (by omega))).drew⟩ (fun W3 hW=> ?_);clear P7 X7 C7 hHeld f7 q2 d7 HQ HZ HX HC;obtain⟨Q,Z,X,C⟩:=hW;obtain⟨q0,q1,q2,q3,q4,qf⟩:=Q.c5;obtain⟨z0,z1,z2,z3,z4,zf⟩:=Z.c5;have HQ:=zH Q;have HZ:=zH Z;have HX:=zH X;have HC:=zH C;clear Q Z X C;go_wp2_with fail
    have P:=set5 HZ.out (.int .i64 k.id) (.int .u64 r1') (.int .i64 ln) (.int .u64 st) (.bool k.los);have x0:=P.1.cell 0;have x1:=P.1.cell 1;have x2:=P.1.cell 2;have x3:=P.1.cell 3;have x4:=P.1.cell 4;simp only[List.getElem?_toArray,List.getElem?_cons_zero,List.getElem?_cons_succ]at x0 x1 x2 x3 x4;rw[HEX.out,HEF.out];refine bodyPost_ret (v:= .tuple #[sgv ⟨k.id,r1',ln,st,k.los⟩, .int .i64 0]) ?_ rfl ⟨rfl,gA, ?_, ?_⟩
    ·simp[results,Tryz.f102,go_sem,sgv,x0,x1,x2,x3,x4]
    ·exact HC.out.by P.2 (fun q hq hlt=>by cases hq;omega)
    ·exact HX.out.apart HC.out.tidy hT0 gA0 P.2
end
section
open Go.RowKit Go.Lib
def SK.lrn (k:SK) (now lost:Nat):SK:={ k with sa:=takeF k.sa,bb:=k.bb.update (takeV k.sa now lost k.fl) k.tso }
theorem takeV_big {k:SK} (hk:k.ok) {now lost:Nat} (hn:now<18446744073709551616) (hl:lost<18446744073709551616):(takeV k.sa now lost k.fl).big:=by
 obtain⟨s1,s2,s3,s4,s5⟩:=hk.sa;obtain⟨z1,z2,z3,z4⟩:=hk.sa2;have hf:=k.fl_lt;unfold takeV;split
 ·exact⟨hn,s1,z1,by have:=satSub_lt (b:=k.sa.priorAt) hn;show max _ _<_;omega,z3,s4,hl,hf⟩
 ·exact⟨hn,s1,by show 0<_;omega,by show 0<_;omega,by show 0<_;omega,by show 0<_;omega,hl,hf⟩
theorem sklearn_any (b pb pd ps B now lost:Nat) (hnow:now<18446744073709551616) (hlost:lost<18446744073709551616) (k:SK) (hk:k.ok) (g:Nat→Nat) (T:Nat) (w:World) (hT:Tidy w g) (h:SkIn w g T b pb pd ps B k):
  Calls Tryz.prog 133 #[.pointer (some ⟨b,0,none⟩), .int .u64 now, .int .u64 lost] w fun e w'=>e= .returned (.tuple #[])∧Chg w w' g g T (T+6)∧SkIn w' g T b pb pd ps B (k.lrn now lost):=by
 have hl:k.pcs.length≤5000:=by have:=hk.len;omega
 have c5:=h.own.1.ce 5;have c6:=h.own.1.ce 6;have CF:=zH (fun w' h=>skfl_any b pb pd ps B k hl g T w' h);rw[k.fl_eq]at CF;have CK:=zH (fun w' (h:SkIn w' g T b pb pd ps B k)=>take_any ps k.sa now lost k.fl hk.sa hnow w' h.sa.1);have t1:=tsoF_le k.bb.rate k.mss hk.m1 hk.m2;have CT:=zH (fun w' h=>sktso_any b pb pd ps B { k with sa:=takeF k.sa } hk.bb.rate hk.m1 hk.m2 g T w' h);have ets:SK.tso { k with sa:=takeF k.sa }=k.tso:=rfl;rw[ets]at CT;have etw:IntKind.u64.wrap (k.tso:Int)=(k.tso:Int):=wrapu_of _ (by show tsoF _ _<_;omega);have CU:=zH (fun w' (h:SkIn w' g T b pb pd ps B { k with sa:=takeF k.sa })=>bupdate_any B k.bb hk.bb (takeV k.sa now lost k.fl) (takeV_big hk hnow hlost) k.tso (by show tsoF _ _<_;omega) w' h.bb);unfold SK.lrn;obtain⟨fl,efl⟩: ∃ z,k.fl=z:=⟨_,rfl⟩;rw[efl]at CF CK CU ⊢;obtain⟨tz,etz⟩: ∃ z,k.tso=z:=⟨_,rfl⟩;rw[etz]at CT CU etw ⊢;have HT:=zH hT;have HH:=zH h;clear h hT hk efl etz ets t1;go_enter Tryz.func133,Tryz.ntmps133
 go_upto_region 0 with fail
 refine wp_region_held_drew (S:=fun wq=>wq.cell? ⟨b,5,none⟩=some (.pointer (some ⟨ps,0,none⟩))∧wq.cell? ⟨b,6,none⟩=some (.pointer (some ⟨B+6,0,none⟩))) (by kernel_rfl) ⟨c5,c6⟩ (fun hHeld=> ?_);refine zt 0 ?_;refine zt 1 ?_;refine zt 2 ?_;refine zt 3 ?_;refine zt 4 ?_;refine zt 5 ?_;refine zt 6 ?_;refine zt 7 ?_;refine zt 8 ?_;refine zt 9 ?_;refine zt 10 ?_;refine zt 13 ?_;refine zc 11 (fun K hK=> ?_);go_simp;refine(CF.out _ (HH.out.below (Below.refl _ _).drew)).mono ?_;rintro e w2 ⟨rfl,hB⟩;have hB:=(Below.refl w.heap.size w).drew.trans hB;have X:=HH.out.below hB;have C:=(Chg.refl HT.out T (T+6)).below hB;refine hK.out _ _ ?_ (fun hHeld=> ?_);focus exact⟨X.own.1.cell 5,X.own.1.cell 6⟩
 clear hK K;refine zl ?_;refine zc 12 (fun K hK=> ?_);go_simp;refine(CK.out _ X).mono ?_;rintro e w3 ⟨rfl,hP⟩;obtain⟨X,c⟩:=X.put_sa C.tidy hP;have C:=C.trans (c.mono (by omega) (by omega));refine hK.out _ _ ?_ (fun hHeld=> ?_);focus exact⟨X.own.1.cell 5,X.own.1.cell 6⟩
 clear hK K;refine zl ?_;refine zc 14 (fun K hK=> ?_);go_simp;refine(CT.out _ X).mono ?_;rintro e w4 ⟨rfl,hB4⟩;have X:=X.below hB4;have C:=C.below hB4;refine hK.out _ _ ?_ (fun hHeld=> ?_);focus exact⟨X.own.1.cell 5,X.own.1.cell 6⟩
 clear hK K;refine zl ?_;refine zt 15 ?_;refine zc 16 (fun K hK=> ?_);go_simp;refine(CU.out _ X).mono ?_;rintro e w5 ⟨rfl,hA,hD⟩;obtain⟨X,c⟩:=X.put_bb C.tidy hA hD;have C:=C.trans (c.mono (by omega) (by omega));refine hK.out _ _ ?_ (fun hHeld=> ?_);focus exact⟨X.own.1.cell 5,X.own.1.cell 6⟩
 clear hK K;refine zl ?_;refine dnZ ?_;have HX:=zH X;have HC:=zH C;clear X C hHeld hA hD hB4 hP hB c;go_wp2_with fail
 go_end0
 exact⟨rfl,HC.out,HX.out⟩
end
section
open Go.RowKit Go.Lib
def PC.like (p q:PC):Prop:=p.frm=q.frm∧p.til=q.til∧p.sent=q.sent
theorem PC.like.refl (p:PC):p.like p:=⟨rfl,rfl,rfl⟩
theorem loseP_like (p:PC):(loseP p).like p:=by unfold loseP;split<;>exact⟨rfl,rfl,rfl⟩
theorem ackP_like (u:Nat) (s:List (Nat×Nat)) (p:PC):(ackP u s p).like p:=by unfold ackP;split<;>exact⟨rfl,rfl,rfl⟩
theorem psF_like (l:List PC): ∀ p∈(psF l).1,∃ q∈l,p.like q:=by
 induction l with
 | nil=>intro p hp;cases hp
 | cons x r ih=>
  intro p hp;unfold psF at hp;dsimp only at hp
  generalize(if x.sacked then(psF r).2.2+1 else(psF r).2.2)=ab at hp
  split at hp
  ·rcases List.mem_cons.1 hp with rfl | hp
   ·exact⟨x,List.mem_cons_self ..,rfl,rfl,rfl⟩
   ·obtain⟨q,hq,h⟩:=ih p hp
    exact⟨q,List.mem_cons_of_mem _ hq,h⟩
  ·rcases List.mem_cons.1 hp with rfl | hp
   ·exact⟨p,List.mem_cons_self ..,rfl,rfl,rfl⟩
   ·obtain⟨q,hq,h⟩:=ih p hp
    exact⟨q,List.mem_cons_of_mem _ hq,h⟩
theorem psF_nn (l:List PC):0≤(psF l).2.1∧(psF l).2.1<18446744073709551616:=by
 induction l with
 | nil=>simp[psF]
 | cons x r ih=>
  unfold psF;dsimp only
  generalize(if x.sacked then(psF r).2.2+1 else(psF r).2.2)=ab
  split
  ·simp only[IntKind.wrap_u64];omega
  ·exact ih
theorem restF_like (u:Nat) (s:List (Nat×Nat)) (l:List PC): ∀ p∈restF u s l,∃ q∈l,p.like q:=by
 intro p hp;unfold restF at hp;rw[List.mem_map]at hp;obtain⟨q,hq,rfl⟩:=hp;exact⟨q,(List.mem_filter.1 hq).1,ackP_like u s q⟩
theorem restF_len (u:Nat) (s:List (Nat×Nat)) (l:List PC):(restF u s l).length≤l.length:=by
 unfold restF;rw[List.length_map];exact List.length_filter_le _ _
theorem SK.ok.pcs_ {k:SK} (h:k.ok) {l:List PC} (hl:l.length≤k.pcs.length) (hp: ∀ p∈l,∃ q∈k.pcs,p.like q):({ k with pcs:=l }:SK).ok:=
 ⟨h.id,h.m1,h.m2,h.c1,h.c2,h.bf,h.e,Nat.le_trans hl h.len,fun p hpl=>by
  obtain⟨q,hq,e1,e2,e3⟩:=hp p hpl;rw[e1,e2,e3];exact h.pc q hq,h.sa,h.sa2,h.bb,h.out,h.at_⟩
theorem SK.ok.lrn_ {k:SK} (h:k.ok) {now lost:Nat} (hn:now<18446744073709551616) (hl:lost<18446744073709551616):(k.lrn now lost).ok:=
 ⟨h.id,h.m1,h.m2,h.c1,h.c2,h.bf,h.e,h.len,h.pc,takeF_ok h.sa,⟨by show 0<_;omega,by show 0<_;omega,by show 0<_;omega,h.sa2.2.2.2⟩,update_ok h.bb (takeV_big h hn hl) _,h.out,h.at_⟩
def SK.lose (k:SK) (now:Nat):SK:=({ k with pcs:=k.pcs.map loseP }:SK).lrn now k.fl
theorem SK.ok.map_ {k:SK} (h:k.ok):({ k with pcs:=k.pcs.map loseP }:SK).ok:=
 h.pcs_ (by simp) fun p hp=>by
  rw[List.mem_map]at hp;obtain⟨q,hq,rfl⟩:=hp;exact⟨q,hq,loseP_like q⟩
theorem SK.ok.lose_ {k:SK} (h:k.ok) {now:Nat} (hn:now<18446744073709551616):(k.lose now).ok:=h.map_.lrn_ hn k.fl_lt
def ackS (now:Nat) (s:SA) (l:List PC):SA:=l.foldl (fun s p=>ackF s now (p.til-p.frm) p.sent) s
theorem ackS_ok {now:Nat} (hn:now<18446744073709551616): ∀ {l:List PC} {s:SA},s.ok→s.ok2→(∀ p∈l,p.sent.ok∧p.sent.d<18446744073709551616)→(ackS now s l).ok∧(ackS now s l).ok2
 | [],s,h,h2,_=>⟨h,h2⟩
 | p::r,s,h,h2,hp=>by
  obtain⟨q1,q2⟩:=hp p (List.mem_cons_self ..);refine ackS_ok (l:=r) hn (ackF_ok h hn q1) ?_ fun x hx=>hp x (List.mem_cons_of_mem _ hx)
  unfold ackF;dsimp only
  obtain⟨z1,z2,z3,z4⟩:=h2;obtain⟨y1,y2,y3⟩:=q1;split
  ·exact⟨q2,satSub_lt y1,satSub_lt hn,by show(if _ then _ else _)<_;split<;>omega⟩
  ·exact⟨z1,z2,z3,by show(if _ then _ else _)<_;split<;>omega⟩
def SK.ackP (k:SK) (now upto:Nat) (sk:List (Nat×Nat)):SK:={ k with pcs:=(psF (restF upto sk k.pcs)).1,bf:=backF k.bf upto,sa:=ackS now k.sa (toldF upto sk k.pcs) }
def SK.ackN (k:SK) (now upto:Nat) (sk:List (Nat×Nat)):SK:=(k.ackP now upto sk).lrn now (psF (restF upto sk k.pcs)).2.1.toNat
def SK.ackE (k:SK) (upto:Nat) (sk:List (Nat×Nat)):Nat:=if mayF upto k.e sk=true then 0 else 11
def SK.ack (k:SK) (now upto:Nat) (sk:List (Nat×Nat)):SK:=if mayF upto k.e sk=true then k.ackN now upto sk else k
theorem backF_tk (s:BF) (u:Nat):(backF s u).tk=s.tk:=by unfold backF;split<;>rfl
theorem SK.ok.ackP_ {k:SK} (h:k.ok) {now:Nat} (hn:now<18446744073709551616) (upto:Nat) (sk:List (Nat×Nat)):(k.ackP now upto sk).ok:=by
 have h1:=h.pcs_ (l:=(psF (restF upto sk k.pcs)).1) (by rw[psF_len];exact restF_len _ _ _) fun p hp=>by
  obtain⟨q,hq,e1,e2,e3⟩:=psF_like _ p hp;obtain⟨r,hr,f1,f2,f3⟩:=restF_like _ _ _ q hq;exact⟨r,hr,e1.trans f1,e2.trans f2,e3.trans f3⟩
 obtain⟨s1,s2⟩:=ackS_ok hn (l:=toldF upto sk k.pcs) h.sa h.sa2 fun p hp=>by
  obtain⟨_,_,_,q1,q2⟩:=h.pc p (List.mem_filter.1 hp).1;exact⟨q1,q2⟩
 exact⟨h.id,h.m1,h.m2,h.c1,h.c2,backF_ok h.bf upto,by show k.e=(backF k.bf upto).tk;rw[backF_tk];exact h.e,h1.len,h1.pc,s1,s2,h.bb,h.out,h.at_⟩
theorem SK.ok.ack_ {k:SK} (h:k.ok) {now:Nat} (hn:now<18446744073709551616) (upto:Nat) (sk:List (Nat×Nat)):(k.ack now upto sk).ok:=by
 unfold SK.ack;split
 ·exact(h.ackP_ hn upto sk).lrn_ hn (by have:=psF_nn (restF upto sk k.pcs);omega)
 ·exact h
theorem sklose_any (b pb pd ps B now:Nat) (hnow:now<18446744073709551616) (k:SK) (hk:k.ok) (g:Nat→Nat) (T:Nat) (w:World) (hT:Tidy w g) (h:SkIn w g T b pb pd ps B k):
  Calls Tryz.prog 100 #[.pointer (some ⟨b,0,none⟩), .int .u64 now] w fun e w'=>e= .returned (.int .i64 0)∧Chg w w' g g T (T+6)∧SkIn w' g T b pb pd ps B (k.lose now):=by
 have hl:k.pcs.length≤5000:=by have:=hk.len;omega
 have c4:=h.own.1.ce 4;have CL:=zH (bdLose_any pd k.e k.pcs hl g (T+2) (by omega) w hT h.bd);rw[k.fl_eq]at CL;have CN:=zH (fun w'=>sklearn_any b pb pd ps B now k.fl hnow k.fl_lt { k with pcs:=k.pcs.map loseP } hk.map_ g T w');have HH:=zH h;have HT:=zH hT;clear h hT hk;unfold SK.lose;go_enter Tryz.func100,Tryz.ntmps100
 go_wp2_with fail
 refine CL.out.mono ?_;rintro e w1 ⟨rfl,hC,hD⟩;have X:=HH.out.put_bd hC hD;have HC:=zH ((Chg.refl HT.out T (T+6)).trans (hC.mono (by omega) (by omega)));have HX:=zH X;clear hC hD X CL;go_wp2_with fail
 refine(CN.out _ HC.out.tidy HX.out).mono ?_;rintro e w2 ⟨rfl,hC2,hX2⟩;have HC2:=zH (HC.out.trans hC2);have HX2:=zH hX2;clear hC2 hX2 CN;go_wp2_with fail
 go_ret
 exact⟨rfl,HC2.out,HX2.out⟩
end
section
open Go.RowKit Go.Lib
theorem ackS_snoc (now:Nat) (s:SA) (l:List PC) (p:PC):ackS now s (l++[p])=ackF (ackS now s l) now (p.til-p.frm) p.sent:=by unfold ackS;rw[List.foldl_append];rfl
def PcRow (w:World) (bt off:Nat) (l:List PC):Prop:= ∀ j,j<l.length*9→w.cell? ⟨bt,off+j,none⟩=(l.flatMap pcl)[j]?
theorem PcRow.at_ {w:World} {bt off:Nat} {l:List PC} (h:PcRow w bt off l) {i:Nat} {p:PC} (hp:l[i]? =some p) (A:Nat) (q:Nat) (hA:A=off+i*9+q) (hq:q<9):w.cell? ⟨bt,A,none⟩=(pcl p)[q]? :=by
 have hi:=(List.getElem?_eq_some_iff.1 hp).1;rw[hA,Nat.add_assoc,h (i*9+q) (by omega)];exact flat_at pcl_len hp q hq
theorem PcRow.grown {w w':World} {bt off:Nat} {l:List PC} (h:PcRow w bt off l) {row:Option Nat} (hg:w.grownBy w' row) (hb:bt<w.heap.size) (hne:some bt≠row):PcRow w' bt off l:=fun j hj=>
 (World.cell?_of_block (hg.block bt hb hne)).trans (h j hj)
theorem skack_any (b pb pd ps B now upto:Nat) (hnow:now<18446744073709551616) (hup:upto<18446744073709551616) (k:SK) (hk:k.ok) (v:Value) (sk:List (Nat×Nat)) (hks:sk.length≤1000) (g:Nat→Nat) (T:Nat) (hT0:0<T) (w:World) (hT:Tidy w g) (hr:Rd w v 2 sk.length (sk.flatMap rgl)) (h:SkIn w g T b pb pd ps B k):
  Calls Tryz.prog 99 #[.pointer (some ⟨b,0,none⟩), .int .u64 now, .int .u64 upto,v] w fun e w'=>e= .returned (.int .i64 (k.ackE upto sk:Nat))∧ ∃ g',Chg w w' g g' T (T+6)∧SkIn w' g' T b pb pd ps B (k.ack now upto sk):=by
 have hl:k.pcs.length≤5000:=by have:=hk.len;omega
 have c4:=h.own.1.ce 4;unfold SK.ackE SK.ack;cases hm:mayF upto k.e sk with
 | false=>
  have CA:=zH (bdAck_no pd k.e upto k.pcs v sk hks g (T+2) w h.bd hr hm);have HH:=zH h;have HT:=zH hT;clear h hT hk hm hr hl;simp only[Bool.false_eq_true,if_false];go_enter Tryz.func99,Tryz.ntmps99
  go_wp2_with fail
  go_step3
  go_wp2_with fail
  refine CA.out.mono ?_;rintro e w1 ⟨rfl,hB⟩;have HB:=zH hB;clear hB CA;go_wp2_with fail
  (try rw[Exit.noGoto_ret])
  go_ret
  exact⟨rfl,g,(Chg.refl HT.out T (T+6)).below HB.out,HH.out.below HB.out⟩
 | true=>
  simp only[if_true];have CA:=zH (bdAck_yes pd k.e upto k.pcs hl v sk hks g (T+2) (by omega) w hT h.bd hr hm);have CB:=zH (fun w' g' (h:SkIn w' g' T b pb pd ps B { k with pcs:=(psF (restF upto sk k.pcs)).1 })=>back_any pb k.bf upto hup w' h.bf.1);have hps:ps<w.heap.size:=h.sa.1.lt;have hpg:g ps=T+4:=h.sa.2;have hpl: ∀ p∈toldF upto sk k.pcs,p.sent.ok∧p.sent.d<18446744073709551616∧p.frm<p.til∧p.til<18446744073709551616:=fun p hp=>by
   obtain⟨q1,q2,q3,q4,q5⟩:=hk.pc p ((List.mem_filter.1 hp).1);have:=hk.e;obtain⟨_,f2,_,f4,_⟩:=hk.bf;exact⟨q4,q5,q1,by omega⟩
  have hkA:=hk.ackP_ hnow upto sk;have CN:=zH (fun w' g'=>sklearn_any b pb pd ps B now (psF (restF upto sk k.pcs)).2.1.toNat hnow (by have:=psF_nn (restF upto sk k.pcs);omega) (k.ackP now upto sk) hkA g' T w');have hlen:(toldF upto sk k.pcs).length≤5000:=Nat.le_trans (List.length_filter_le _ _) hl;have hsa:=hk.sa;have hsa2:=hk.sa2;have hlz:(psF (restF upto sk k.pcs)).2.1=((psF (restF upto sk k.pcs)).2.1.toNat:Int):=by have:=psF_nn (restF upto sk k.pcs);omega
  unfold SK.ackN;rw[hlz]at CA;unfold SK.ackP at CN ⊢;obtain⟨tl,etl⟩: ∃ z,toldF upto sk k.pcs=z:=⟨_,rfl⟩;rw[etl]at CA CN hpl hlen ⊢;obtain⟨n,en⟩: ∃ z,tl.length=z:=⟨_,rfl⟩;rw[en]at CA hlen;obtain⟨lz,elz⟩: ∃ z,(psF (restF upto sk k.pcs)).2.1.toNat=z:=⟨_,rfl⟩;rw[elz]at CA CN ⊢;obtain⟨rs,ers⟩: ∃ z,(psF (restF upto sk k.pcs)).1=z:=⟨_,rfl⟩;rw[ers]at CA CB CN ⊢;have HH:=zH h;have HT:=zH hT;have HPL:=zH hpl;have HSA:=zH (And.intro hsa hsa2);clear h hT hk hm hr hl etl elz ers hkA hlz hpl hsa hsa2;go_enter Tryz.func99,Tryz.ntmps99
  go_wp2_with fail
  go_step3
  go_wp2_with fail
  refine CA.out.mono ?_;rintro e w1 ⟨vt,rfl,hRd,hOw,g1,hC,hD⟩;have X:=HH.out.put_bd hC hD;have c3:=X.own.1.ce 3;have hpb:pb<w.heap.size:=HH.out.bf.1.lt;have HC:=zH ((Chg.refl HT.out T (T+6)).trans (hC.mono (by omega) (by omega)));have HX:=zH X;have HR:=zH hRd;have HO:=zH hOw;clear hC hD X CA hRd hOw;go_wp2_with fail
  refine(CB.out _ _ HX.out).mono ?_;rintro e w2 ⟨⟨nb,rfl⟩,hP⟩;obtain⟨X2,C2⟩:=HX.out.put_bf HC.out.tidy hP;have C2:=HC.out.trans (C2.mono (by omega) (by omega));have HX2:=zH X2;have HC2:=zH C2;rcases HR.out.2 with⟨⟨a0,c0,rfl⟩,hn⟩ | ⟨bt,off,cap,rfl,hb,hcap,hmax,hcells⟩
  ·have htl:tl=[]:=List.eq_nil_of_length_eq_zero (en.trans hn)
   subst htl;clear hP X2 C2 HO HR HX HC hn CB c3 c4;go_wp2_with fail
   go_step3
   go_wp2_with fail
   go_loopw [9] (fun v9 wr=>v9= .slice a0 0 c0∧wr=w2) (fun _ _=>0)
   case atStart=>exact⟨rfl,rfl⟩
   case round=>
    obtain⟨rfl,rfl⟩:=hrel;go_wp2_with fail
    refine(CN.out _ _ HC2.out.tidy HX2.out).mono ?_;rintro e w5 ⟨rfl,hC5,hX5⟩;have HC5:=zH (HC2.out.trans hC5);have HX5:=zH hX5;clear hC5 hX5;go_wp2_with fail
    (try rw[Exit.noGoto_ret])
    go_ret
    exact⟨rfl,g1,HC5.out,HX5.out⟩
  ·have hbt:w.heap.size≤bt:=HO.out bt rfl
   have hrow:PcRow w2 bt off tl:=fun j hj=>by
    rw[←hcells j (by rw[←en];exact hj)];exact World.cell?_of_block (hP.2.block bt hb (by intro e;injection e with e;omega))
   have HRow:=zH hrow;have hbs:bt<w2.heap.size:=Nat.lt_of_lt_of_le hb hP.2.size;clear hP X2 C2 HO HR HX HC CB c3 c4 hrow hcells hb;unfold maxLen at hmax;go_wp2_with fail
   go_step3
   go_wp2_with fail
   go_loopw [9] (fun v9 wr=> ∃ i A,i≤n∧(i<n→A=off+i*9)∧v9= .slice (some ⟨bt,A,none⟩) (n-i:Nat) (cap-i:Nat)∧bt<wr.heap.size∧SkIn wr g1 T b pb pd ps B { k with pcs:=rs,bf:=backF k.bf upto,sa:=ackS now k.sa (tl.take i) }∧Chg w wr g g1 T (T+6)∧PcRow wr bt off tl) (fun v9 _=>slen v9)
   case atStart=>exact⟨0,off,Nat.zero_le _,fun _=>by omega,rfl,hbs,HX2.out,HC2.out,HRow.out⟩
   case round=>
    obtain⟨i,o,hi,ho,rfl,hbr,hX,hC,hRow⟩:=hrel;by_cases hin:i=n
    ·subst hin
     rw[Nat.sub_self];rw[List.take_of_length_le (by omega)]at hX;have HX3:=zH hX;have HC3:=zH hC;clear hX hC hRow;go_wp2_with fail
     refine(CN.out _ _ HC3.out.tidy HX3.out).mono ?_;rintro e w5 ⟨rfl,hC5,hX5⟩;have HC5:=zH (HC3.out.trans hC5);have HX5:=zH hX5;clear hC5 hX5;go_wp2_with fail
     (try rw[Exit.noGoto_ret])
     go_ret
     exact⟨rfl,g1,HC5.out,HX5.out⟩
    ·obtain⟨p,hp⟩: ∃ p,tl[i]? =some p:=⟨_,List.getElem?_eq_getElem (by omega)⟩
     obtain⟨m,em⟩: ∃ m,n-i=m+1:=⟨n-i-1,by omega⟩;obtain⟨c,ec⟩: ∃ c,cap-i=c+1:=⟨cap-i-1,by omega⟩;rw[em,ec];have eo:=ho (by omega);clear ho;have r0:=hRow.at_ hp o 0 (by omega) (by omega);have r1:=hRow.at_ hp (o+1) 1 (by omega) (by omega);have r2:=hRow.at_ hp (o+2) 2 (by omega) (by omega);have r3:=hRow.at_ hp (o+3) 3 (by omega) (by omega);have r4:=hRow.at_ hp (o+4) 4 (by omega) (by omega);have r5:=hRow.at_ hp (o+5) 5 (by omega) (by omega);have r6:=hRow.at_ hp (o+6) 6 (by omega) (by omega);have r7:=hRow.at_ hp (o+7) 7 (by omega) (by omega);have r8:=hRow.at_ hp (o+8) 8 (by omega) (by omega);simp only[pcl,List.getElem?_cons_zero,List.getElem?_cons_succ]at r0 r1 r2 r3 r4 r5 r6 r7 r8;have HP:=zH (HPL.out p (List.mem_of_getElem? hp));have HPP:=zH hp;have HE:=zH (And.intro em (And.intro ec eo));have HXR:=zH hX;have HCR:=zH hC;have HRR:=zH hRow;have he1:IntKind.u64.wrap ((p.til:Int)-(p.frm:Int))=((p.til-p.frm:Nat):Int):=by
      obtain⟨_,_,h1,h2⟩:=HPL.out p (List.mem_of_getElem? hp);rw[show(p.til:Int)-(p.frm:Int)=((p.til-p.frm:Nat):Int)from by omega];exact wrapu_of _ (by omega)
     obtain⟨ln,eln⟩: ∃ z,p.til-p.frm=z:=⟨_,rfl⟩;rw[eln]at he1;have hln:ln<18446744073709551616:=by
      obtain⟨_,_,h1,h2⟩:=HPL.out p (List.mem_of_getElem? hp);omega
     have HLN:=zH eln;have htk:tl.take (i+1)=tl.take i++[p]:=by rw[List.take_add_one,hp];rfl
     have HTK:=zH htk;have hsi:=ackS_ok hnow (l:=tl.take i) HSA.out.1 HSA.out.2 (fun x hx=>by obtain⟨a1,a2,_⟩:=HPL.out x (List.mem_of_mem_take hx);exact⟨a1,a2⟩);have CK:=zH (fun w' (h:SkIn w' g1 T b pb pd ps B { k with pcs:=rs,bf:=backF k.bf upto,sa:=ackS now k.sa (tl.take i) })=>acked_res ps (ackS now k.sa (tl.take i)) _ now ln p.sent rfl rfl rfl rfl hsi.1 hnow hln HP.out.1 w' h.sa.1);clear hX hC hRow hp em ec eo eln htk hsi;go_upto_region 10 with fail
     obtain⟨N,eN⟩: ∃ z,wr.heap.size=z:=⟨_,rfl⟩;refine wp_named (fun W=>At W N 192 (pca p)∧SkIn W g1 T b pb pd ps B { k with pcs:=rs,bf:=backF k.bf upto,sa:=ackS now k.sa (tl.take i) }∧Chg w W g g1 T (T+6)∧PcRow W bt off tl∧bt<W.heap.size∧g1 N=0) ⟨by rw[←eN];exact At.made wr _ (pca p),HXR.out.alloc _,HCR.out.alloc _,HRR.out.grown (World.grownBy_alloc wr _ none) hbr (by simp),by simp;omega,HCR.out.tidy _ (by omega)⟩ (fun W hW=> ?_);rw[eN];obtain⟨Q,X,C,R,hbW,gN⟩:=hW;have q0:=Q.ce 0;have q1:=Q.ce 1;have q2:=Q.ce 2;have q3:=Q.ce 3;have q4:=Q.ce 4;have q5:=Q.ce 5;have q6:=Q.ce 6;have d5:=X.own.1.ce 5;have HQ:=zH Q;have HX:=zH X;have HC:=zH C;have HR:=zH R;clear Q X C R HXR HCR HRR;refine wp_region_held_drew (S:=fun wq=>wq.cell? ⟨b,5,none⟩=some (.pointer (some ⟨ps,0,none⟩))∧wq.cell? ⟨N,0,none⟩=some (.int .u64 p.frm)∧wq.cell? ⟨N,1,none⟩=some (.int .u64 p.til)∧wq.cell? ⟨N,2,none⟩=some (.int .u64 p.sent.at_)∧wq.cell? ⟨N,3,none⟩=some (.int .u64 p.sent.d)∧wq.cell? ⟨N,4,none⟩=some (.int .u64 p.sent.da)∧wq.cell? ⟨N,5,none⟩=some (.int .u64 p.sent.fa)∧wq.cell? ⟨N,6,none⟩=some (.bool p.sent.lim)) (by kernel_rfl) ⟨d5,q0,q1,q2,q3,q4,q5,q6⟩ (fun hHeld=> ?_);refine zt 0 ?_;refine zt 1 ?_;refine zt 2 ?_;refine zt 3 ?_;refine zt 4 ?_;refine zt 5 ?_;refine zt 6 ?_;refine zt 7 ?_;refine zt 8 ?_;refine zt 9 ?_;refine zt 10 ?_;refine zt 11 ?_
     refine zc 12 (fun K hK=> ?_);go_simp;refine(CK.out _ (HX.out.below (Below.refl _ _).drew)).mono ?_;rintro e w5 ⟨rfl,hP5⟩;obtain⟨X5,C5⟩:=(HX.out.below (Below.refl _ _).drew).put_sa HC.out.tidy.drew hP5;have Q5:=hP5.other HQ.out.drew (by have:=HX.out.sa.2;rintro rfl;omega);refine hK.out _ _ ?_ (fun hHeld=> ?_);focus exact⟨X5.own.1.cell 5,Q5.cell 0,Q5.cell 1,Q5.cell 2,Q5.cell 3,Q5.cell 4,Q5.cell 5,Q5.cell 6⟩
     clear hK K;refine zl ?_;refine dnZ ?_;have R5:=HR.out.grown ((by_drew W (some ps)).trans hP5.2) hbW (by simp;omega);have hb5:=Nat.lt_of_lt_of_le hbW hP5.2.size;rw[←HLN.out]at X5;rw[←ackS_snoc,←HTK.out]at X5;have HX5:=zH X5;have HC5:=zH (HC.out.drew.trans (C5.mono (by omega) (by omega)));have HR5:=zH R5;clear X5 C5 Q5 hP5 hHeld R5;go_wp2_with fail
     go_roundw
     case rel=>
      obtain⟨em,ec,eo⟩:=HE.out;have h1:n-(i+1)=m:=by omega
      have h2:cap-(i+1)=c:=by omega
      by_cases hc:c=0
      ·exact⟨i+1,o,by omega,fun h=>by omega,by rw[if_pos hc,h1,h2],hb5,HX5.out,HC5.out,HR5.out⟩
      ·exact⟨i+1,o+9,by omega,fun h=>by omega,by rw[if_neg hc,h1,h2],hb5,HX5.out,HC5.out,HR5.out⟩
     case measure=>exact Nat.lt_succ_self m
end
end Go.Proofs.YtojgokiobdpclaaGreat
