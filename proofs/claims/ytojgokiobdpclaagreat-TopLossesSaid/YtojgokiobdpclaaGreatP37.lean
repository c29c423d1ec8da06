import Derived.Test.YtojgokiobdpclaaGreatP36
namespace Go.Proofs.YtojgokiobdpclaaGreat
set_option linter.unusedVariables false
set_option linter.unusedSimpArgs false
set_option maxRecDepth 8000
set_option maxHeartbeats 8000000
section
open Go.RowKit Go.Lib
theorem set4 {w:World} {N:Nat} {t:TypeId} {a0 a1 a2 a3:Value} (h:At w N t #[a0,a1,a2,a3]) (v0 v1 v2 v3:Value):
  Put w ((((w.setCell ⟨N,0,none⟩ v0).setCell ⟨N,1,none⟩ v1).setCell ⟨N,2,none⟩ v2).setCell ⟨N,3,none⟩ v3) N t #[v0,v1,v2,v3]:=by
 have A:=((((h.set (u:=v0) 0).set (u:=v1) 1).set (u:=v2) 2).set (u:=v3) 3);simp only[List.setIfInBounds_toArray,List.set_cons_zero,List.set_cons_succ]at A;exact⟨A,((((grown_set w N 0 v0).trans (grown_set _ N 1 v1)).trans (grown_set _ N 2 v2)).trans (grown_set _ N 3 v3))⟩
theorem set10 {w:World} {N:Nat} {t:TypeId} {a0 a1 a2 a3 a4 a5 a6 a7 a8 a9:Value} (h:At w N t #[a0,a1,a2,a3,a4,a5,a6,a7,a8,a9]) (v0 v1 v2 v3 v4 v5 v6 v7 v8 v9:Value):
  Put w ((((((((((w.setCell ⟨N,0,none⟩ v0).setCell ⟨N,1,none⟩ v1).setCell ⟨N,2,none⟩ v2).setCell ⟨N,3,none⟩ v3).setCell ⟨N,4,none⟩ v4).setCell ⟨N,5,none⟩ v5).setCell ⟨N,6,none⟩ v6).setCell ⟨N,7,none⟩ v7).setCell ⟨N,8,none⟩ v8).setCell ⟨N,9,none⟩ v9) N t #[v0,v1,v2,v3,v4,v5,v6,v7,v8,v9]:=by
 have A:=((((((((((h.set (u:=v0) 0).set (u:=v1) 1).set (u:=v2) 2).set (u:=v3) 3).set (u:=v4) 4).set (u:=v5) 5).set (u:=v6) 6).set (u:=v7) 7).set (u:=v8) 8).set (u:=v9) 9);simp only[List.setIfInBounds_toArray,List.set_cons_zero,List.set_cons_succ]at A;exact⟨A,((((((((((grown_set w N 0 v0).trans (grown_set _ N 1 v1)).trans (grown_set _ N 2 v2)).trans (grown_set _ N 3 v3)).trans (grown_set _ N 4 v4)).trans (grown_set _ N 5 v5)).trans (grown_set _ N 6 v6)).trans (grown_set _ N 7 v7)).trans (grown_set _ N 8 v8)).trans (grown_set _ N 9 v9))⟩
theorem At.c4 {w:World} {N:Nat} {t:TypeId} {a0 a1 a2 a3:Value} (h:At w N t #[a0,a1,a2,a3]):w.cell? ⟨N,0,none⟩=some a0∧w.cell? ⟨N,1,none⟩=some a1∧w.cell? ⟨N,2,none⟩=some a2∧w.cell? ⟨N,3,none⟩=some a3∧ ∀ i,w.frozen? ⟨N,i,none⟩=false:=
 ⟨h.cell 0,h.cell 1,h.cell 2,h.cell 3,fun i=>h.free i⟩
theorem At.c10 {w:World} {N:Nat} {t:TypeId} {a0 a1 a2 a3 a4 a5 a6 a7 a8 a9:Value} (h:At w N t #[a0,a1,a2,a3,a4,a5,a6,a7,a8,a9]):w.cell? ⟨N,0,none⟩=some a0∧w.cell? ⟨N,1,none⟩=some a1∧w.cell? ⟨N,2,none⟩=some a2∧w.cell? ⟨N,3,none⟩=some a3∧w.cell? ⟨N,4,none⟩=some a4∧w.cell? ⟨N,5,none⟩=some a5∧w.cell? ⟨N,6,none⟩=some a6∧w.cell? ⟨N,7,none⟩=some a7∧w.cell? ⟨N,8,none⟩=some a8∧w.cell? ⟨N,9,none⟩=some a9∧ ∀ i,w.frozen? ⟨N,i,none⟩=false:=
 ⟨h.cell 0,h.cell 1,h.cell 2,h.cell 3,h.cell 4,h.cell 5,h.cell 6,h.cell 7,h.cell 8,h.cell 9,fun i=>h.free i⟩
theorem sknil_Model (w:World):Calls Tryz.prog 30 #[.pointer none] w fun e w'=>e= .returned mdv0∧Below w.heap.size w w':=by
 go_enter Tryz.func30,Tryz.ntmps30
 go_wp2_with fail
 refine bodyPost_ret (v:=mdv0) (by simp[results,Tryz.f30,go_sem,mdv0]) rfl ⟨rfl, ?_⟩;exact(Below.refl _ w).alloc (Nat.le_refl _) _
theorem sknil_Out (w:World):Calls Tryz.prog 40 #[.pointer none] w fun e w'=>e= .returned (.int .u64 0)∧Below w.heap.size w w':=by
 go_enter Tryz.func40,Tryz.ntmps40
 go_wp2_with fail
 go_ret
 exact⟨rfl,Below.refl _ _⟩
theorem sknil_Flight (w:World):Calls Tryz.prog 41 #[.pointer none] w fun e w'=>e= .returned (.int .u64 0)∧Below w.heap.size w w':=by
 go_enter Tryz.func41,Tryz.ntmps41
 go_wp2_with fail
 go_ret
 exact⟨rfl,Below.refl _ _⟩
theorem sknil_Unsent (w:World):Calls Tryz.prog 42 #[.pointer none] w fun e w'=>e= .returned (.int .u64 0)∧Below w.heap.size w w':=by
 go_enter Tryz.func42,Tryz.ntmps42
 go_wp2_with fail
 go_ret
 exact⟨rfl,Below.refl _ _⟩
theorem sknil_Tso (w:World):Calls Tryz.prog 43 #[.pointer none] w fun e w'=>e= .returned (.int .i64 0)∧Below w.heap.size w w':=by
 go_enter Tryz.func43,Tryz.ntmps43
 go_wp2_with fail
 go_ret
 exact⟨rfl,Below.refl _ _⟩
def mdo:Option SK→Value
 | none=>mdv0
 | some k=>mdv k.bb
theorem mdo_ten (o:Option SK): ∃(n0 n1 n2 n3 n4 n5 n6 n7:Nat) (b8 b9:Bool),mdo o= .agg #[.int .i64 (n0:Nat), .int .i64 (n1:Nat), .int .u64 (n2:Nat), .int .u64 (n3:Nat), .int .u64 (n4:Nat), .int .u64 (n5:Nat), .int .u64 (n6:Nat), .int .u64 (n7:Nat), .bool b8, .bool b9]:=by
 cases o
 ·exact⟨0,0,0,0,0,0,0,0,_,_,rfl⟩
 ·exact⟨_,_,_,_,_,_,_,_,_,_,rfl⟩
theorem mcmodel_any (b s:Nat) (hs:s<8) (pc:Nat) (sp:Nat→Option Nat) (pq pl:Nat) (fp:Nat→Option Nat) (bl bt:Nat) (m:MC) (hm:m.ok) (g:Nat→Nat) (T:Nat) (hT0:0<T) (w:World) (hT:Tidy w g) (h:McIn w g T b pc sp pq pl fp bl bt m):
  Calls Tryz.prog 12 #[.pointer (some ⟨b,0,none⟩), .int .i64 s] w fun e w'=>e= .returned (.tuple #[mdo (m.sk s), .bool (m.sk s).isSome])∧Below w.heap.size w w':=by
 obtain⟨N0,e0⟩: ∃ z,w.heap.size=z:=⟨_,rfl⟩;have CO:=zH (fun w' hB=>mcopen_any b s hs pc sp pq pl fp bl bt m g T w' (h.below (w':=w') hB));have hsk:=h.sk s hs;have CM:Hid (∀ w',Below w.heap.size w w'→Calls Tryz.prog 30 #[pval (sp s)] w' fun e w''=>e= .returned (mdo (m.sk s))∧Below w'.heap.size w' w''):=zH fun w' hB=>by
  have hq:=hsk.below hB;rcases hq.one with⟨e1,e2⟩ | ⟨a,x,e1,e2,pb,pd,ps,B,hx⟩
  ·rw[e1,e2];exact sknil_Model w'
  ·rw[e1,e2];exact skmodel_any a pb pd ps B x g (T+28+6*s) w' hx
 obtain⟨n0,n1,n2,n3,n4,n5,n6,n7,b8,b9,ev⟩:=mdo_ten (m.sk s);rw[ev]at CM ⊢;rcases hsk.one with⟨e1,e2⟩ | ⟨a,x,e1,e2,_⟩
 all_goals
  rw[e1]at CO CM;rw[e2];simp only[pval,Option.map_none,Option.map_some,Option.isSome_none,Option.isSome_some]at CO CM ⊢;clear h hT hsk ev hm e1 e2;go_enter Tryz.func12,Tryz.ntmps12
  go_wp2_with fail
  refine(CO.out _ ((Below.refl _ w).alloc (Nat.le_refl _) _)).mono ?_;rintro e w1 ⟨rfl,rfl⟩;go_wp2_with fail
  refine(CM.out _ ((Below.refl _ w).alloc (Nat.le_refl _) _)).mono ?_;rintro e w1 ⟨rfl,hB⟩;have A1:At w1 N0 35 #[.int .i64 0, .int .i64 0, .int .u64 0, .int .u64 0, .int .u64 0, .int .u64 0, .int .u64 0, .int .u64 0, .bool false, .bool false]:=(show At _ N0 _ _ by rw[←e0];exact At.made w _ _).below hB (by rw[←e0];simp);have hB2:=((Below.refl w.heap.size w).alloc (Nat.le_refl _) (.cells #[.int .i64 0, .int .i64 0, .int .u64 0, .int .u64 0, .int .u64 0, .int .u64 0, .int .u64 0, .int .u64 0, .bool false, .bool false] 35)).trans (hB.mono (by simp));obtain⟨y0,y1,y2,y3,y4,y5,y6,y7,y8,y9,yf⟩:=A1.c10;have HA:=zH A1;have HB:=zH hB2;clear hB hB2 A1;go_wp2_with fail
  have P:=set10 HA.out (.int .i64 (n0:Nat)) (.int .i64 (n1:Nat)) (.int .u64 (n2:Nat)) (.int .u64 (n3:Nat)) (.int .u64 (n4:Nat)) (.int .u64 (n5:Nat)) (.int .u64 (n6:Nat)) (.int .u64 (n7:Nat)) (.bool b8) (.bool b9);obtain⟨d0,d1,d2,d3,d4,d5,d6,d7,d8,d9,_⟩:=P.1.c10;refine bodyPost_ret (v:= .tuple #[.agg #[.int .i64 (n0:Nat), .int .i64 (n1:Nat), .int .u64 (n2:Nat), .int .u64 (n3:Nat), .int .u64 (n4:Nat), .int .u64 (n5:Nat), .int .u64 (n6:Nat), .int .u64 (n7:Nat), .bool b8, .bool b9], .bool _]) ?_ rfl ⟨rfl,HB.out.grown P.2 HB.out.size (fun k hk=>by cases hk;omega)⟩;simp[results,Tryz.f12,go_sem,d0,d1,d2,d3,d4,d5,d6,d7,d8,d9]
def sto:Option SK→Value
 | none=> .agg #[.int .u64 0, .int .u64 0, .int .u64 0, .int .i64 0]
 | some k=> .agg #[.int .u64 (k.out:Nat), .int .u64 (k.fl:Nat), .int .u64 (k.uns:Nat), .int .i64 (k.tso:Nat)]
theorem mcstate_any (b s:Nat) (hs:s<8) (pc:Nat) (sp:Nat→Option Nat) (pq pl:Nat) (fp:Nat→Option Nat) (bl bt:Nat) (m:MC) (hm:m.ok) (g:Nat→Nat) (T:Nat) (hT0:0<T) (w:World) (hT:Tidy w g) (h:McIn w g T b pc sp pq pl fp bl bt m):
  Calls Tryz.prog 22 #[.pointer (some ⟨b,0,none⟩), .int .i64 s] w fun e w'=>e= .returned (.tuple #[sto (m.sk s), .bool (m.sk s).isSome])∧Below w.heap.size w w':=by
 obtain⟨N0,e0⟩: ∃ z,w.heap.size=z:=⟨_,rfl⟩;have CO:=zH (fun w' hB=>mcopen_any b s hs pc sp pq pl fp bl bt m g T w' (h.below (w':=w') hB));have hsk:=h.sk s hs;obtain⟨vp,ev⟩: ∃ z,pval (sp s)=z:=⟨_,rfl⟩;obtain⟨n0,n1,n2,n3,est,C0,C1,C2,C3⟩: ∃ n0 n1 n2 n3:Nat,sto (m.sk s)= .agg #[.int .u64 n0, .int .u64 n1, .int .u64 n2, .int .i64 n3]∧
   Hid (∀ w',Below w.heap.size w w'→Calls Tryz.prog 40 #[vp] w' fun e w''=>e= .returned (.int .u64 n0)∧Below w'.heap.size w' w'')∧
   Hid (∀ w',Below w.heap.size w w'→Calls Tryz.prog 41 #[vp] w' fun e w''=>e= .returned (.int .u64 n1)∧Below w'.heap.size w' w'')∧
   Hid (∀ w',Below w.heap.size w w'→Calls Tryz.prog 42 #[vp] w' fun e w''=>e= .returned (.int .u64 n2)∧Below w'.heap.size w' w'')∧
   Hid (∀ w',Below w.heap.size w w'→Calls Tryz.prog 43 #[vp] w' fun e w''=>e= .returned (.int .i64 n3)∧Below w'.heap.size w' w''):=by
  rcases hsk.one with⟨e1,e2⟩ | ⟨a,x,e1,e2,pb,pd,ps,B,hx⟩
  ·rw[e1]at ev
   subst ev;exact⟨0,0,0,0,by rw[e2];rfl,zH fun w' _=>sknil_Out w',zH fun w' _=>sknil_Flight w',zH fun w' _=>sknil_Unsent w',zH fun w' _=>sknil_Tso w'⟩
  ·rw[e1]at ev
   subst ev;have hk:=(hm.sk s x hs e2).1;refine⟨x.out,x.fl,x.uns,x.tso,by rw[e2];rfl,zH fun w' hB=> ?_,zH fun w' hB=> ?_,zH fun w' hB=> ?_,zH fun w' hB=> ?_⟩
   ·exact(skout_any a pb pd ps B x g _ w' (hx.below hB)).mono fun e w'' ⟨h1,h2⟩=>⟨h1,by rw[←h2];exact Below.refl _ _⟩
   ·have:=skfl_any a pb pd ps B x (by have:=hk.len;omega) g _ w' (hx.below hB)
    rw[x.fl_eq]at this;exact this
   ·exact skuns_any a pb pd ps B x hk.bf g _ w' (hx.below hB)
   ·exact sktso_any a pb pd ps B x hk.bb.rate hk.m1 hk.m2 g _ w' (hx.below hB)
 rw[est];rcases hsk.one with⟨e1,e2⟩ | ⟨a,x,e1,e2,_⟩
 all_goals
  rw[ev]at CO;rw[e1]at ev;simp only[pval,Option.map_none,Option.map_some]at ev;rw[e2];simp only[Option.isSome_none,Option.isSome_some];subst ev;clear h hT hsk hm e1 e2 est;go_enter Tryz.func22,Tryz.ntmps22
  go_wp2_with fail
  refine(CO.out _ ((Below.refl _ w).alloc (Nat.le_refl _) _)).mono ?_;rintro e w1 ⟨rfl,rfl⟩;go_wp2_with fail
  refine(C0.out _ ((Below.refl _ w).alloc (Nat.le_refl _) _)).mono ?_;rintro e w1 ⟨rfl,hB⟩;have A1:At w1 N0 66 #[.int .u64 0, .int .u64 0, .int .u64 0, .int .i64 0]:=(show At _ N0 _ _ by rw[←e0];exact At.made w _ _).below hB (by rw[←e0];simp);have hB:=((Below.refl w.heap.size w).alloc (Nat.le_refl _) (.cells #[.int .u64 0, .int .u64 0, .int .u64 0, .int .i64 0] 66)).trans (hB.mono (by simp));have HA:=zH A1;have HB:=zH hB;clear hB A1;go_wp2_with fail
  refine(C1.out _ HB.out).mono ?_;rintro e w2 ⟨rfl,hB⟩;have HA2:=zH (HA.out.below hB HA.out.lt);have HB2:=zH (HB.out.trans (hB.mono HB.out.size));clear hB HA HB;go_wp2_with fail
  refine(C2.out _ HB2.out).mono ?_;rintro e w3 ⟨rfl,hB⟩;have HA3:=zH (HA2.out.below hB HA2.out.lt);have HB3:=zH (HB2.out.trans (hB.mono HB2.out.size));clear hB HA2 HB2;go_wp2_with fail
  refine(C3.out _ HB3.out).mono ?_;rintro e w4 ⟨rfl,hB⟩;have A4:=HA3.out.below hB HA3.out.lt;obtain⟨y0,y1,y2,y3,yf⟩:=A4.c4;have HA:=zH A4;have HB:=zH (HB3.out.trans (hB.mono HB3.out.size));clear hB A4 HA3 HB3;go_wp2_with fail
  have P:=set4 HA.out (.int .u64 n0) (.int .u64 n1) (.int .u64 n2) (.int .i64 n3);obtain⟨d0,d1,d2,d3,_⟩:=P.1.c4;refine bodyPost_ret (v:= .tuple #[.agg #[.int .u64 n0, .int .u64 n1, .int .u64 n2, .int .i64 n3], .bool _]) ?_ rfl ⟨rfl,HB.out.grown P.2 HB.out.size (fun k hk=>by cases hk;omega)⟩;simp[results,Tryz.f22,go_sem,d0,d1,d2,d3]
end
section
open Go.RowKit Go.Lib
def flSegs:Option FL→List SG
 | none=>[]
 | some f=>f.segs
theorem Rd.cap_ {w:World} {v:Value} {size n:Nat} {xs:List Value} (h:Rd w v size n xs): ∃ a cap,v= .slice a n cap:=by
 rcases h.2 with⟨⟨a,c,rfl⟩,rfl⟩ | ⟨b,off,cap,rfl,_⟩
 ·exact⟨a,c,rfl⟩
 ·exact⟨_,_,rfl⟩
def noBool:Value→Bool
 | .bool _=>false
 | _=>true
theorem Rd.aside {w w':World} {v:Value} {n:Nat} {l:List SG} {N:Nat} {t:TypeId} {cs:Array Value} (h:Rd w v 5 n (l.flatMap sgl)) (hn:l.length=n) (A:At w N t cs) (hc:cs.toList.all noBool=true) (hg:w.grownBy w' (some N)):Rd w' v 5 n (l.flatMap sgl):=by
 refine⟨h.1, ?_⟩;rcases h.2 with hn | ⟨b,off,cap,rfl,h2,h3,h4,h5⟩
 ·exact .inl hn
 ·refine .inr ⟨b,off,cap,rfl,Nat.lt_of_lt_of_le h2 hg.size,h3,h4,fun j hj=> ?_⟩
  have hne:some b≠some N:=by
   intro e;cases e
   cases l with
   | nil=>subst hn;simp at hj
   | cons x r=>
    have h6:=h5 4 (by simp at hn;omega);rw[A.cell]at h6;have h7:Value.bool x.again∈cs.toList:=by
     rw[←Array.getElem?_toList]at h6;exact List.mem_of_getElem? (h6.trans rfl)
    have h8:=List.all_eq_true.1 hc _ h7;cases h8
  exact(World.cell?_of_block (hg.block b h2 hne)).trans (h5 j hj)
end
end Go.Proofs.YtojgokiobdpclaaGreat
