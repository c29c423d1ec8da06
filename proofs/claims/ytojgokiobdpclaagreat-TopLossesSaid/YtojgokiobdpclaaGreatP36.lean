import Derived.Test.YtojgokiobdpclaaGreatP31
import Derived.Test.YtojgokiobdpclaaGreatP34
import Derived.Test.YtojgokiobdpclaaGreatP35
namespace Go.Proofs.YtojgokiobdpclaaGreat
set_option linter.unusedVariables false
set_option linter.unusedSimpArgs false
set_option maxRecDepth 8000
set_option maxHeartbeats 8000000
section
open Go.RowKit Go.Lib
def newK (id:Nat) (c:CF):SK:=⟨id,c.mss,c.cap,⟨0,0,0,1073741824⟩,[],0,sam0,newB c.mss,0,0⟩
def tag7 (g:Nat→Nat) (B i:Nat):Nat→Nat:=fun x=>if B≤x∧x≤B+6 then i else g x
theorem tag7_ne {g:Nat→Nat} {B i x:Nat} (h:x<B):tag7 g B i x=g x:=if_neg (by omega)
theorem Chg.retag7 {w w':World} {g g':Nat→Nat} {lo hi B:Nat} (h:Chg w w' g g' lo hi) (i:Nat) (h1:w.heap.size≤B) (h2:B+6<w'.heap.size):Chg w w' g (tag7 g' B i) lo hi:=
 ⟨h.os,h.tape,h.output,h.size,fun k hk=>by unfold tag7;rw[if_neg (by omega)];exact h.tidy k hk,fun k hk=>by unfold tag7;rw[if_neg (by omega)];exact h.old k hk,h.kept⟩
theorem Of.ret7 {w:World} {g:Nat→Nat} {i b B j:Nat} {t:TypeId} {cs:Array Value} (h:Of w g i b t cs) (hb:b<B):Of w (tag7 g B j) i b t cs:=⟨h.1,by rw[tag7_ne hb];exact h.2⟩
theorem sknew_any (id:Nat) (hid:id<8) (c:CF) (hc:c.ok) (g:Nat→Nat) (T:Nat) (hT0:0<T) (w:World) (hT:Tidy w g):
  Calls Tryz.prog 56 #[.int .i64 id,cfv c] w fun e w'=> ∃ b pb pd ps B g',e= .returned (.pointer (some ⟨b,0,none⟩))∧Chg w w' g g' T (T+6)∧SkIn w' g' T b pb pd ps B (newK id c):=by
 obtain⟨N0,e0⟩: ∃ z,w.heap.size=z:=⟨_,rfl⟩;have m1:=hc.m1;have m2:=hc.m2;have em:max (c.mss:Int) 100=((c.mss:Nat):Int):=by omega
 have en:min (c.mss:Int) 9000=((c.mss:Nat):Int):=by omega
 have ew:IntKind.u64.wrap (c.mss:Int)=(c.mss:Int):=wrapu_of _ (by omega);have CB:=zH (fun w'=>bnew_any c.mss m1 m2 w');have HT:=zH hT;unfold newK;obtain⟨ms,ems⟩: ∃ z,c.mss=z:=⟨_,rfl⟩;clear hT hc;unfold cfv;rw[ems]at em en ew CB ⊢;clear ems;go_enter Tryz.func56,Tryz.ntmps56
 go_upto_region 2 with fail
 refine wp_named (fun W=>At W N0 24 #[.int .i64 (c.quantum:Nat), .int .i64 (c.first:Nat), .int .i64 (c.limit:Nat), .int .i64 (c.flowLimit:Nat), .int .u64 (c.horizon:Nat), .int .u64 (c.maxRate:Nat), .bool c.drop, .int .i64 (c.cap:Nat), .int .i64 (ms:Nat)]∧Chg w W g g T (T+6)) ⟨by rw[←e0];exact At.made _ _ _,(Chg.refl HT.out _ _).alloc _⟩ (fun W hW=> ?_);obtain⟨A,C⟩:=hW;have c7:=A.ce 7;have HC:=zH C;have HA:=zH A;clear C A;refine wp_region_held_drew (S:=fun wq=>wq.cell? ⟨N0,7,none⟩=some (.int .i64 (c.cap:Nat))) (by kernel_rfl) c7 (fun hHeld=> ?_);refine zt 0 ?_;refine zt 1 ?_;refine zt 2 ?_;refine zt 3 ?_;refine zt 7 ?_;refine zt 8 ?_;refine zc 4 (fun K hK=> ?_);go_simp;refine(bufnew_any _).mono ?_;rintro e w1 ⟨rfl,hw1⟩;have A1:At w1 N0 _ _:=(by rw[hw1];exact HA.out.drew.kept (World.grownBy_alloc _ _ none) (by simp));have O1:Of w1 (tagAt g W.heap.size (T+1)) (T+1) W.heap.size 195 (buf ⟨0,0,0,1073741824⟩):=(by rw[hw1];exact Of.made W.drew g (T+1) _ _);have C1:Chg w w1 g (tagAt g W.heap.size (T+1)) T (T+6):=(by rw[hw1];exact HC.out.drew.tag _ (T+1));clear hw1;refine hK.out _ _ ?_ (fun hHeld=> ?_);focus exact A1.cell 7
 clear hK K;refine zl ?_;refine zc 5 (fun K hK=> ?_);go_simp;refine(bdnew_any _).mono ?_;rintro e w2 ⟨rfl,hw2⟩;have A2:At w2 N0 _ _:=(by rw[hw2];exact A1.kept (World.grownBy_alloc _ _ none) (by simp));have O2:Of w2 (tagAt (tagAt g W.heap.size (T+1)) w1.heap.size (T+2)) (T+2) w1.heap.size 220 #[.slice none 0 0, .int .u64 0]:=(by rw[hw2];exact Of.made w1 _ (T+2) _ _);have C2:Chg w w2 g (tagAt (tagAt g W.heap.size (T+1)) w1.heap.size (T+2)) T (T+6):=(by rw[hw2];exact C1.tag _ (T+2));have P2:Of w2 (tagAt (tagAt g W.heap.size (T+1)) w1.heap.size (T+2)) (T+1) W.heap.size 195 (buf ⟨0,0,0,1073741824⟩):=(by rw[hw2];exact O1.tag _ _);clear hw2;refine hK.out _ _ ?_ (fun hHeld=> ?_);focus exact A2.cell 7
 clear hK K;refine zl ?_;refine zc 6 (fun K hK=> ?_);go_simp;refine(samnew_any _).mono ?_;rintro e w3 ⟨rfl,hw3⟩;have A3:At w3 N0 _ _:=(by rw[hw3];exact A2.kept (World.grownBy_alloc _ _ none) (by simp));obtain⟨g2,eg2⟩: ∃ z,(tagAt (tagAt g W.heap.size (T+1)) w1.heap.size (T+2))=z:=⟨_,rfl⟩;rw[eg2]at O2 C2 P2;have O3:Of w3 (tagAt g2 w2.heap.size (T+4)) (T+4) w2.heap.size 224 (sam sam0):=(by rw[hw3];exact Of.made w2 _ (T+4) _ _);have C3:Chg w w3 g (tagAt g2 w2.heap.size (T+4)) T (T+6):=(by rw[hw3];exact C2.tag _ (T+4));have P3:Of w3 (tagAt g2 w2.heap.size (T+4)) (T+1) W.heap.size 195 (buf ⟨0,0,0,1073741824⟩):=(by rw[hw3];exact P2.tag _ _);have Q3:Of w3 (tagAt g2 w2.heap.size (T+4)) (T+2) w1.heap.size 220 #[.slice none 0 0, .int .u64 0]:=(by rw[hw3];exact O2.tag _ _);clear hw3;refine hK.out _ _ ?_ (fun hHeld=> ?_);focus exact A3.cell 7
 clear hK K;refine zl ?_;refine zc 9 (fun K hK=> ?_);go_simp;refine(CB.out _).mono ?_;rintro e w4 ⟨rfl,hBB,hB4⟩;have A4:=A3.below hB4 A3.lt;refine hK.out _ _ ?_ (fun hHeld=> ?_);focus exact A4.cell 7
 clear hK K;refine zl ?_;refine zt 10 ?_;refine zc 11 (fun K hK=> ?_);go_simp;refine hK.out _ _ ?_ (fun hHeld=> ?_);focus exact(World.grownBy_alloc _ _ none).cell (A4.cell 7) (by simp)
 clear hK K;refine zl ?_;refine zt 12 ?_;refine dnZ ?_;obtain⟨g3,eg3⟩: ∃ z,tagAt g2 w2.heap.size (T+4)=z:=⟨_,rfl⟩;rw[eg3]at O3 C3 P3 Q3;have hsz:w.heap.size≤w3.heap.size:=C3.size;have C4:=(C3.below hB4).retag7 (B:=w3.heap.size) (T+5) hsz hBB.m.lt;have O4:=(O3.below hB4).ret7 (B:=w3.heap.size) (j:=T+5) O3.1.lt;have P4:=(P3.below hB4).ret7 (B:=w3.heap.size) (j:=T+5) P3.1.lt;have Q4:=(Q3.below hB4).ret7 (B:=w3.heap.size) (j:=T+5) Q3.1.lt;obtain⟨g4,eg4⟩: ∃ z,tag7 g3 w3.heap.size (T+5)=z:=⟨_,rfl⟩;have hbt: ∀ i,i≤6→g4 (w3.heap.size+i)=T+5:=fun i hi=>by rw[←eg4];exact if_pos (by omega)
 rw[eg4]at C4 O4 P4 Q4;have CT:=(Chg.refl C4.tidy 0 0).tag (.cells (ska ⟨id,ms,c.cap,⟨0,0,0,1073741824⟩,[],0,sam0,newB ms,0,0⟩ W.heap.size w1.heap.size w2.heap.size w3.heap.size) 124) T;have hS:SkIn (w4.alloc (.cells (ska ⟨id,ms,c.cap,⟨0,0,0,1073741824⟩,[],0,sam0,newB ms,0,0⟩ W.heap.size w1.heap.size w2.heap.size w3.heap.size) 124)) (tagAt g4 w4.heap.size T) T w4.heap.size W.heap.size w1.heap.size w2.heap.size w3.heap.size ⟨id,ms,c.cap,⟨0,0,0,1073741824⟩,[],0,sam0,newB ms,0,0⟩:=
  ⟨Of.made _ _ _ _ _,P4.chg CT (.inr (Nat.zero_le _)),⟨_,Q4.chg CT (.inr (Nat.zero_le _)),Sli.nil _ _ _ _ _⟩,O4.chg CT (.inr (Nat.zero_le _)),hBB.chg CT (fun _ _=> .inr (Nat.zero_le _)),fun i hi=>by
   rw[tagAt_ne g4 T (by have:=hBB.m.lt;omega)];exact hbt i hi⟩
 have HS:=zH hS;have HC5:=zH (C4.tag (.cells (ska ⟨id,ms,c.cap,⟨0,0,0,1073741824⟩,[],0,sam0,newB ms,0,0⟩ W.heap.size w1.heap.size w2.heap.size w3.heap.size) 124) T);clear hS CT C4 O4 P4 Q4 O3 C3 P3 Q3 hHeld hBB hB4 A4 A3 A2 A1 C1 C2 O1 O2 P2 hbt eg2 eg3 eg4;go_wp2_with fail
 go_ret
 exact⟨_,_,_,_,_,_,rfl,HC5.out,HS.out⟩
end
section
open Go.RowKit Go.Lib
structure MC where
 c:CF
 now:Nat
 sk:Nat→Option SK
 q:FQ
def mca (c:CF) (pc:Nat) (sp:Nat→Option Nat) (pq pl:Nat):Array Value:=
 #[.int .i64 c.quantum, .int .i64 c.first, .int .i64 c.limit, .int .i64 c.flowLimit, .int .u64 c.horizon, .int .u64 c.maxRate, .bool c.drop, .int .i64 c.cap, .int .i64 c.mss,
  .pointer (some ⟨pc,0,none⟩),pval (sp 0),pval (sp 1),pval (sp 2),pval (sp 3),pval (sp 4),pval (sp 5),pval (sp 6),pval (sp 7), .pointer (some ⟨pq,0,none⟩), .pointer (some ⟨pl,0,none⟩)]
def SkAt (w:World) (g:Nat→Nat) (T:Nat):Option Nat→Option SK→Prop
 | none,none=>True
 | some p,some k=> ∃ pb pd ps B,SkIn w g T p pb pd ps B k
 | _,_=>False
structure McIn (w:World) (g:Nat→Nat) (T b pc:Nat) (sp:Nat→Option Nat) (pq pl:Nat) (fp:Nat→Option Nat) (bl bt:Nat) (m:MC):Prop where
 own:Of w g T b 83 (mca m.c pc sp pq pl)
 clk:Of w g (T+1) pc 111 (clk m.now)
 led: ∃ f,Of w g (T+2) pl 117 (led f)
 q:FqIn w g (T+3) pq fp bl bt m.q
 sk: ∀ s,s<8→SkAt w g (T+28+6*s) (sp s) (m.sk s)
structure MC.ok (m:MC):Prop where
 c:m.c.ok
 qc:m.q.c=m.c
 now:m.now≤4611686018427387904
 q:m.q.inv
 sk: ∀ s k,s<8→m.sk s=some k→k.ok∧k.id=s
theorem mca_sock (c:CF) (pc:Nat) (sp:Nat→Option Nat) (pq pl s:Nat) (hs:s<8):(mca c pc sp pq pl)[10+s]? =some (pval (sp s)):=by
 match s,hs with
 | 0,_=>rfl
 | 1,_=>rfl
 | 2,_=>rfl
 | 3,_=>rfl
 | 4,_=>rfl
 | 5,_=>rfl
 | 6,_=>rfl
 | 7,_=>rfl
section
variable {w w':World} {g g':Nat→Nat} {T lo hi b pc pq pl bl bt:Nat} {sp fp:Nat→Option Nat} {m:MC} {p:Option Nat} {k:Option SK}
theorem SkAt.below (h:SkAt w g T p k) (hb:Below w.heap.size w w'):SkAt w' g T p k:=by
 cases p<;>cases k<;>try exact h
 obtain⟨pb,pd,ps,B,h⟩:=h;exact⟨pb,pd,ps,B,h.below hb⟩
theorem SkAt.chg (h:SkAt w g T p k) (c:Chg w w' g g' lo hi) (h1:T+6≤lo∨hi≤T):SkAt w' g' T p k:=by
 cases p<;>cases k<;>try exact h
 obtain⟨pb,pd,ps,B,h⟩:=h;exact⟨pb,pd,ps,B,h.chg c h1⟩
theorem SkAt.one (h:SkAt w g T p k):(p=none∧k=none)∨ ∃ a x,p=some a∧k=some x∧ ∃ pb pd ps B,SkIn w g T a pb pd ps B x:=by
 cases p<;>cases k
 ·exact .inl ⟨rfl,rfl⟩
 ·exact h.elim
 ·exact h.elim
 ·exact .inr ⟨_,_,rfl,rfl,h⟩
theorem McIn.below (h:McIn w g T b pc sp pq pl fp bl bt m) (hb:Below w.heap.size w w'):McIn w' g T b pc sp pq pl fp bl bt m:=
 ⟨h.own.below hb,h.clk.below hb,h.led.imp fun _ k=>k.below hb,h.q.below hb,fun s hs=>(h.sk s hs).below hb⟩
theorem McIn.chg (h:McIn w g T b pc sp pq pl fp bl bt m) (c:Chg w w' g g' lo hi) (h1:T+76≤lo∨hi≤T):McIn w' g' T b pc sp pq pl fp bl bt m:=
 ⟨h.own.chg c (by omega),h.clk.chg c (by omega),h.led.imp fun _ k=>k.chg c (by omega),h.q.chg c (by omega),fun s hs=>(h.sk s hs).chg c (by omega)⟩
theorem McIn.sock (h:McIn w g T b pc sp pq pl fp bl bt m) {s:Nat} (hs:s<8):w.cell? ⟨b,10+s,none⟩=some (pval (sp s)):=(h.own.1.cell _).trans (mca_sock _ _ _ _ _ s hs)
end
theorem is_any (i:Int) (w:World):Calls Tryz.prog 49 #[.int .i64 i] w fun e w'=>e= .returned (.bool (decide (0≤i)&&decide (i<8)))∧w=w':=by
 by_cases h1:0≤i
 ·have h1':decide (0≤i)=true:=decide_eq_true h1
  rw[h1',Bool.true_and];obtain⟨q,hq⟩: ∃ q,decide (i<8)=q:=⟨_,rfl⟩;rw[hq];go_enter Tryz.func49,Tryz.ntmps49
  go_wp2_with fail
  go_ret
  exact⟨rfl,rfl⟩
 ·have h1':decide (0≤i)=false:=decide_eq_false h1
  rw[h1',Bool.false_and];go_enter Tryz.func49,Tryz.ntmps49
  go_wp2_with fail
  go_ret
  exact⟨rfl,rfl⟩
theorem mcopen_any (b s:Nat) (hs:s<8) (pc:Nat) (sp:Nat→Option Nat) (pq pl:Nat) (fp:Nat→Option Nat) (bl bt:Nat) (m:MC) (g:Nat→Nat) (T:Nat) (w:World) (h:McIn w g T b pc sp pq pl fp bl bt m):
  Calls Tryz.prog 29 #[.pointer (some ⟨b,0,none⟩), .int .i64 s] w fun e w'=>e= .returned (pval (sp s))∧w=w':=by
 have cs:=h.sock hs;have CI:Hid (∀ w',Calls Tryz.prog 49 #[.int .i64 s] w' fun e w''=>e= .returned (.bool true)∧w'=w''):=zH fun w'=>(is_any s w').mono fun e w'' ⟨h1,h2⟩=>⟨by rw[h1];simp;omega,h2⟩
 have hs8:(s:Int)<8:=by omega
 clear h;go_enter Tryz.func29,Tryz.ntmps29
 go_wp2_with fail
 refine(CI.out _).mono ?_;rintro e w1 ⟨rfl,rfl⟩;go_wp2_with fail
 go_ret
 exact⟨rfl,rfl⟩
theorem mcnow_any (b pc:Nat) (sp:Nat→Option Nat) (pq pl:Nat) (fp:Nat→Option Nat) (bl bt:Nat) (m:MC) (g:Nat→Nat) (T:Nat) (w:World) (h:McIn w g T b pc sp pq pl fp bl bt m):
  Calls Tryz.prog 14 #[.pointer (some ⟨b,0,none⟩)] w fun e w'=>e= .returned (.int .u64 (m.now:Nat))∧w=w':=by
 have c9:=h.own.1.ce 9;have CN:=zH (now_any pc m.now w h.clk.1);clear h;go_enter Tryz.func14,Tryz.ntmps14
 go_wp2_with fail
 refine CN.out.mono ?_;rintro e w1 ⟨rfl,rfl⟩;go_wp2_with fail
 go_ret
 exact⟨rfl,rfl⟩
end
end Go.Proofs.YtojgokiobdpclaaGreat
