import Derived.Test.YtojgokiobdpclaaGreatP05
namespace Go.Proofs.YtojgokiobdpclaaGreat
set_option linter.unusedVariables false
set_option linter.unusedSimpArgs false
set_option maxRecDepth 8000
set_option maxHeartbeats 8000000
section
open Go.RowKit Go.Lib
theorem longest_any (z x y:Nat) (w:World) (hx:w.cell? ⟨z,0,none⟩=some (.int .u64 x)) (hy:w.cell? ⟨z,1,none⟩=some (.int .u64 y)):
  Calls Tryz.prog 197 #[.slice (some ⟨z,0,none⟩) 2 2] w fun e w'=>e= .returned (.int .u64 (max x y:Nat))∧w=w':=by
 have hc:(x=0∧y=0)∨(x=0∧0<y)∨(0<x∧y≤x)∨(0<x∧x<y):=by omega
 rcases hc with⟨rfl,rfl⟩ | ⟨rfl,h2⟩ | ⟨h1,h2⟩ | ⟨h1,h2⟩
 ·rw[Nat.max_self]
  go_enter Tryz.func197,Tryz.ntmps197
  go_wp2;go_step3
  go_wp2;go_step3
  go_wp2;refine wp_loop_rounds 3 ?_;rw[rounds_succ];go_wp2;rw[rounds_succ];go_wp2;rw[rounds_succ];go_wp2;(try rw[Exit.noGoto_ret])
  go_ret
  exact⟨rfl,rfl⟩
 ·rw[Nat.max_eq_right (by omega)]
  have q1:decide ((y:Int)≤0)=false:=by simp;omega
  have q2:decide (y=0)=false:=by simp;omega
  go_enter Tryz.func197,Tryz.ntmps197
  go_wp2;go_step3
  go_wp2;go_step3
  go_wp2;refine wp_loop_rounds 3 ?_;rw[rounds_succ];go_wp2;rw[rounds_succ];go_wp2;rw[rounds_succ];go_wp2;(try rw[Exit.noGoto_ret])
  go_ret
  exact⟨rfl,rfl⟩
 ·rw[Nat.max_eq_left h2]
  have q1:decide ((x:Int)≤0)=false:=by simp;omega
  have q2:decide (x=0)=false:=by simp;omega
  have q3:decide (y≤x)=true:=by simp;omega
  clear h2;go_enter Tryz.func197,Tryz.ntmps197
  go_wp2;go_step3
  go_wp2;go_step3
  go_wp2;refine wp_loop_rounds 3 ?_;rw[rounds_succ];go_wp2;rw[rounds_succ];go_wp2;rw[rounds_succ];go_wp2;(try rw[Exit.noGoto_ret])
  go_ret
  exact⟨rfl,rfl⟩
 ·rw[Nat.max_eq_right (by omega)]
  have q1:decide ((x:Int)≤0)=false:=by simp;omega
  have q2:decide (x=0)=false:=by simp;omega
  have q3:decide (y≤x)=false:=by simp;omega
  clear h2;go_enter Tryz.func197,Tryz.ntmps197
  go_wp2;go_step3
  go_wp2;go_step3
  go_wp2;refine wp_loop_rounds 3 ?_;rw[rounds_succ];go_wp2;rw[rounds_succ];go_wp2;rw[rounds_succ];go_wp2;(try rw[Exit.noGoto_ret])
  go_ret
  exact⟨rfl,rfl⟩
def takeV (s:SA) (now lost flight:Nat):SM:=
 if s.is then⟨now,s.d,s.prior,max s.sending (satSub now s.priorAt),s.rtt,s.acks,lost,flight,s.lim⟩else⟨now,s.d,0,0,0,0,lost,flight,false⟩
def takeF (s:SA):SA:={ s with is:=false,acks:=0,prior:=0,priorAt:=0,lim:=false,sending:=0,rtt:=0 }
def cellsM (x:SM):Array Value:= #[.int .u64 x.now, .int .u64 x.delivered, .int .u64 x.prior, .int .u64 x.interval, .int .u64 x.rtt, .int .u64 x.acked, .int .u64 x.lost, .int .u64 x.flight, .bool x.limited]
theorem Put.new {w w1 w2:World} {b c:Nat} {t t':TypeId} {cs cs':Array Value} (h:Put w w1 b t cs) (p:Put w1 w2 c t' cs') (hc:w.heap.size≤c) (hne:b≠c):Put w w2 b t cs:=by
 obtain⟨h1,h2⟩:=h;exact⟨p.other h1 hne,p.2.os.trans h2.os,p.2.tape.trans h2.tape,p.2.output.trans h2.output,Nat.le_trans h2.size p.2.size,fun k hk hk2=>(p.2.block k (Nat.lt_of_lt_of_le hk h2.size) (by intro e;simp at e;omega)).trans (h2.block k hk hk2)⟩
theorem take_no (b:Nat) (s:SA) (now l f:Nat) (w:World) (h:At w b 224 (sam s)) (hi:s.is=false):
  Calls Tryz.prog 164 #[.pointer (some ⟨b,0,none⟩), .int .u64 now, .int .u64 l, .int .u64 f] w fun e w'=>e= .returned (smp ⟨now,s.d,0,0,0,0,l,f,false⟩)∧Put w w' b 224 (sam (takeF s)):=by
 have h0:=h.ce 0;have h4:w.cell? ⟨b,4,none⟩=some (.bool false):=by rw[←hi];exact h.cell 4
 have h5:=h.ce 5;have h6:=h.ce 6;have h7:=h.ce 7;have h8:=h.ce 8;have h9:=h.ce 9;have h10:=h.ce 10;have f4:=h.free 4;have f5:=h.free 5;have f6:=h.free 6;have f7:=h.free 7;have f8:=h.free 8;have f9:=h.free 9;have f10:=h.free 10;have hlt:=h.lt;have hlt1:b<w.heap.size+1:=by omega
 have hlt2:b<w.heap.size+1+1:=by omega
 have hlt3:b<w.heap.size+2:=by omega
 have H:=zH h;clear h hi;unfold takeF;go_enter Tryz.func164,Tryz.ntmps164
 go_wp2;refine bodyPost_ret (v:=smp ⟨now,s.d,0,0,0,0,l,f,false⟩) (by simp[results,Tryz.results164,go_sem,smp]) rfl ⟨rfl, ?_⟩;exact((((((((((Put.same H.out).s 4 _).s 5 _).s 6 _).s 7 _).s 8 _).s 9 _).s 10 _).a _).a _).a _
end
section
open Go.RowKit Go.Lib
theorem take_clear {T:TypeId} {w w3:World} {b:Nat} {s:SA} (P:Put w w3 b T (sam s)):Put w (World.setCell (World.setCell (World.setCell (World.setCell (World.setCell (World.setCell (World.setCell w3 ⟨b,4,none⟩ (.bool false)) ⟨b,5,none⟩ (.int .u64 0)) ⟨b,6,none⟩ (.int .u64 0)) ⟨b,7,none⟩ (.int .u64 0)) ⟨b,8,none⟩ (.bool false)) ⟨b,9,none⟩ (.int .u64 0)) ⟨b,10,none⟩ (.int .u64 0)) b T (sam (takeF s)):=by
 have h:=(((((((P.s 4 (.bool false)).s 5 (.int .u64 0)).s 6 (.int .u64 0)).s 7 (.int .u64 0)).s 8 (.bool false)).s 9 (.int .u64 0)).s 10 (.int .u64 0));simp only[sam,takeF,List.setIfInBounds_toArray,List.set_cons_zero,List.set_cons_succ]at h ⊢;exact h
theorem take_fill {T:TypeId} {w3:World} {n:Nat} {y x:SM} (Z:At w3 n T (cellsM y)):Put w3 (World.setCell (World.setCell (World.setCell (World.setCell (World.setCell (World.setCell (World.setCell (World.setCell (World.setCell w3 ⟨n,0,none⟩ (.int .u64 x.now)) ⟨n,1,none⟩ (.int .u64 x.delivered)) ⟨n,2,none⟩ (.int .u64 x.prior)) ⟨n,3,none⟩ (.int .u64 x.interval)) ⟨n,4,none⟩ (.int .u64 x.rtt)) ⟨n,5,none⟩ (.int .u64 x.acked)) ⟨n,6,none⟩ (.int .u64 x.lost)) ⟨n,7,none⟩ (.int .u64 x.flight)) ⟨n,8,none⟩ (.bool x.limited)) n T (cellsM x):=by
 have h:=((((((((((Put.same Z).s 0 (.int .u64 x.now)).s 1 (.int .u64 x.delivered)).s 2 (.int .u64 x.prior)).s 3 (.int .u64 x.interval)).s 4 (.int .u64 x.rtt)).s 5 (.int .u64 x.acked)).s 6 (.int .u64 x.lost)).s 7 (.int .u64 x.flight)).s 8 (.bool x.limited));simp only[cellsM,List.setIfInBounds_toArray,List.set_cons_zero,List.set_cons_succ]at h ⊢;exact h
end
section
open Go.RowKit Go.Lib
theorem q_named {Q:Exit→Act→World→Prop} {e:Exit} {a:Act} {w:World} (Φ:World→Prop) (h0:Φ w) (h: ∀ w',Φ w'→Q e a w'):Q e a w:=h w h0
theorem At.al {w:World} {b:Nat} {t:TypeId} {cs:Array Value} (h:At w b t cs) (o:Obj):At (w.alloc o) b t cs:=h.kept (World.grownBy_alloc w o none) (by simp)
theorem At.mk1 {W:World} {n:Nat} (t:TypeId) (cs:Array Value) (hs:W.heap.size=n):At (W.alloc (.cells cs t)) n t cs:=by subst hs;exact At.made _ _ _
def cellsA (s:SA):Array Value:= #[.bool s.is, .int .u64 s.acks, .int .u64 s.prior, .int .u64 s.priorAt, .bool s.lim, .int .u64 s.sending, .int .u64 s.rtt]
theorem take_yes (b:Nat) (s:SA) (now l f:Nat) (hs:s.ok) (hn:now<18446744073709551616) (w:World) (h:At w b 224 (sam s)) (hi:s.is=true):
  Calls Tryz.prog 164 #[.pointer (some ⟨b,0,none⟩), .int .u64 now, .int .u64 l, .int .u64 f] w fun e w'=>e= .returned (smp ⟨now,s.d,s.prior,max s.sending (satSub now s.priorAt),s.rtt,s.acks,l,f,s.lim⟩)∧Put w w' b 224 (sam (takeF s)):=by
 have h0:=h.ce 0;have h4:w.cell? ⟨b,4,none⟩=some (.bool true):=by rw[←hi];exact h.cell 4
 have h5:=h.ce 5;have h6:=h.ce 6;have h7:=h.ce 7;have h8:=h.ce 8;have h9:=h.ce 9;have h10:=h.ce 10;have f4:=h.free 4;have f5:=h.free 5;have f6:=h.free 6;have f7:=h.free 7;have f8:=h.free 8;have f9:=h.free 9;have f10:=h.free 10;have hlt:=h.lt;have hlt1:b<w.heap.size+1:=by omega
 have hlt2:b<w.heap.size+1+1:=by omega
 have hlt3:b<w.heap.size+2:=by omega
 have H:=zH h;have CS:=zH (sub_any now s.priorAt hn hs.2.2.2.2);generalize satSub now s.priorAt=U at*
 obtain⟨M,hM⟩: ∃ M,max s.sending U=M:=⟨_,rfl⟩;rw[hM];have CL:Hid (∀(z:Nat) (w:World),w.cell? ⟨z,0,none⟩=some (.int .u64 s.sending)→w.cell? ⟨z,1,none⟩=some (.int .u64 U)→Calls Tryz.prog 197 #[.slice (some ⟨z,0,none⟩) 2 2] w fun e w'=>e= .returned (.int .u64 (M:Nat))∧w=w'):=zH (fun z w h1 h2=>by
  have:=longest_any z s.sending U w h1 h2;rw[hM]at this;exact this)
 clear hM;have HI:Hid (cellsA s= #[.bool true, .int .u64 s.acks, .int .u64 s.prior, .int .u64 s.priorAt, .bool s.lim, .int .u64 s.sending, .int .u64 s.rtt]):=zH (by unfold cellsA;rw[hi]);clear h hi hs hn;go_enter Tryz.func164,Tryz.ntmps164
 go_wp2_with fail
 refine wp_named (fun w1=>Put w w1 b 224 (sam s)∧At w1 w.heap.size 266 (cellsM ⟨0,0,0,0,0,0,0,0,false⟩)∧At w1 (w.heap.size+1) 266 (cellsM ⟨now,s.d,0,0,0,0,l,f,false⟩)∧At w1 (w.heap.size+1+1) 222 #[.bool true, .int .u64 s.acks, .int .u64 s.prior, .int .u64 s.priorAt, .bool s.lim, .int .u64 s.sending, .int .u64 s.rtt])
  ⟨(((Put.same H.out).a _).a _).a _,((At.made _ _ _).al _).al _,(At.mk1 _ _ (by simp)).al _,At.mk1 _ _ (by simp)⟩ (fun w1 hw1=> ?_)
 obtain⟨p1,z1,y1,x1⟩:=hw1;clear h0 h4 h5 h6 h7 h8 h9 h10 f4 f5 f6 f7 f8 f9 f10;have a1:=x1.ce 1;have a2:=x1.ce 2;have a4:=x1.ce 4;have a6:=x1.ce 6;have y5:=y1.ce 5;have y2:=y1.ce 2;have y8:=y1.ce 8;have y4:=y1.ce 4;have g5:=y1.free 5;have g2:=y1.free 2;have g8:=y1.free 8;have g4:=y1.free 4;have P1:=zH p1;have Z1:=zH z1;have Y1:=zH y1;have X1:=zH x1;have hz1:=x1.lt;clear p1 z1 y1 x1;go_region
 go_wp2_with fail
 refine wp_named (fun w2=>Put w1 w2 (w.heap.size+1) 266 (cellsM ⟨now,s.d,s.prior,0,s.rtt,s.acks,l,f,s.lim⟩)) (((((Put.same Y1.out).s 5 _).s 2 _).s 8 _).s 4 _).d (fun w2 p2=> ?_);have P2:=zH (P1.out.new p2 (by omega) (by omega));have Z2:=zH (p2.other Z1.out (by omega));have X2:=p2.other X1.out (by omega);have b5:=X2.ce 5;have b3:=X2.ce 3;have c3:=p2.1.ce 3;have d3:=p2.1.free 3;have hz2:=X2.lt;have Y2:=zH p2.1;clear p2 X2 a1 a2 a4 a6 y5 y2 y8 y4 g5 g2 g8 g4;have i1:w.heap.size+1<w2.heap.size:=by omega
 go_region_with (first | (go_at_call 162;(refine(CS.out _).mono ?_;rintro e w' ⟨rfl,rfl⟩)) | (go_at_call 197;(refine(CL.out _ _ (by simp) (by simp)).mono ?_;rintro e w' ⟨rfl,rfl⟩)))
 all_goals
  refine q_named (fun w3=>Put w2 w3 (w.heap.size+1) 266 (cellsM ⟨now,s.d,s.prior,M,s.rtt,s.acks,l,f,s.lim⟩)) ((((Put.same Y2.out).s 3 _).a _).d) (fun w3 p3=> ?_);have P3:=zH (P2.out.new p3 (by omega) (by omega));have Z3:=zH (p3.other Z2.out (by omega));have Y3:=zH p3.1;have hz3:=P3.out.1.lt;have hz4:=p3.1.lt;clear p3 b5 b3 c3 d3;have h4:=P3.out.1.ce 4;have h5:=P3.out.1.ce 5;have h6:=P3.out.1.ce 6;have h7:=P3.out.1.ce 7;have h8:=P3.out.1.ce 8;have h9:=P3.out.1.ce 9;have h10:=P3.out.1.ce 10;have f4:=P3.out.1.free 4;have f5:=P3.out.1.free 5;have f6:=P3.out.1.free 6;have f7:=P3.out.1.free 7;have f8:=P3.out.1.free 8;have f9:=P3.out.1.free 9;have f10:=P3.out.1.free 10;have y0:=Y3.out.ce 0;have y1:=Y3.out.ce 1;have y2:=Y3.out.ce 2;have y3:=Y3.out.ce 3;have y4:=Y3.out.ce 4;have y5:=Y3.out.ce 5;have y6:=Y3.out.ce 6;have y7:=Y3.out.ce 7;have y8:=Y3.out.ce 8;have z0:=Z3.out.ce 0;have z1:=Z3.out.ce 1;have z2:=Z3.out.ce 2;have z3:=Z3.out.ce 3;have z4:=Z3.out.ce 4;have z5:=Z3.out.ce 5;have z6:=Z3.out.ce 6;have z7:=Z3.out.ce 7;have z8:=Z3.out.ce 8;have e0:=Z3.out.free 0;have e1:=Z3.out.free 1;have e2:=Z3.out.free 2;have e3:=Z3.out.free 3;have e4:=Z3.out.free 4;have e5:=Z3.out.free 5;have e6:=Z3.out.free 6;have e7:=Z3.out.free 7;have e8:=Z3.out.free 8;go_wp2;have pb:=take_clear P3.out;have pz:=take_fill (x:=⟨now,s.d,s.prior,M,s.rtt,s.acks,l,f,s.lim⟩) ((take_clear (Put.same P3.out.1)).other Z3.out (by omega))
  dsimp only at pz
  refine q_named (fun w4=>Put w w4 b 224 (sam (takeF s))∧At w4 w.heap.size 266 (cellsM ⟨now,s.d,s.prior,M,s.rtt,s.acks,l,f,s.lim⟩)) ⟨pb.new pz (Nat.le_refl _) (by omega),pz.1⟩ (fun w4 hw4=> ?_);obtain⟨P4,Z4⟩:=hw4;have q0:=Z4.ce 0;have q1:=Z4.ce 1;have q2:=Z4.ce 2;have q3:=Z4.ce 3;have q4:=Z4.ce 4;have q5:=Z4.ce 5;have q6:=Z4.ce 6;have q7:=Z4.ce 7;have q8:=Z4.ce 8;exact bodyPost_ret (v:=smp ⟨now,s.d,s.prior,M,s.rtt,s.acks,l,f,s.lim⟩) (by simp[results,Tryz.results164,go_sem,smp,q0,q1,q2,q3,q4,q5,q6,q7,q8]) rfl ⟨rfl,P4⟩
end
end Go.Proofs.YtojgokiobdpclaaGreat
