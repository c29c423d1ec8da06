import Derived.Test.YtojgokiobdpclaaGreatP41
import Derived.Test.YtojgokiobdpclaaGreatP42
namespace Go.Proofs.YtojgokiobdpclaaGreat
set_option linter.unusedVariables false
set_option linter.unusedSimpArgs false
set_option maxRecDepth 8000
set_option maxHeartbeats 8000000
section
open Go.RowKit Go.Lib
def outz:Array Value:= #[.slice none 0 0, .slice none 0 0, .slice none 0 0, .int .u64 0]
def OutV (w:World) (g:Nat→Nat) (T:Nat) (v:Value) (o:OU):Prop:=
 ∃ vd vx vf,v= .agg #[vd,vx,vf, .int .u64 o.dog]∧DepAt w g vd o.dep∧Sli w g (T+1) 48 5 vx o.drop.length (o.drop.flatMap sgl)∧Sli w g (T+2) 3 1 vf o.fates.length (ints o.fates)
theorem DepAt.chg {w w':World} {g g':Nat→Nat} {lo hi:Nat} {v:Value} {l:List SG} (h:DepAt w g v l) (c:Chg w w' g g' lo hi) (h0:0<lo):DepAt w' g' v l:=by
 match l,h with
 | [],h=>exact h
 | [x],⟨bd,e,h⟩=>exact⟨bd,e,h.chg c (.inl h0)⟩
theorem DepAt.below {w w':World} {g:Nat→Nat} {v:Value} {l:List SG} (h:DepAt w g v l) (hb:Below w.heap.size w w'):DepAt w' g v l:=by
 match l,h with
 | [],h=>exact h
 | [x],⟨bd,e,h⟩=>exact⟨bd,e,h.below hb⟩
theorem DepAt.sl {w:World} {g:Nat→Nat} {v:Value} {l:List SG} (h:DepAt w g v l): ∃ a n c,v= .slice a n c:=by
 match l,h with
 | [],h=>exact⟨_,_,_,h⟩
 | [x],⟨bd,e,h⟩=>exact⟨_,_,_,e⟩
theorem DepAt.aside {w w':World} {g:Nat→Nat} {v:Value} {l:List SG} {N:Nat} {t:TypeId} {cs:Array Value} (h:DepAt w g v l) (A:At w N t cs) (ht:t≠48) (hg:w.grownBy w' (some N)):DepAt w' g v l:=by
 match l,h with
 | [],h=>exact h
 | [x],⟨bd,e,h⟩=>
  refine⟨bd,e,h.1.kept hg ?_,h.2⟩;intro hb;cases hb
  have h1:=h.1;unfold At at h1 A;rw[A]at h1;injection h1 with h1
  injection h1 with _ h1
  exact ht h1
theorem OutV.chg {w w':World} {g g':Nat→Nat} {T lo hi:Nat} {v:Value} {o:OU} (h:OutV w g T v o) (c:Chg w w' g g' lo hi) (h0:0<lo) (h1:T+3≤lo∨hi≤T):OutV w' g' T v o:=by
 obtain⟨vd,vx,vf,e,k1,k2,k3⟩:=h;exact⟨vd,vx,vf,e,k1.chg c h0,k2.chg c (by omega),k3.chg c (by omega)⟩
theorem OutV.below {w w':World} {g:Nat→Nat} {T:Nat} {v:Value} {o:OU} (h:OutV w g T v o) (hb:Below w.heap.size w w'):OutV w' g T v o:=by
 obtain⟨vd,vx,vf,e,k1,k2,k3⟩:=h;exact⟨vd,vx,vf,e,k1.below hb,k2.below hb,k3.below hb⟩
theorem outz_v (w:World) (g:Nat→Nat) (T:Nat):OutV w g T (.agg outz) ou0:=⟨_,_,_,rfl,rfl,Sli.nil _ _ _ _ _,Sli.nil _ _ _ _ _⟩
section
variable {w w':World} {g g':Nat→Nat} {T b pc pq pl bl bt:Nat} {sp fp:Nat→Option Nat} {m:MC}
theorem McIn.put_clk {n:Nat} (h:McIn w g T b pc sp pq pl fp bl bt m) (hT:Tidy w g) (p:Put w w' pc 111 (Go.Proofs.YtojgokiobdpclaaGreat.clk n)):McIn w' g T b pc sp pq pl fp bl bt { m with now:=n }∧Chg w w' g g (T+1) (T+2):=by
 have c:=(Chg.refl hT (T+1) (T+2)).put p (fun _=>by have:=h.clk.2;omega);exact⟨⟨h.own.chg c (by omega),h.clk.put p,h.led.imp fun _ k=>k.chg c (by omega),h.q.chg c (by omega),fun s hs=>(h.sk s hs).chg c (by omega)⟩,c⟩
end
theorem do_start {w:World} {g:Nat→Nat} {T b pc pq pl bl bt:Nat} {sp fp:Nat→Option Nat} {m:MC} {v:Value} {n N0:Nat} {xs:List Value} (h:McIn w g T b pc sp pq pl fp bl bt m) (hT:Tidy w g) (hr:Rd w v 2 n xs) (e0:w.heap.size=N0) (t:TypeId) (cs:Array Value):
  ∃ g',At (((w.alloc (.cells cs t)).alloc (.cells outz 41)).alloc (.cells outz 41)) N0 t cs∧At (((w.alloc (.cells cs t)).alloc (.cells outz 41)).alloc (.cells outz 41)) (N0+1) 41 outz∧g' N0=0∧g' (N0+1)=0∧OuIn (((w.alloc (.cells cs t)).alloc (.cells outz 41)).alloc (.cells outz 41)) g' (T+76) (N0+1+1) (.slice none 0 0) ou0∧McIn (((w.alloc (.cells cs t)).alloc (.cells outz 41)).alloc (.cells outz 41)) g' T b pc sp pq pl fp bl bt m∧Chg w (((w.alloc (.cells cs t)).alloc (.cells outz 41)).alloc (.cells outz 41)) g g' T (T+79)∧Rd (((w.alloc (.cells cs t)).alloc (.cells outz 41)).alloc (.cells outz 41)) v 2 n xs:=by
 have C0:=(((Chg.refl hT 0 0).alloc (.cells cs t)).alloc (.cells outz 41)).tag (.cells outz 41) (T+76);have C1:=(((Chg.refl hT T (T+79)).alloc (.cells cs t)).alloc (.cells outz 41)).tag (.cells outz 41) (T+76);have O:=Of.made ((w.alloc (.cells cs t)).alloc (.cells outz 41)) g (T+76) 41 outz;have A0:=((At.made w t cs).kept (World.grownBy_alloc _ (.cells outz 41) none) (by simp)).kept (World.grownBy_alloc _ (.cells outz 41) none) (by simp);have A1:=(At.made (w.alloc (.cells cs t)) 41 outz).kept (World.grownBy_alloc _ (.cells outz 41) none) (by simp);simp only[alloc_size,e0]at C0 C1 O A0 A1;have hB:Below w.heap.size w (((w.alloc (.cells cs t)).alloc (.cells outz 41)).alloc (.cells outz 41)):=(((Below.refl _ w).alloc (Nat.le_refl _) _).alloc (by simp) _).alloc (by simp;omega) _;exact⟨tagAt g (N0+1+1) (T+76),A0,A1,by rw[tagAt_ne g _ (by omega)];exact hT _ (by omega),by rw[tagAt_ne g _ (by omega)];exact hT _ (by omega),⟨_,_,O,Sli.nil _ _ _ _ _,Sli.nil _ _ _ _ _⟩,h.chg C0 (.inr (Nat.zero_le _)),C1,hr.below hB⟩
theorem mcdo_any (b:Nat) (pc:Nat) (sp:Nat→Option Nat) (pq pl:Nat) (fp:Nat→Option Nat) (bl bt:Nat) (m:MC) (nn:Nat) (hm:m.okn nn) (hnn:nn<1000000) (d:DD) (hd:d.ok) (v:Value) (g:Nat→Nat) (T:Nat) (hT0:0<T) (w:World) (hT:Tidy w g) (hr:Rd w v 2 d.sks.length (d.sks.flatMap rgl)) (h:McIn w g T b pc sp pq pl fp bl bt m):
  Calls Tryz.prog 13 #[.pointer (some ⟨b,0,none⟩),ddv d v] w fun e w'=> ∃ vo,e= .returned (.tuple #[vo, .int .i64 ((doF m d).1:Nat)])∧ ∃ g' sp' fp',Chg w w' g g' T (T+79)∧McIn w' g' T b pc sp' pq pl fp' bl bt (doF m d).2.1∧OutV w' g' (T+76) vo (doF m d).2.2:=by
 obtain⟨av,kv,rfl⟩:=hr.cap_;obtain⟨nk,enk⟩: ∃ z,d.sks.length=z:=⟨_,rfl⟩;obtain⟨N0,e0⟩: ∃ z,w.heap.size=z:=⟨_,rfl⟩;have gN: ∀ i,g (N0+i)=0:=fun i=>hT _ (by omega)
 have hnow:m.now<18446744073709551616:=by have:=hm.ok.now;omega
 have hbN:b<N0:=by rw[←e0];exact h.own.1.lt
 obtain⟨res,er⟩: ∃ z,doF m d=z:=⟨_,rfl⟩;rw[er];have HRES:=zH er;have HH:=zH h;have HT:=zH hT;have HR:=zH hr;have HM:=zH hm;unfold ddv;rw[enk];rw[enk]at HR;clear h hT hr hm er;go_enter Tryz.func13,Tryz.ntmps13
 go_upto_block 0 with fail
 refine wp_named (fun W=> ∃ g',At W N0 46 #[.int .i64 d.kind, .int .i64 d.sock, .int .i64 d.len, .int .u64 d.upto, .int .u64 d.at_, .slice av nk kv, .int .i64 d.cr.quantum, .int .i64 d.cr.first, .int .i64 d.cr.limit, .int .i64 d.cr.flowLimit, .int .u64 d.cr.horizon, .int .u64 d.cr.maxRate, .bool d.cr.drop, .int .i64 d.cr.cap, .int .i64 d.cr.mss]∧At W (N0+1) 41 outz∧g' N0=0∧g' (N0+1)=0∧OuIn W g' (T+76) (N0+1+1) (.slice none 0 0) ou0∧McIn W g' T b pc sp pq pl fp bl bt m∧Chg w W g g' T (T+79)∧Rd W (.slice av nk kv) 2 nk (d.sks.flatMap rgl)) (do_start HH.out HT.out HR.out e0 _ _) (fun W hW=> ?_);obtain⟨g1,Q,Z,gQ,gZ,O,X,C,R⟩:=hW;have HQ:=zH Q;have HZ:=zH Z;have HO:=zH O;have HX:=zH X;have HC:=zH C;have HRd:=zH R;clear Q Z O X C R HH HT HR;go_cut [7] (fun v7 wx=> ∃ g' sp' fp' vd,v7= .int .i64 (res.1:Nat)∧Chg w wx g g' T (T+79)∧McIn wx g' T b pc sp' pq pl fp' bl bt res.2.1∧OuIn wx g' (T+76) (N0+1+1) vd res.2.2∧DepAt wx g' vd res.2.2.dep∧At wx (N0+1) 41 outz∧g' (N0+1)=0)
 case first=>
  by_cases h5:d.kind=5
  ·obtain rfl:res=(mvE m.now d.at_,{ m with now:=mvN m.now d.at_ },ou0):=by rw[←HRES.out];unfold doF;exact if_pos h5
   have b5:(d.kind==5)=true:=by rw[beq_iff_eq];exact h5
   have c9:=HX.out.own.1.ce 9;have q4:=HQ.out.ce 4;have CM:=zH (fun w' (h:McIn w' g1 T b pc sp pq pl fp bl bt m)=>move_any pc m.now d.at_ w' h.clk.1);obtain⟨r,er⟩: ∃ z,mvE m.now d.at_=z:=⟨_,rfl⟩;rw[er]at CM;clear HRES h5;go_upto_region 8 with fail
   refine wp_region_held_drew (S:=fun wq=>wq.cell? ⟨b,9,none⟩=some (.pointer (some ⟨pc,0,none⟩))∧wq.cell? ⟨N0,4,none⟩=some (.int .u64 d.at_)) (by kernel_rfl) ⟨c9,q4⟩ (fun hHeld=> ?_);refine zt 0 ?_;refine zt 1 ?_;refine zt 2 ?_;refine zt 3 ?_;refine zt 4 ?_;refine zt 5 ?_;refine zc 6 (fun K hK=> ?_);go_simp;refine(CM.out _ (HX.out.below (Below.refl _ _).drew)).mono ?_;rintro e w5 ⟨rfl,hP⟩;obtain⟨X5,c5⟩:=(HX.out.below (Below.refl _ _).drew).put_clk HC.out.tidy.drew hP;have Q5:=HQ.out.drew.chg c5 (by omega);have Z5:=HZ.out.drew.chg c5 (by omega);have O5:=(HO.out.below (Below.refl _ _).drew).chg c5 (by omega);have C5:=HC.out.drew.trans (c5.mono (by omega) (by omega));refine hK.out _ _ ?_ (fun hHeld=> ?_);focus exact⟨X5.own.1.cell 9,Q5.cell 4⟩
   clear hK K;refine zl ?_;refine zt 7 ?_;refine dnZ ?_;have HX5:=zH X5;have HZ5:=zH Z5;have HO5:=zH O5;have HC5:=zH C5;clear X5 Z5 O5 C5 Q5 c5 hP hHeld CM;go_wp2_with fail
   go_meet
   exact⟨g1,sp,fp,_,by rw[er],HC5.out,HX5.out,HO5.out,rfl,HZ5.out,gZ⟩
  ·have b5:(d.kind==5)=false:=by rw[beq_eq_false_iff_ne];exact h5
   by_cases h6:d.kind=6
   ·obtain rfl:res=(0,{ m with q:=(deqR m.q m.now m.rt).2 },pullO (deqR m.q m.now m.rt) ou0):=by rw[←HRES.out];unfold doF;exact(if_neg h5).trans (if_pos h6)
    have b6:(d.kind==6)=true:=by rw[beq_iff_eq];exact h6
    have CP:=zH (mcpull_any b (N0+1+1) pc sp pq pl fp bl bt m HM.out.ok ou0 600000 (deqR m.q m.now m.rt) (deqR_eq HM.out.ok.q hnow m.rt) (fun x hx=>((deqR_inv HM.out.ok.q hnow m.rt).2.2 x hx).s) g1 T hT0 W HC.out.tidy HX.out rfl HO.out);clear HRES h6 h5;go_wp2_with fail
    refine CP.out.mono ?_;rintro e w5 ⟨rfl,g5,fp5,vd5,c5,X5,O5,D5,_⟩;have HX5:=zH X5;have HZ5:=zH (HZ.out.chg c5 (by omega));have gZ5:=(c5.old _ HZ.out.lt).trans gZ;have HO5:=zH O5;have HD5:=zH D5;have HC5:=zH (HC.out.trans c5);clear X5 O5 D5 c5 CP;go_wp2_with fail
    go_meet
    exact⟨g5,sp,fp5,_,rfl,HC5.out,HX5.out,HO5.out,HD5.out,HZ5.out,gZ5⟩
   ·have b6:(d.kind==6)=false:=by rw[beq_eq_false_iff_ne];exact h6
    by_cases h8:d.kind=8
    ·obtain rfl:res=((if d.cr.may=true then 0 else 13),m.set_ d.cr,ou0):=by rw[←HRES.out];unfold doF;exact(if_neg h5).trans ((if_neg h6).trans (if_pos h8))
     have b8:(d.kind==8)=true:=by rw[beq_iff_eq];exact h8
     have CS:=zH (mcset_any b d.cr hd.mr pc sp pq pl fp bl bt m g1 T hT0 W HC.out.tidy HX.out);unfold crv at CS;have q6:=HQ.out.ce 6;have q7:=HQ.out.ce 7;have q8:=HQ.out.ce 8;have q9:=HQ.out.ce 9;have q10:=HQ.out.ce 10;have q11:=HQ.out.ce 11;have q12:=HQ.out.ce 12;have q13:=HQ.out.ce 13;have q14:=HQ.out.ce 14;obtain⟨r,er⟩: ∃ z:Nat,(if d.cr.may=true then 0 else 13)=z:=⟨_,rfl⟩;have er2:(if d.cr.may=true then(0:Int)else 13)=(r:Int):=by rw[←er];split<;>rfl
     rw[er2]at CS;have HER:=zH er;clear HRES er er2 h5 h6 h8;go_wp2_with fail
     refine CS.out.mono ?_;rintro e w5 ⟨rfl,c5,X5⟩;have HX5:=zH X5;have HZ5:=zH (HZ.out.chg c5 (by omega));have HO5:=zH (HO.out.chg c5 (by omega));have HC5:=zH (HC.out.trans (c5.mono (Nat.le_refl _) (by omega)));clear X5 c5 CS q6 q7 q8 q9 q10 q11 q12 q13 q14;go_wp2_with fail
     go_meet
     exact⟨g1,sp,fp,_,by rw[HER.out],HC5.out,HX5.out,HO5.out,rfl,HZ5.out,gZ⟩
    ·have b8:(d.kind==8)=false:=by rw[beq_eq_false_iff_ne];exact h8
     by_cases h1:d.kind=1∨d.kind=2∨d.kind=3∨d.kind=4∨d.kind=7∨d.kind=9
     ·obtain rfl:res=oneF m d:=by rw[←HRES.out];unfold doF;exact(if_neg h5).trans ((if_neg h6).trans ((if_neg h8).trans (if_pos h1)))
      have CO:=zH (mcone_any b (N0+1+1) pc sp pq pl fp bl bt m nn HM.out hnn d hd (.slice av nk kv) g1 T hT0 W HC.out.tidy (by rw[enk];exact HRd.out) HX.out HO.out);have HDEP:=zH (oneF_dep HM.out hd hnn);unfold ddv at CO;(try rw[enk]at CO)
      have q0:=HQ.out.ce 0;have q1:=HQ.out.ce 1;have q2:=HQ.out.ce 2;have q3:=HQ.out.ce 3;have q4:=HQ.out.ce 4;have q5:=HQ.out.ce 5;have q6:=HQ.out.ce 6;have q7:=HQ.out.ce 7;have q8:=HQ.out.ce 8;have q9:=HQ.out.ce 9;have q10:=HQ.out.ce 10;have q11:=HQ.out.ce 11;have q12:=HQ.out.ce 12;have q13:=HQ.out.ce 13;have q14:=HQ.out.ce 14;clear HRES;rcases h1 with h1 | h1 | h1 | h1 | h1 | h1
      ·have b1:(d.kind==1)=true:=by rw[beq_iff_eq];exact h1
       clear h1 h5 h6 h8;go_wp2_with fail
       refine CO.out.mono ?_;rintro e w5 ⟨rfl,g5,sp5,fp5,c5,X5,O5⟩;have HX5:=zH X5;have HZ5:=zH (HZ.out.chg c5 (by omega));have gZ5:=(c5.old _ HZ.out.lt).trans gZ;have HO5:=zH O5;have HC5:=zH (HC.out.trans c5);clear X5 c5 O5 CO q0 q1 q2 q3 q4 q5 q6 q7 q8 q9 q10 q11 q12 q13 q14;go_wp2_with fail
       go_meet
       exact⟨g5,sp5,fp5,_,rfl,HC5.out,HX5.out,HO5.out,by rw[HDEP.out];exact rfl,HZ5.out,gZ5⟩
      ·have b1:(d.kind==1)=false:=by rw[h1];rfl
       have b2:(d.kind==2)=true:=by rw[beq_iff_eq];exact h1
       clear h1 h5 h6 h8;go_wp2_with fail
       refine CO.out.mono ?_;rintro e w5 ⟨rfl,g5,sp5,fp5,c5,X5,O5⟩;have HX5:=zH X5;have HZ5:=zH (HZ.out.chg c5 (by omega));have gZ5:=(c5.old _ HZ.out.lt).trans gZ;have HO5:=zH O5;have HC5:=zH (HC.out.trans c5);clear X5 c5 O5 CO q0 q1 q2 q3 q4 q5 q6 q7 q8 q9 q10 q11 q12 q13 q14;go_wp2_with fail
       go_meet
       exact⟨g5,sp5,fp5,_,rfl,HC5.out,HX5.out,HO5.out,by rw[HDEP.out];exact rfl,HZ5.out,gZ5⟩
      ·have b1:(d.kind==1)=false:=by rw[h1];rfl
       have b2:(d.kind==2)=false:=by rw[h1];rfl
       have b3:(d.kind==3)=true:=by rw[beq_iff_eq];exact h1
       clear h1 h5 h6 h8;go_wp2_with fail
       refine CO.out.mono ?_;rintro e w5 ⟨rfl,g5,sp5,fp5,c5,X5,O5⟩;have HX5:=zH X5;have HZ5:=zH (HZ.out.chg c5 (by omega));have gZ5:=(c5.old _ HZ.out.lt).trans gZ;have HO5:=zH O5;have HC5:=zH (HC.out.trans c5);clear X5 c5 O5 CO q0 q1 q2 q3 q4 q5 q6 q7 q8 q9 q10 q11 q12 q13 q14;go_wp2_with fail
       go_meet
       exact⟨g5,sp5,fp5,_,rfl,HC5.out,HX5.out,HO5.out,by rw[HDEP.out];exact rfl,HZ5.out,gZ5⟩
      ·have b1:(d.kind==1)=false:=by rw[h1];rfl
       have b2:(d.kind==2)=false:=by rw[h1];rfl
       have b3:(d.kind==3)=false:=by rw[h1];rfl
       have b4:(d.kind==4)=true:=by rw[beq_iff_eq];exact h1
       clear h1 h5 h6 h8;go_wp2_with fail
       refine CO.out.mono ?_;rintro e w5 ⟨rfl,g5,sp5,fp5,c5,X5,O5⟩;have HX5:=zH X5;have HZ5:=zH (HZ.out.chg c5 (by omega));have gZ5:=(c5.old _ HZ.out.lt).trans gZ;have HO5:=zH O5;have HC5:=zH (HC.out.trans c5);clear X5 c5 O5 CO q0 q1 q2 q3 q4 q5 q6 q7 q8 q9 q10 q11 q12 q13 q14;go_wp2_with fail
       go_meet
       exact⟨g5,sp5,fp5,_,rfl,HC5.out,HX5.out,HO5.out,by rw[HDEP.out];exact rfl,HZ5.out,gZ5⟩
      ·have b1:(d.kind==1)=false:=by rw[h1];rfl
       have b2:(d.kind==2)=false:=by rw[h1];rfl
       have b3:(d.kind==3)=false:=by rw[h1];rfl
       have b4:(d.kind==4)=false:=by rw[h1];rfl
       have b7:(d.kind==7)=true:=by rw[beq_iff_eq];exact h1
       clear h1 h5 h6 h8;go_wp2_with fail
       refine CO.out.mono ?_;rintro e w5 ⟨rfl,g5,sp5,fp5,c5,X5,O5⟩;have HX5:=zH X5;have HZ5:=zH (HZ.out.chg c5 (by omega));have gZ5:=(c5.old _ HZ.out.lt).trans gZ;have HO5:=zH O5;have HC5:=zH (HC.out.trans c5);clear X5 c5 O5 CO q0 q1 q2 q3 q4 q5 q6 q7 q8 q9 q10 q11 q12 q13 q14;go_wp2_with fail
       go_meet
       exact⟨g5,sp5,fp5,_,rfl,HC5.out,HX5.out,HO5.out,by rw[HDEP.out];exact rfl,HZ5.out,gZ5⟩
      ·have b1:(d.kind==1)=false:=by rw[h1];rfl
       have b2:(d.kind==2)=false:=by rw[h1];rfl
       have b3:(d.kind==3)=false:=by rw[h1];rfl
       have b4:(d.kind==4)=false:=by rw[h1];rfl
       have b7:(d.kind==7)=false:=by rw[h1];rfl
       have b9:(d.kind==9)=true:=by rw[beq_iff_eq];exact h1
       clear h1 h5 h6 h8;go_wp2_with fail
       refine CO.out.mono ?_;rintro e w5 ⟨rfl,g5,sp5,fp5,c5,X5,O5⟩;have HX5:=zH X5;have HZ5:=zH (HZ.out.chg c5 (by omega));have gZ5:=(c5.old _ HZ.out.lt).trans gZ;have HO5:=zH O5;have HC5:=zH (HC.out.trans c5);clear X5 c5 O5 CO q0 q1 q2 q3 q4 q5 q6 q7 q8 q9 q10 q11 q12 q13 q14;go_wp2_with fail
       go_meet
       exact⟨g5,sp5,fp5,_,rfl,HC5.out,HX5.out,HO5.out,by rw[HDEP.out];exact rfl,HZ5.out,gZ5⟩
     ·obtain rfl:res=(12,m,ou0):=by rw[←HRES.out];unfold doF;exact(if_neg h5).trans ((if_neg h6).trans ((if_neg h8).trans (if_neg h1)))
      have b1:(d.kind==1)=false:=by rw[beq_eq_false_iff_ne];exact fun h=>h1 (by simp[h])
      have b2:(d.kind==2)=false:=by rw[beq_eq_false_iff_ne];exact fun h=>h1 (by simp[h])
      have b3:(d.kind==3)=false:=by rw[beq_eq_false_iff_ne];exact fun h=>h1 (by simp[h])
      have b4:(d.kind==4)=false:=by rw[beq_eq_false_iff_ne];exact fun h=>h1 (by simp[h])
      have b7:(d.kind==7)=false:=by rw[beq_eq_false_iff_ne];exact fun h=>h1 (by simp[h])
      have b9:(d.kind==9)=false:=by rw[beq_eq_false_iff_ne];exact fun h=>h1 (by simp[h])
      clear h1 h5 h6 h8 HRES;go_wp2_with fail
      go_meet
      exact⟨g1,sp,fp,_,rfl,HC.out,HX.out,HO.out,rfl,HZ.out,gZ⟩
 case rest=>
  obtain⟨g5,sp5,fp5,vd,rfl,C5,X5,O5,D5,Z5,gZ5⟩:=hcut;obtain⟨y0,y1,y2,y3,yf⟩:=Z5.c4;have HX5:=zH X5;have HC5:=zH C5;have HZ5:=zH Z5;have HD5:=zH D5;have sZ:w.heap.size≤N0+1:=by omega
  by_cases hr0:res.1=0
  ·have b0:((res.1:Int)==0)=true:=by rw[hr0];rfl
   have b1:((res.1:Int)!=0)=false:=by rw[hr0];rfl
   obtain⟨vx,vf,O1,O2,O3⟩:=O5;obtain⟨ax,cx,rfl,_,_⟩:=O2.cap_;obtain⟨af,cf,rfl,_,_⟩:=O3.cap_;obtain⟨ad,nd,cd,rfl⟩:=D5.sl;have o0:=O1.1.ce 0;have o1:=O1.1.ce 1;have o2:=O1.1.ce 2;have o3:=O1.1.ce 3;have HO2:=zH O2;have HO3:=zH O3;clear X5 C5 Z5 D5 O1 O2 O3 hr0 HRES;go_wp2_with fail
   have P:=set4 HZ5.out (.slice ad nd cd) (.slice ax res.2.2.drop.length cx) (.slice af res.2.2.fates.length cf) (.int .u64 (res.2.2.dog:Nat));obtain⟨x0,x1,x2,x3,_⟩:=P.1.c4;have hb0:(res.1:Int)=0:=by simpa using b0
   have CA:=(Chg.refl HC5.out.tidy 0 1).by P.2 (fun q hq _=>by cases hq;omega)
   refine bodyPost_ret (v:= .tuple #[.agg #[.slice ad nd cd, .slice ax res.2.2.drop.length cx, .slice af res.2.2.fates.length cf, .int .u64 (res.2.2.dog:Nat)], .int .i64 0]) ?_ rfl ⟨_,by rw[hb0],g5,sp5,fp5,HC5.out.by P.2 (fun q hq hlt=>by cases hq;omega),HX5.out.chg CA (.inr hT0),_,_,_,rfl, ?_,HO2.out.chg CA (by omega),HO3.out.chg CA (by omega)⟩
   ·simp[results,Tryz.f13,go_sem,x0,x1,x2,x3]
   ·exact HD5.out.aside HZ5.out (by decide) P.2
  ·have b0:((res.1:Int)==0)=false:=by rw[beq_eq_false_iff_ne];omega
   have b1:((res.1:Int)!=0)=true:=by rw[bne_iff_ne];omega
   have e2:res.2=(m,ou0):=by rw[←HRES.out];exact doF_err (by rw[HRES.out];exact hr0)
   have HE2:=zH e2;clear X5 C5 Z5 D5 O5 hr0 HRES e2;go_wp2_with fail
   have P:=set4 HZ5.out (.slice none 0 0) (.slice none 0 0) (.slice none 0 0) (.int .u64 0);obtain⟨x0,x1,x2,x3,_⟩:=P.1.c4;have CA:=(Chg.refl HC5.out.tidy 0 1).by P.2 (fun q hq _=>by cases hq;omega)
   refine bodyPost_ret (v:= .tuple #[.agg outz, .int .i64 (res.1:Nat)]) ?_ rfl ⟨_,rfl,g5,sp5,fp5,HC5.out.by P.2 (fun q hq hlt=>by cases hq;omega),HX5.out.chg CA (.inr hT0),by rw[HE2.out];exact outz_v _ _ _⟩;simp[results,Tryz.f13,go_sem,x0,x1,x2,x3,outz]
end
section
open Go.RowKit Go.Lib
def newM (c:CF):MC:=⟨c,0,fun _=>none,newQ c⟩
theorem newM_ok {c:CF} (h:c.ok):(newM c).okn 0:=⟨⟨h,rfl,Nat.zero_le _,newQ_inv h,fun s k _ hk=>by cases hk⟩,fun s k _ hk=>by cases hk⟩
theorem mcnew_any (c:CF) (hok:c.ok) (g:Nat→Nat) (T:Nat) (hT0:0<T) (w:World) (hT:Tidy w g):
  Calls Tryz.prog 9 #[cfv c] w fun e w'=> ∃ b,e= .returned (.tuple #[.pointer (some ⟨b,0,none⟩), .int .i64 0])∧ ∃ g',Chg w w' g g' T (T+79)∧ ∃ pc pq pl bl bt,McIn w' g' T b pc (fun _=>none) pq pl (fun _=>none) bl bt (newM c):=by
 obtain⟨N0,e0⟩: ∃ z,w.heap.size=z:=⟨_,rfl⟩;have gN:g N0=0:=hT _ (by omega);have CQ:=zH (fun w' hT'=>fqnew_any c hok g (T+3) (by omega) w' hT');have HT:=zH hT;clear hT hok;unfold cfv at CQ ⊢;go_enter Tryz.func9,Tryz.ntmps9
 go_wp2_with fail
 refine(CQ.out _ (HT.out.alloc _)).mono ?_;rintro e w1 ⟨b7,rfl,hb7,bl,bt,g1,C1,Q1⟩;have A1:At w1 N0 24 #[.int .i64 (c.quantum:Nat), .int .i64 (c.first:Nat), .int .i64 (c.limit:Nat), .int .i64 (c.flowLimit:Nat), .int .u64 (c.horizon:Nat), .int .u64 (c.maxRate:Nat), .bool c.drop, .int .i64 (c.cap:Nat), .int .i64 (c.mss:Nat)]:=(show At _ N0 _ _ by rw[←e0];exact At.made w _ _).chg C1 (by rw[gN];omega);have gN1:g1 N0=0:=(C1.old N0 (by rw[←e0];simp)).trans gN;have HC1:=zH (((Chg.refl HT.out T (T+79)).alloc (.cells #[.int .i64 (c.quantum:Nat), .int .i64 (c.first:Nat), .int .i64 (c.limit:Nat), .int .i64 (c.flowLimit:Nat), .int .u64 (c.horizon:Nat), .int .u64 (c.maxRate:Nat), .bool c.drop, .int .i64 (c.cap:Nat), .int .i64 (c.mss:Nat)] 24)).trans (C1.mono (by omega) (by omega)));have HQ1:=zH Q1;have HA1:=zH A1;have q0:=A1.ce 0;have q1:=A1.ce 1;have q2:=A1.ce 2;have q3:=A1.ce 3;have q4:=A1.ce 4;have q5:=A1.ce 5;have q6:=A1.ce 6;have q7:=A1.ce 7;have q8:=A1.ce 8;clear C1 Q1 A1 CQ;go_upto_region 4 with fail
 refine wp_region_held_drew (S:=fun wq=>wq.cell? ⟨N0,0,none⟩=some (.int .i64 (c.quantum:Nat))∧wq.cell? ⟨N0,1,none⟩=some (.int .i64 (c.first:Nat))∧wq.cell? ⟨N0,2,none⟩=some (.int .i64 (c.limit:Nat))∧wq.cell? ⟨N0,3,none⟩=some (.int .i64 (c.flowLimit:Nat))∧wq.cell? ⟨N0,4,none⟩=some (.int .u64 (c.horizon:Nat))∧wq.cell? ⟨N0,5,none⟩=some (.int .u64 (c.maxRate:Nat))∧wq.cell? ⟨N0,6,none⟩=some (.bool c.drop)∧wq.cell? ⟨N0,7,none⟩=some (.int .i64 (c.cap:Nat))∧wq.cell? ⟨N0,8,none⟩=some (.int .i64 (c.mss:Nat))) (by kernel_rfl) ⟨q0,q1,q2,q3,q4,q5,q6,q7,q8⟩ (fun hHeld=> ?_);refine zt 0 ?_;refine zt 2 ?_;refine zc 1 (fun K hK=> ?_);go_simp;refine(cnew_any 0 _).mono ?_;rintro e w2 ⟨rfl,hw2⟩;have A2:At w2 N0 _ _:=(by rw[hw2];exact(HA1.out.drew.kept (World.grownBy_alloc _ _ none) (by simp)).kept (World.grownBy_alloc _ _ none) (by simp));have K2:Of w2 (tagAt g1 (w1.heap.size+1) (T+1)) (T+1) (w1.heap.size+1) 111 (clk 0):=(by rw[hw2];have t:=Of.made (w1.drew.alloc (.cells #[.int .u64 (0:Nat)] 22)) g1 (T+1) 111 (clk (tmin 0));simp only[alloc_size,drew_size]at t;exact t);have C2:Chg w w2 g (tagAt g1 (w1.heap.size+1) (T+1)) T (T+79):=(by rw[hw2];have t:=(HC1.out.drew.alloc (.cells #[.int .u64 (0:Nat)] 22)).tag (.cells (clk (tmin 0)) 111) (T+1);simp only[alloc_size,drew_size]at t;exact t);have Q2:FqIn w2 (tagAt g1 (w1.heap.size+1) (T+1)) (T+3) b7 (fun _=>none) bl bt (newQ c):=(by rw[hw2];have t:=(((Chg.refl HC1.out.tidy.drew 0 0).alloc (.cells #[.int .u64 (0:Nat)] 22)).tag (.cells (clk (tmin 0)) 111) (T+1));simp only[alloc_size,drew_size]at t;exact(HQ1.out.below (Below.refl _ _).drew).chg t (.inr (Nat.zero_le _)));clear hw2
 refine hK.out _ _ ?_ (fun hHeld=> ?_);focus exact⟨A2.cell 0,A2.cell 1,A2.cell 2,A2.cell 3,A2.cell 4,A2.cell 5,A2.cell 6,A2.cell 7,A2.cell 8⟩
 clear hK K;refine zl ?_;refine zc 3 (fun K hK=> ?_);go_simp;refine(lednew_any _).mono ?_;rintro e w3 ⟨rfl,hw3⟩;obtain⟨g2,eg2⟩: ∃ z,tagAt g1 (w1.heap.size+1) (T+1)=z:=⟨_,rfl⟩;rw[eg2]at K2 C2 Q2;have A3:At w3 N0 _ _:=(by rw[hw3];exact A2.kept (World.grownBy_alloc _ _ none) (by simp));have L3:Of w3 (tagAt g2 w2.heap.size (T+2)) (T+2) w2.heap.size 117 (led (fun _=>0)):=(by rw[hw3];exact Of.made w2 g2 (T+2) _ _);have C3:Chg w w3 g (tagAt g2 w2.heap.size (T+2)) T (T+79):=(by rw[hw3];exact C2.tag _ (T+2));have K3:Of w3 (tagAt g2 w2.heap.size (T+2)) (T+1) (w1.heap.size+1) 111 (clk 0):=(by rw[hw3];exact K2.tag _ _);have Q3:FqIn w3 (tagAt g2 w2.heap.size (T+2)) (T+3) b7 (fun _=>none) bl bt (newQ c):=(by rw[hw3];exact Q2.chg ((Chg.refl C2.tidy 0 0).tag _ (T+2)) (.inr (Nat.zero_le _)));clear hw3;refine hK.out _ _ ?_ (fun hHeld=> ?_);focus exact⟨A3.cell 0,A3.cell 1,A3.cell 2,A3.cell 3,A3.cell 4,A3.cell 5,A3.cell 6,A3.cell 7,A3.cell 8⟩
 clear hK K;refine zl ?_;refine zt 4 ?_;refine zc 5 (fun K hK=> ?_);go_simp;refine hK.out _ _ ?_ (fun hHeld=> ?_);focus exact⟨(World.grownBy_alloc _ _ none).cell (A3.cell 0) (by simp),(World.grownBy_alloc _ _ none).cell (A3.cell 1) (by simp),(World.grownBy_alloc _ _ none).cell (A3.cell 2) (by simp),(World.grownBy_alloc _ _ none).cell (A3.cell 3) (by simp),(World.grownBy_alloc _ _ none).cell (A3.cell 4) (by simp),(World.grownBy_alloc _ _ none).cell (A3.cell 5) (by simp),(World.grownBy_alloc _ _ none).cell (A3.cell 6) (by simp),(World.grownBy_alloc _ _ none).cell (A3.cell 7) (by simp),(World.grownBy_alloc _ _ none).cell (A3.cell 8) (by simp)⟩
 clear hK K;refine zl ?_;refine zt 6 ?_;refine zt 7 ?_;refine dnZ ?_;obtain⟨g3,eg3⟩: ∃ z,tagAt g2 w2.heap.size (T+2)=z:=⟨_,rfl⟩;rw[eg3]at L3 C3 K3 Q3;obtain⟨plx,epl⟩: ∃ z,w2.heap.size=z:=⟨_,rfl⟩;obtain⟨pcc,epc⟩: ∃ z,w1.heap.size+1=z:=⟨_,rfl⟩;rw[epl]at L3;rw[epc]at K3;have CT:=(Chg.refl C3.tidy 0 0).tag (.cells (mca c pcc (fun _=>none) b7 plx) 83) T;have hM:McIn (w3.alloc (.cells (mca c pcc (fun _=>none) b7 plx) 83)) (tagAt g3 w3.heap.size T) T w3.heap.size pcc (fun _=>none) b7 plx (fun _=>none) bl bt (newM c):=⟨Of.made _ _ _ _ _,K3.chg CT (.inr (Nat.zero_le _)),⟨_,L3.chg CT (.inr (Nat.zero_le _))⟩,Q3.chg CT (.inr (Nat.zero_le _)),fun s hs=>trivial⟩;have HM:=zH hM;have HC:=zH (C3.tag (.cells (mca c pcc (fun _=>none) b7 plx) 83) T);clear hM CT L3 C3 K3 Q3 A3 A2 K2 C2 Q2 hHeld eg2 eg3;go_wp2_with fail
 go_ret2
 exact⟨_,rfl,_,HC.out,_,_,_,_,_,HM.out⟩
end
section
open Go.RowKit Go.Lib
def McAt (w:World) (g:Nat→Nat) (T b:Nat) (m:MC):Prop:= ∃ pc sp pq pl fp bl bt,McIn w g T b pc sp pq pl fp bl bt m
section
variable {w w':World} {g g':Nat→Nat} {T b lo hi:Nat} {m:MC}
theorem McAt.below (h:McAt w g T b m) (hb:Below w.heap.size w w'):McAt w' g T b m:=by
 obtain⟨pc,sp,pq,pl,fp,bl,bt,h⟩:=h;exact⟨pc,sp,pq,pl,fp,bl,bt,h.below hb⟩
theorem McAt.chg (h:McAt w g T b m) (c:Chg w w' g g' lo hi) (h1:T+76≤lo∨hi≤T):McAt w' g' T b m:=by
 obtain⟨pc,sp,pq,pl,fp,bl,bt,h⟩:=h;exact⟨pc,sp,pq,pl,fp,bl,bt,h.chg c h1⟩
theorem McAt.lt (h:McAt w g T b m):b<w.heap.size:=by
 obtain⟨pc,sp,pq,pl,fp,bl,bt,h⟩:=h;exact h.own.1.lt
end
theorem do_at (b:Nat) (m:MC) (nn:Nat) (hm:m.okn nn) (hnn:nn<1000000) (d:DD) (hd:d.ok) (v:Value) (g:Nat→Nat) (T:Nat) (hT0:0<T) (w:World) (hT:Tidy w g) (hr:Rd w v 2 d.sks.length (d.sks.flatMap rgl)) (h:McAt w g T b m):
  Calls Tryz.prog 13 #[.pointer (some ⟨b,0,none⟩),ddv d v] w fun e w'=> ∃ vo g',e= .returned (.tuple #[vo, .int .i64 ((doF m d).1:Nat)])∧Chg w w' g g' T (T+79)∧McAt w' g' T b (doF m d).2.1∧OutV w' g' (T+76) vo (doF m d).2.2:=by
 obtain⟨pc,sp,pq,pl,fp,bl,bt,h⟩:=h;refine(mcdo_any b pc sp pq pl fp bl bt m nn hm hnn d hd v g T hT0 w hT hr h).mono ?_;rintro e w' ⟨vo,rfl,g',sp',fp',hC,hM,hO⟩;exact⟨vo,g',rfl,hC,⟨_,_,_,_,_,_,_,hM⟩,hO⟩
theorem new_at (c:CF) (hok:c.ok) (g:Nat→Nat) (T:Nat) (hT0:0<T) (w:World) (hT:Tidy w g):
  Calls Tryz.prog 9 #[cfv c] w fun e w'=> ∃ b g',e= .returned (.tuple #[.pointer (some ⟨b,0,none⟩), .int .i64 0])∧Chg w w' g g' T (T+79)∧McAt w' g' T b (newM c):=by
 refine(mcnew_any c hok g T hT0 w hT).mono ?_;rintro e w' ⟨b,rfl,g',hC,pc,pq,pl,bl,bt,hM⟩;exact⟨b,g',rfl,hC,_,_,_,_,_,_,_,hM⟩
def msF (m:MC) (ds:List DD):Nat→MC
 | 0=>m
 | i+1=>match ds[i]? with
  | none=>msF m ds i
  | some d=>(doF (msF m ds i) d).2.1
theorem msF_succ (m:MC) (ds:List DD) {i:Nat} {d:DD} (h:ds[i]? =some d):msF m ds (i+1)=(doF (msF m ds i) d).2.1:=by
 show(match ds[i]? with | none=>msF m ds i | some d=>(doF (msF m ds i) d).2.1)=_
 rw[h]
theorem msF_ok {c:CF} (hc:c.ok) {ds:List DD} (hd: ∀ d∈ds,d.ok): ∀ i,i<1000000→(msF (newM c) ds i).okn i
 | 0,_=>newM_ok hc
 | i+1,h=>by
  have ih:=msF_ok hc hd i (by omega);show(match ds[i]? with | none=>_ | some d=>_:MC).okn (i+1)
  cases hx:ds[i]? with
  | none=>exact ih.mono (Nat.le_succ i)
  | some d=>exact doF_ok ih (by omega) (hd d (List.mem_of_getElem? hx))
theorem infoOut: ∃ i0:TypeInfo,Hid (Tryz.prog.info? 41=some i0∧i0.zero=some (.agg #[.slice none 0 0, .slice none 0 0, .slice none 0 0, .int .u64 0])∧i0.size=4∧i0.bytes=80):=by
 obtain⟨i0,h1,h2,h3,h4⟩:=info_parts (show(Tryz.prog.info? 41).map (fun i=>(i.zero,i.size,i.bytes))=some (some (.agg #[.slice none 0 0, .slice none 0 0, .slice none 0 0, .int .u64 0]),4,80) by kernel_rfl);exact⟨i0,zH ⟨h1,h2,h3,h4⟩⟩
theorem infoErr: ∃ i0:TypeInfo,Hid (Tryz.prog.info? 28=some i0∧i0.zero=some (.int .i64 0)∧i0.size=1∧i0.bytes=8):=by
 obtain⟨i0,h1,h2,h3,h4⟩:=info_parts (show(Tryz.prog.info? 28).map (fun i=>(i.zero,i.size,i.bytes))=some (some (.int .i64 0),1,8) by kernel_rfl);exact⟨i0,zH ⟨h1,h2,h3,h4⟩⟩
def errF (m:MC) (ds:List DD) (i:Nat):List Value:=(ds.take i).zipIdx.map fun x=>Value.int .i64 ((doF (msF m ds x.2) x.1).1:Nat)
def OutsOk (w:World) (g:Nat→Nat) (m:MC) (ds:List DD) (i:Nat) (xs:List Value):Prop:=xs.length=i*4∧ ∀ j d,j<i→ds[j]? =some d→ ∃ v,xs[j*4]? =some v∧DepAt w g v (doF (msF m ds j) d).2.2.dep
structure RunI (w:World) (g0:Nat→Nat) (T b N1:Nat) (cs:Array Value) (c:CF) (ds:List DD) (i:Nat) (v8 v9:Value) (g:Nat→Nat) (wr:World):Prop where
 ch:Chg w wr g0 g T (T+90)
 mc:McAt wr g T b (msF (newM c) ds i)
 row:At wr N1 46 cs∧g N1=0
 outs: ∃ xs,Sli wr g (T+80) 41 4 v8 i xs∧OutsOk wr g (newM c) ds i xs
 errs:Sli wr g (T+81) 28 1 v9 i (errF (newM c) ds i)
end
end Go.Proofs.YtojgokiobdpclaaGreat
