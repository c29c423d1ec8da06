import Derived.Test.YtojgokiobdpclaaGreatP40
namespace Go.Proofs.YtojgokiobdpclaaGreat
set_option linter.unusedVariables false
set_option linter.unusedSimpArgs false
set_option maxRecDepth 8000
set_option maxHeartbeats 8000000
section
open Go.RowKit Go.Lib
theorem McIn.chg_sk {w w':World} {g g':Nat→Nat} {T b pc pq pl bl bt:Nat} {sp fp:Nat→Option Nat} {m:MC} (h:McIn w g T b pc sp pq pl fp bl bt m) {s:Nat} (hs:s<8) (e1:sp s=none) (e2:m.sk s=none) (c:Chg w w' g g' (T+28+6*s) (T+28+6*s+6)):McIn w' g' T b pc sp pq pl fp bl bt m:=
 ⟨h.own.chg c (by omega),h.clk.chg c (by omega),h.led.imp fun _ k=>k.chg c (by omega),h.q.chg c (by omega),fun j hj=>by
  by_cases e:j=s
  ·subst e;rw[e1,e2];exact trivial
  ·exact(h.sk j hj).chg c (by omega)⟩
theorem mcone_off (b bo:Nat) (d:DD) (v:Value) (hs: ¬(0≤d.sock∧d.sock<8)) (w:World) (hr:Rd w v 2 d.sks.length (d.sks.flatMap rgl)):
  Calls Tryz.prog 34 #[.pointer (some ⟨b,0,none⟩),ddv d v, .pointer (some ⟨bo,0,none⟩)] w fun e w'=>e= .returned (.int .i64 8)∧Below w.heap.size w w':=by
 obtain⟨av,kv,rfl⟩:=hr.cap_;have CI:Hid (∀ w',Calls Tryz.prog 49 #[.int .i64 d.sock] w' fun e w''=>e= .returned (.bool false)∧w'=w''):=zH fun w'=>(is_any d.sock w').mono fun e w'' ⟨h1,h2⟩=>⟨by rw[h1];congr 2;rw[Bool.and_eq_false_iff];by_cases h0:0≤d.sock;exact .inr (decide_eq_false fun h=>hs ⟨h0,h⟩);exact .inl (decide_eq_false h0),h2⟩
 unfold ddv;clear hs hr;go_enter Tryz.func34,Tryz.ntmps34
 go_wp2_with fail
 refine(CI.out _).mono ?_;rintro e w1 ⟨rfl,rfl⟩;go_wp2_with fail
 go_ret
 exact⟨rfl,(Below.refl _ w).alloc (Nat.le_refl _) _⟩
theorem mcone_any (b bo:Nat) (pc:Nat) (sp:Nat→Option Nat) (pq pl:Nat) (fp:Nat→Option Nat) (bl bt:Nat) (m:MC) (nn:Nat) (hm:m.okn nn) (hnn:nn<1000000) (d:DD) (hd:d.ok) (v:Value) (g:Nat→Nat) (T:Nat) (hT0:0<T) (w:World) (hT:Tidy w g) (hr:Rd w v 2 d.sks.length (d.sks.flatMap rgl)) (h:McIn w g T b pc sp pq pl fp bl bt m) (ho:OuIn w g (T+76) bo (.slice none 0 0) ou0):
  Calls Tryz.prog 34 #[.pointer (some ⟨b,0,none⟩),ddv d v, .pointer (some ⟨bo,0,none⟩)] w fun e w'=>e= .returned (.int .i64 ((oneF m d).1:Nat))∧ ∃ g' sp' fp',Chg w w' g g' T (T+79)∧McIn w' g' T b pc sp' pq pl fp' bl bt (oneF m d).2.1∧OuIn w' g' (T+76) bo (.slice none 0 0) (oneF m d).2.2:=by
 by_cases hs:0≤d.sock∧d.sock<8
 ·obtain⟨s,es⟩:=Int.eq_ofNat_of_zero_le hs.1
  have hs8:s<8:=by omega
  have hs8i:(s:Int)<8:=by omega
  have e1:oneF m d=oneS m d s (m.sk s):=by
   unfold oneF;rw[if_pos (by rw[Bool.and_eq_true,decide_eq_true_eq,decide_eq_true_eq];exact hs),show d.sock.toNat=s from by omega]
  rw[e1];clear e1;obtain⟨res,er⟩: ∃ z,oneS m d s (m.sk s)=z:=⟨_,rfl⟩;rw[er];have HRES:=zH er;clear er;obtain⟨av,kv,rfl⟩:=hr.cap_;obtain⟨nk,enk⟩: ∃ z,d.sks.length=z:=⟨_,rfl⟩;obtain⟨N0,e0⟩: ∃ z,w.heap.size=z:=⟨_,rfl⟩;have gN:g N0=0:=hT _ (by omega);have CI:Hid (∀ w',Calls Tryz.prog 49 #[.int .i64 s] w' fun e w''=>e= .returned (.bool true)∧w'=w''):=zH fun w'=>(is_any s w').mono fun e w'' ⟨h1,h2⟩=>⟨by rw[h1];simp;omega,h2⟩
  have hnow:m.now<18446744073709551616:=by have:=hm.ok.now;omega
  have HH:=zH h;have HT:=zH hT;have HO:=zH ho;have HR:=zH hr;have HM:=zH hm;unfold ddv;rw[es,enk];rw[enk]at HR;clear h hT ho hr hm;go_enter Tryz.func34,Tryz.ntmps34
  go_wp2_with fail
  refine(CI.out _).mono ?_;rintro e w1 ⟨rfl,rfl⟩;go_upto_region 3 with fail
  refine wp_named (fun W=>At W N0 46 #[.int .i64 d.kind, .int .i64 (s:Nat), .int .i64 d.len, .int .u64 d.upto, .int .u64 d.at_, .slice av nk kv, .int .i64 d.cr.quantum, .int .i64 d.cr.first, .int .i64 d.cr.limit, .int .i64 d.cr.flowLimit, .int .u64 d.cr.horizon, .int .u64 d.cr.maxRate, .bool d.cr.drop, .int .i64 d.cr.cap, .int .i64 d.cr.mss]∧McIn W g T b pc sp pq pl fp bl bt m∧OuIn W g (T+76) bo (.slice none 0 0) ou0∧Chg w W g g T (T+79)∧Rd W (.slice av nk kv) 2 nk (d.sks.flatMap rgl)) ⟨by rw[←e0];exact At.made _ _ _,HH.out.below ((Below.refl _ w).alloc (Nat.le_refl _) _),HO.out.below ((Below.refl _ w).alloc (Nat.le_refl _) _),(Chg.refl HT.out _ _).alloc _,HR.out.below ((Below.refl _ w).alloc (Nat.le_refl _) _)⟩ (fun W hW=> ?_);obtain⟨Q,X,O,C,R⟩:=hW;have q1:=Q.ce 1;have cs:=X.sock hs8;have HQ:=zH Q;have HX:=zH X;have HOu:=zH O;have HC:=zH C;have HRd:=zH R;clear Q X O C R HH HT HO HR;obtain⟨vp,evp⟩: ∃ z,pval (sp s)=z:=⟨_,rfl⟩;rw[evp]at cs;refine wp_region_held_drew (S:=fun wq=>wq.cell? ⟨N0,1,none⟩=some (.int .i64 (s:Nat))∧wq.cell? ⟨b,10+s,none⟩=some vp) (by kernel_rfl) ⟨q1,cs⟩ (fun hHeld=> ?_);refine zt 0 ?_;refine zt 1 ?_;refine zt 2 ?_;refine zt 3 ?_;refine zt 4 ?_;refine zt 5 ?_;refine zt 6 ?_;refine zt 7 ?_;refine dnZ ?_;have Q:=HQ.out.drew;have X:=HX.out.below (Below.refl W.heap.size W).drew;have O:=HOu.out.below (Below.refl W.heap.size W).drew;have C:=HC.out.drew;have R:=HRd.out.below (Below.refl W.heap.size W).drew
  have q0:=Q.ce 0;have HQ2:=zH Q;have HX2:=zH X;have HO2:=zH O;have HC2:=zH C;have HR2:=zH R;clear Q X O C R HQ HX HOu HC HRd hHeld q1 cs;rcases(HX2.out.sk s hs8).one with⟨p1,p2⟩ | ⟨p,k,p1,p2,pb,pd,ps,B,hx⟩
  ·rw[p1]at evp
   simp only[pval,Option.map_none]at evp;subst evp;by_cases hk1:d.kind=1
   ·obtain rfl:res=(0,{ m with sk:=putF m.sk s (some (newK s m.c)) },ou0):=by rw[←HRES.out,p2];unfold oneS;rw[if_pos hk1]
    have b1:(d.kind==1)=true:=by rw[beq_iff_eq];exact hk1
    clear hk1 HRES;go_upto_region 7 with fail
    have CN:=zH (fun w' g2 hT'=>sknew_any s hs8 m.c HM.out.ok.c g2 (T+28+6*s) (by omega) w' hT');unfold cfv at CN;have z1:=HQ2.out.ce 1;have y0:=HX2.out.own.1.ce 0;have y1:=HX2.out.own.1.ce 1;have y2:=HX2.out.own.1.ce 2;have y3:=HX2.out.own.1.ce 3;have y4:=HX2.out.own.1.ce 4;have y5:=HX2.out.own.1.ce 5;have y6:=HX2.out.own.1.ce 6;have y7:=HX2.out.own.1.ce 7;have y8:=HX2.out.own.1.ce 8;refine wp_region_held_drew (S:=fun wq=>wq.cell? ⟨N0,1,none⟩=some (.int .i64 (s:Nat))∧wq.cell? ⟨b,0,none⟩=some (.int .i64 (m.c.quantum:Nat))∧wq.cell? ⟨b,1,none⟩=some (.int .i64 (m.c.first:Nat))∧wq.cell? ⟨b,2,none⟩=some (.int .i64 (m.c.limit:Nat))∧wq.cell? ⟨b,3,none⟩=some (.int .i64 (m.c.flowLimit:Nat))∧wq.cell? ⟨b,4,none⟩=some (.int .u64 (m.c.horizon:Nat))∧wq.cell? ⟨b,5,none⟩=some (.int .u64 (m.c.maxRate:Nat))∧wq.cell? ⟨b,6,none⟩=some (.bool m.c.drop)∧wq.cell? ⟨b,7,none⟩=some (.int .i64 (m.c.cap:Nat))∧wq.cell? ⟨b,8,none⟩=some (.int .i64 (m.c.mss:Nat))) (by kernel_rfl) ⟨z1,y0,y1,y2,y3,y4,y5,y6,y7,y8⟩ (fun hHeld=> ?_);refine zt 0 ?_;refine zt 1 ?_;refine zt 2 ?_;refine zt 3 ?_;refine zt 4 ?_;refine zt 5 ?_;refine zt 6 ?_;refine zt 7 ?_;refine zt 8 ?_;refine zt 10 ?_;refine zt 11 ?_;refine zc 9 (fun K hK=> ?_);go_simp;refine(CN.out _ _ HC2.out.tidy.drew).mono ?_;rintro e w5 ⟨b5,pb5,pd5,ps5,B5,g5,rfl,h5,S5⟩;have X:=(HX2.out.below (Below.refl _ _).drew).chg_sk hs8 p1 p2 h5;have Q:=HQ2.out.drew.chg h5 (by omega);have C:=HC2.out.drew.trans (h5.mono (by omega) (by omega));have O:=(HO2.out.below (Below.refl _ _).drew).chg h5 (by omega);have z10:=X.sock hs8;have zf:=X.own.1.free (10+s);rw[p1]at z10;simp only[pval,Option.map_none]at z10
    refine hK.out _ _ ?_ (fun hHeld=> ?_);focus exact⟨Q.cell 1,X.own.1.cell 0,X.own.1.cell 1,X.own.1.cell 2,X.own.1.cell 3,X.own.1.cell 4,X.own.1.cell 5,X.own.1.cell 6,X.own.1.cell 7,X.own.1.cell 8⟩
    clear hK K;refine zl ?_;refine zt 12 ?_;refine zc 13 (fun K hK=> ?_);go_simp;refine hK.out _ _ ?_ (fun hHeld=> ?_);focus have P:=(X.ptr_ C.tidy hs8 (some b5) (some (newK s m.c)) ⟨pb5,pd5,ps5,B5,S5⟩);have QP:=Q.kept (grown_set w5 b (10+s) (pval (some b5))) (by have:=X.own.2;simp;rintro rfl;have:=(h5.old N0 HQ2.out.lt).trans gN;omega);exact⟨QP.cell 1,P.1.own.1.cell 0,P.1.own.1.cell 1,P.1.own.1.cell 2,P.1.own.1.cell 3,P.1.own.1.cell 4,P.1.own.1.cell 5,P.1.own.1.cell 6,P.1.own.1.cell 7,P.1.own.1.cell 8⟩
    clear hK K;refine zl ?_;refine dnZ ?_;have P:=X.ptr_ C.tidy hs8 (some b5) (some (newK s m.c)) ⟨pb5,pd5,ps5,B5,S5⟩;have HP:=zH P;have HC5:=zH C;have HO5:=zH O;clear P C O X Q h5 S5 hHeld CN;go_wp2_with fail
    go_ret
    exact⟨rfl,g5,HC5.out.trans (HP.out.2.mono (Nat.le_refl _) (by omega)),⟨putF sp s (some b5),fp,HP.out.1⟩,HO5.out.chg HP.out.2 (by omega)⟩
   ·obtain rfl:res=(10,m,ou0):=by rw[←HRES.out,p2];unfold oneS;rw[if_neg hk1]
    have b1:(d.kind==1)=false:=by rw[beq_eq_false_iff_ne];exact hk1
    clear hk1 p2 HRES;go_wp2_with fail
    go_ret
    first | exact⟨rfl,g,sp,fp,HC2.out,HX2.out,HO2.out⟩ | exact⟨rfl,g,HC2.out,⟨sp,fp,HX2.out⟩,HO2.out⟩
  ·rw[p1]at evp
   simp only[pval,Option.map_some]at evp;subst evp;by_cases hk1:d.kind=1
   ·obtain rfl:res=(9,m,ou0):=by rw[←HRES.out,p2];unfold oneS;exact if_pos hk1
    have b1:(d.kind==1)=true:=by rw[beq_iff_eq];exact hk1
    clear hk1 HRES hx;go_wp2_with fail
    go_ret
    first | exact⟨rfl,g,sp,fp,HC2.out,HX2.out,HO2.out⟩ | exact⟨rfl,g,HC2.out,⟨sp,fp,HX2.out⟩,HO2.out⟩
   ·have b1:(d.kind==1)=false:=by rw[beq_eq_false_iff_ne];exact hk1
    by_cases hk9:d.kind=9
    ·obtain rfl:res=(0,{ m with sk:=putF m.sk s none,q:=closeO m.q s },⟨[],flSegs (m.q.fl s),List.replicate (flSegs (m.q.fl s)).length 5,0⟩):=by rw[←HRES.out,p2];unfold oneS;exact(if_neg hk1).trans (if_pos hk9)
     have b9:(d.kind==9)=true:=by rw[beq_iff_eq];exact hk9
     have CS:=zH (mcshut_any b bo s hs8 pc sp pq pl fp bl bt m HM.out.ok (.slice none 0 0) ou0 ⟨by decide,by decide⟩ g T hT0 W.drew HC2.out.tidy HX2.out HO2.out);have z1:=HQ2.out.ce 1;clear hk1 hk9 HRES hx;go_wp2_with fail
     refine CS.out.mono ?_;rintro e w5 ⟨rfl,g5,sp5,fp5,h5,X5,O5⟩;have HC5:=zH (HC2.out.trans h5);have HX5:=zH X5;have HO5:=zH O5;clear h5 X5 O5 CS;go_wp2_with fail
     go_ret
     first | exact⟨rfl,g5,sp5,fp5,HC5.out,HX5.out,HO5.out⟩ | exact⟨rfl,g5,HC5.out,⟨sp5,fp5,HX5.out⟩,HO5.out⟩
    ·have b9:(d.kind==9)=false:=by rw[beq_eq_false_iff_ne];exact hk9
     have eres:(if tldE k d m.now=0 then(0,{ m with sk:=putF m.sk s (some (pumpR m.now (tldF k d m.now) m.q ou0).1),q:=(pumpR m.now (tldF k d m.now) m.q ou0).2.1 },(pumpR m.now (tldF k d m.now) m.q ou0).2.2)else(tldE k d m.now,m,ou0))=res:=by rw[←HRES.out,p2];unfold oneS;exact((if_neg hk1).trans (if_neg hk9)).symm
     have hko:=(HM.out.ok.sk s k hs8 p2).1;have hwr:=HM.out.wr s k hs8 p2;have hto:=tldF_ok hko hd (by omega) hnow;have hid:(tldF k d m.now).id=s:=(tldF_same k d hd m.now).1.trans (HM.out.ok.sk s k hs8 p2).2;have hwt:(tldF k d m.now).bf.wr≤200000*(nn+1):=by have:=(tldF_same k d hd m.now).2.1;omega
     have hterr:=tldF_err (k:=k) (d:=d) (now:=m.now);have CT:=zH (fun w' (hB:Below W.drew.heap.size W.drew w') (hT':Tidy w' g)=>told_any p pb pd ps B m.now hnow k hko d hd (.slice av nk kv) g (T+28+6*s) (by omega) w' hT' (by rw[enk];exact HR2.out.below hB) (hx.below hB));have CNw:=zH (fun w' (h:McIn w' g T b pc sp pq pl fp bl bt m)=>mcnow_any b pc sp pq pl fp bl bt m g T w' h);unfold ddv at CT;rw[es]at CT;obtain⟨r,er⟩: ∃ z,tldE k d m.now=z:=⟨_,rfl⟩;rw[er]at CT eres hterr;obtain⟨k2,ek2⟩: ∃ z,tldF k d m.now=z:=⟨_,rfl⟩;rw[ek2]at CT eres hterr hto hid hwt;have HER:=zH eres;have HTE:=zH hterr;have HTO:=zH hto;have HOK:=zH (okn_put (HM.out.mono (Nat.le_succ nn)) hto hid hwt HM.out.ok.q HM.out.ok.qc).ok;clear hk1 hk9 HRES hx er ek2 eres hterr hto hko hwr hwt;have z0:=HQ2.out.ce 0;have z1:=HQ2.out.ce 1;have z2:=HQ2.out.ce 2;have z3:=HQ2.out.ce 3;have z4:=HQ2.out.ce 4;have z5:=HQ2.out.ce 5;have z6:=HQ2.out.ce 6;have z7:=HQ2.out.ce 7;have z8:=HQ2.out.ce 8;have z9:=HQ2.out.ce 9;have z10:=HQ2.out.ce 10;have z11:=HQ2.out.ce 11;have z12:=HQ2.out.ce 12;have z13:=HQ2.out.ce 13;have z14:=HQ2.out.ce 14;go_upto_region 14 with fail
     refine wp_region_held_drew (S:=fun wq=>wq.cell? ⟨N0,0,none⟩=some (.int .i64 d.kind)∧wq.cell? ⟨N0,1,none⟩=some (.int .i64 (s:Nat))∧wq.cell? ⟨N0,2,none⟩=some (.int .i64 d.len)∧wq.cell? ⟨N0,3,none⟩=some (.int .u64 d.upto)∧wq.cell? ⟨N0,4,none⟩=some (.int .u64 d.at_)∧wq.cell? ⟨N0,5,none⟩=some (.slice av nk kv)∧wq.cell? ⟨N0,6,none⟩=some (.int .i64 d.cr.quantum)∧wq.cell? ⟨N0,7,none⟩=some (.int .i64 d.cr.first)∧wq.cell? ⟨N0,8,none⟩=some (.int .i64 d.cr.limit)∧wq.cell? ⟨N0,9,none⟩=some (.int .i64 d.cr.flowLimit)∧wq.cell? ⟨N0,10,none⟩=some (.int .u64 d.cr.horizon)∧wq.cell? ⟨N0,11,none⟩=some (.int .u64 d.cr.maxRate)∧wq.cell? ⟨N0,12,none⟩=some (.bool d.cr.drop)∧wq.cell? ⟨N0,13,none⟩=some (.int .i64 d.cr.cap)∧wq.cell? ⟨N0,14,none⟩=some (.int .i64 d.cr.mss)) (by kernel_rfl) ⟨z0,z1,z2,z3,z4,z5,z6,z7,z8,z9,z10,z11,z12,z13,z14⟩ (fun hHeld=> ?_);refine zt 0 ?_;refine zt 1 ?_;refine zt 2 ?_;refine zc 3 (fun K hK=> ?_);go_simp;refine(CNw.out _ (HX2.out.below (Below.refl _ _).drew)).mono ?_;rintro e w5 ⟨rfl,hw5⟩;subst hw5;refine hK.out _ _ ?_ (fun hHeld=> ?_);focus exact hHeld
     clear hK K;refine zl ?_;refine zc 4 (fun K hK=> ?_);go_simp;refine(CT.out _ (Below.refl _ _).drew HC2.out.tidy.drew).mono ?_;rintro e w6 ⟨rfl,g6,h6,S6⟩;have X:=(HX2.out.below (Below.refl _ _).drew).put_sk hs8 p1 h6 S6;have Q:=HQ2.out.drew.chg h6 (by omega);have O:=(HO2.out.below (Below.refl _ _).drew).chg h6 (by omega);have C:=HC2.out.drew.trans (h6.mono (by omega) (by omega));refine hK.out _ _ ?_ (fun hHeld=> ?_);focus exact⟨Q.cell 0,Q.cell 1,Q.cell 2,Q.cell 3,Q.cell 4,Q.cell 5,Q.cell 6,Q.cell 7,Q.cell 8,Q.cell 9,Q.cell 10,Q.cell 11,Q.cell 12,Q.cell 13,Q.cell 14⟩
     clear hK K;refine zl ?_;refine zt 5 ?_;refine dnZ ?_;have HX6:=zH X;have HC6:=zH C;have HO6:=zH O;have HQ6:=zH Q;clear X C O Q h6 S6 hHeld CT CNw z0 z1 z2 z3 z4 z5 z6 z7 z8 z9 z10 z11 z12 z13 z14;by_cases hr0:r=0
     ·subst hr0
      obtain rfl:=(if_pos rfl).symm.trans HER.out;have CP:=zH (mcpump_any b bo s hs8 pc sp pq pl fp bl bt _ HOK.out k2 (putF_at _ _ _) (.slice none 0 0) ou0 ⟨by decide,by decide⟩ 599 (pumpR m.now k2 m.q ou0) (pumpR_eq hnow ou0 HTO.out HM.out.ok.q) g6 T hT0 w6 HC6.out.tidy HX6.out HO6.out);have z1:=HQ6.out.ce 1;clear HER;go_wp2_with fail
      refine CP.out.mono ?_;rintro e w7 ⟨rfl,g7,fp7,h7,X7,O7,_⟩;(try dsimp only at X7)
      rw[putF_twice]at X7;have HC7:=zH (HC6.out.trans h7);have HX7:=zH X7;have HO7:=zH O7;clear h7 X7 O7 CP;go_wp2_with fail
      go_ret
      first | exact⟨rfl,g7,sp,fp7,HC7.out,HX7.out,HO7.out⟩ | exact⟨rfl,g7,HC7.out,⟨sp,fp7,HX7.out⟩,HO7.out⟩
     ·obtain rfl:=(if_neg hr0).symm.trans HER.out
      obtain rfl:=HTE.out hr0;have hX6:=HX6.out;rw[putF_same _ _ _ p2]at hX6;have HX7:=zH hX6;have b0:((r:Int)==0)=false:=by rw[beq_eq_false_iff_ne];omega
      clear hX6 HER;go_wp2_with fail
      go_ret
      first | exact⟨rfl,g6,sp,fp,HC6.out,HX7.out,HO6.out⟩ | exact⟨rfl,g6,HC6.out,⟨sp,fp,HX7.out⟩,HO6.out⟩
 ·have CO:=zH (mcone_off b bo d v hs w hr)
  have e1:oneF m d=(8,m,ou0):=by
   unfold oneF;rw[if_neg];rw[Bool.and_eq_true,decide_eq_true_eq,decide_eq_true_eq];exact hs
  rw[e1];refine CO.out.mono ?_;rintro e w' ⟨rfl,hB⟩;exact⟨rfl,g,sp,fp,(Chg.refl hT _ _).below hB,h.below hB,ho.below hB⟩
end
end Go.Proofs.YtojgokiobdpclaaGreat
