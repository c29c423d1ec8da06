import Derived.Test.YtojgokiobdpclaaGreatW1
namespace Go.Proofs.YtojgokiobdpclaaGreat
set_option linter.unusedVariables false
set_option linter.unusedSimpArgs false
set_option maxRecDepth 8000
set_option maxHeartbeats 8000000
section
open Go.RowKit Go.Lib
theorem lsF_no {fl:Nat→Option FL} {k:Nat} (h:flSegs (fl k)=[]):lsF fl (k+1)=lsF fl k:=by
 show(match fl k with | none=>lsF fl k | some f=>_)=_
 cases hf:fl k with
 | none=>rfl
 | some f=>
  rw[hf]at h;have h:f.segs=[]:=h;simp[h]
theorem lsF_yes {fl:Nat→Option FL} {k:Nat} {f:FL} {x:SG} {r:List SG} (hf:fl k=some f) (hs:f.segs=x::r) (h:(lsF fl k).2=false∨max f.next x.stamp<(lsF fl k).1):lsF fl (k+1)=(max f.next x.stamp,true):=by
 show(match fl k with | none=>lsF fl k | some f=>_)=_
 rw[hf];have ht:timeF f=max f.next x.stamp:=by unfold timeF;rw[hs]
 simp only
 rw[ht,if_pos ⟨by rw[hs];simp,h⟩]
theorem lsF_skip {fl:Nat→Option FL} {k:Nat} {f:FL} {x:SG} {r:List SG} (hf:fl k=some f) (hs:f.segs=x::r) (h1:(lsF fl k).2=true) (h:(lsF fl k).1≤max f.next x.stamp):lsF fl (k+1)=lsF fl k:=by
 show(match fl k with | none=>lsF fl k | some f=>_)=_
 rw[hf];have ht:timeF f=max f.next x.stamp:=by unfold timeF;rw[hs]
 simp only
 rw[ht,if_neg];rintro⟨_,h2 | h2⟩
 ·rw[h1]at h2;cases h2
 ·omega
theorem topworks_any (c:CR) (hmr:c.maxRate<18446744073709551616) (ds:List DD) (hds: ∀ d∈ds,d.raw) (v:Value) (w:World) (h:DsRd w (fun _=>0) v ds):
  Calls Tryz.prog 5 #[crv c,v] w fun e w'=>e= .returned (.bool true)∧Below w.heap.size w w':=by
 obtain⟨g0,hg0⟩: ∃ g:Nat→Nat,(fun _=>0)=g:=⟨_,rfl⟩;have hG0: ∀ b,g0 b=0:=fun b=>by rw[←hg0]
 rw[hg0]at h;have hT0:Tidy w g0:=fun b _=>hG0 b
 have CC:=zH (fun w'=>config_cf c w');have CN:=zH (fun w' hT'=>new_at (cfP c) (cfP_ok c hmr) g0 1 (by decide) w' hT');have HOK:=zH (newM_ok (cfP_ok c hmr));have HD:=zH h;have HT:=zH hT0;have HG:=zH hG0;have HDS:=zH (deeds_ok hds 90);obtain⟨n,en⟩: ∃ n,((ds.take 90).map ddP).length=n:=⟨_,rfl⟩;have HEN:=zH en;have hn90:n≤90:=by rw[←en];simp;omega
 obtain⟨a1,c1,rfl⟩: ∃ a cc,v= .slice a ds.length cc:=by
  obtain⟨xs,h1,_⟩:=h;obtain⟨a,cc,e,_⟩:=h1.1.form;exact⟨a,cc,e⟩
 clear h hT0 hG0 hg0 hds hmr en;unfold crv at CC ⊢;unfold cfv at CC CN;go_enter Tryz.func5,Tryz.ntmps5
 go_upto_region 1 with fail
 obtain⟨N0,e0⟩: ∃ z,w.heap.size=z:=⟨_,rfl⟩;rw[e0];refine wp_named (fun W=>At W N0 24 (crc c)∧Hid (Chg w W g0 g0 1 1)) ⟨by rw[←e0];exact At.made w _ _,zH ((Chg.refl HT.out 1 1).alloc _)⟩ (fun W hW=> ?_);obtain⟨A,HC⟩:=hW;have q0:=A.ce 0;have q1:=A.ce 1;have q2:=A.ce 2;have q3:=A.ce 3;have q4:=A.ce 4;have q5:=A.ce 5;have q6:=A.ce 6;have q7:=A.ce 7;have q8:=A.ce 8;go_wp2_with fail
 refine(CC.out _).mono ?_;rintro e w1 ⟨rfl,hB1⟩;have HC1:=zH (HC.out.below hB1);clear hB1 q0 q1 q2 q3 q4 q5 q6 q7 q8 A HC;go_wp2_with fail
 refine(CN.out _ HC1.out.tidy).mono ?_;rintro e w2 ⟨b,g2,rfl,C2,M2⟩;have HC2:=zH ((HC1.out.mono (lo':=1) (hi':=90) (Nat.le_refl _) (by omega)).trans (C2.mono (hi':=90) (Nat.le_refl _) (by omega)));have HM2:=zH M2;clear C2 M2 HC1 CC CN;go_wp2_with fail
 refine(awake_any _).mono ?_;rintro e w3 ⟨rfl,hB3⟩;have HC3:=zH (HC2.out.below hB3);have HM3:=zH (HM2.out.below hB3);clear hB3 HC2 HM2;go_wp2_with fail
 refine(deeds_any ds 90 (by decide) _ g2 w3 HC3.out.tidy (HD.out.chg HC3.out (by decide))).mono ?_;rintro e w4 ⟨v4,rfl,hB4,hD4⟩;have HC4:=zH (HC3.out.below hB4);have HM4:=zH (HM3.out.below hB4);have HD4:=zH hD4;clear HC3 HM3;obtain⟨a,cp,rfl⟩: ∃ a cc,v4= .slice a n cc:=by
  obtain⟨xs,h1,_⟩:=hD4;rw[HEN.out]at h1;obtain⟨a,cc,e,_⟩:=h1.1.form;exact⟨a,cc,e⟩
 clear hB4 hD4;go_wp2_with fail
 go_loopw [7] (fun v7 wr=> ∃(i:Nat) (g':Nat→Nat) (m:MC),v7= .int .i64 i∧i≤n∧Hid (Chg w wr g0 g' 1 90)∧Hid (McAt wr g' 1 b m)∧Hid (m.okn (2*i))∧Hid (DsRd wr g' (.slice a n cp) ((ds.take 90).map ddP))) (fun v7 _=>match v7 with | .int _ y=>n-y.toNat | _=>0)
 case atStart=>exact⟨0,g2,newM (cfP c),rfl,Nat.zero_le _,HC4,HM4,HOK,HD4⟩
 case round=>
  obtain⟨i,g',m,rfl,hi,HC,HM,HO,HR⟩:=hrel;by_cases hin:i=n
  ·subst hin
   go_wp2_with fail
   go_ret
   exact⟨rfl,HC.out.plain fun b=>by rw[HG.out];decide⟩
  ·have hi3:i<n:=by omega
   have hi1:decide ((i:Int)<n)=true:=decide_eq_true (by omega);have hi2:decide (i<n)=true:=decide_eq_true hi3;have HLT:Hid (n-(i+1)<n-i):=zH (by omega);have HIN:Hid (i+1≤n):=zH hi3;have hiw:wrap64 ((i:Int)+1)=((i+1:Nat):Int):=by unfold wrap64;omega
   obtain⟨d,hd⟩: ∃ d,((ds.take 90).map ddP)[i]? =some d:=⟨_,List.getElem?_eq_getElem (by have:=HEN.out;omega)⟩;obtain⟨b1,off,av,kv,rfl,hb,hcell,hri,_⟩:=HR.out.at_ HEN.out hd;have r0:wr.cell? ⟨b1,off+i*15,none⟩=some (.int .i64 d.kind):=hcell 0 (by decide);have r1:wr.cell? ⟨b1,off+i*15+1,none⟩=some (.int .i64 d.sock):=hcell 1 (by decide);have r2:wr.cell? ⟨b1,off+i*15+2,none⟩=some (.int .i64 d.len):=hcell 2 (by decide);have r3:wr.cell? ⟨b1,off+i*15+3,none⟩=some (.int .u64 d.upto):=hcell 3 (by decide);have r4:wr.cell? ⟨b1,off+i*15+4,none⟩=some (.int .u64 d.at_):=hcell 4 (by decide);have r5:wr.cell? ⟨b1,off+i*15+5,none⟩=some (.slice av d.sks.length kv):=hcell 5 (by decide);have r6:wr.cell? ⟨b1,off+i*15+6,none⟩=some (.int .i64 d.cr.quantum):=hcell 6 (by decide);have r7:wr.cell? ⟨b1,off+i*15+7,none⟩=some (.int .i64 d.cr.first):=hcell 7 (by decide);have r8:wr.cell? ⟨b1,off+i*15+8,none⟩=some (.int .i64 d.cr.limit):=hcell 8 (by decide);have r9:wr.cell? ⟨b1,off+i*15+9,none⟩=some (.int .i64 d.cr.flowLimit):=hcell 9 (by decide);have r10:wr.cell? ⟨b1,off+i*15+10,none⟩=some (.int .u64 d.cr.horizon):=hcell 10 (by decide);have r11:wr.cell? ⟨b1,off+i*15+11,none⟩=some (.int .u64 d.cr.maxRate):=hcell 11 (by decide);have r12:wr.cell? ⟨b1,off+i*15+12,none⟩=some (.bool d.cr.drop):=hcell 12 (by decide)
   have r13:wr.cell? ⟨b1,off+i*15+13,none⟩=some (.int .i64 d.cr.cap):=hcell 13 (by decide);have r14:wr.cell? ⟨b1,off+i*15+14,none⟩=some (.int .i64 d.cr.mss):=hcell 14 (by decide);have hdok:=HDS.out d (List.mem_of_getElem? hd);have CD:=zH (do_at b m (2*i) HO.out (by omega) d hdok (.slice av d.sks.length kv) g' 1 (by decide) wr HC.out.tidy hri.1 HM.out);have HO5:=zH (doF_ok HO.out (by omega) hdok);unfold ddv at CD;obtain⟨m5,em5⟩: ∃ z,(doF m d).2.1=z:=⟨_,rfl⟩;rw[em5]at CD HO5;clear hri hd hcell hb hdok em5 hi hin;go_upto_region 8 with fail
   refine wp_region_lit ?_;iterate 5 (refine wpList_plain rfl fun K hK=> ?_;go_simp;refine hK _ _ ?_;clear hK K)
   refine wpList_plain rfl fun K hK=> ?_
   go_simp;refine CD.out.mono ?_;rintro e w5 ⟨vo,g5,rfl,C5,M5,O5⟩;refine hK _ _ ?_;clear hK K;refine wpList_nil ?_;have HC5:=zH (HC.out.trans (C5.mono (lo':=1) (hi':=90) (Nat.le_refl _) (by omega)));have HM5:=zH M5;have HR5:=zH (HR.out.chg C5 (by decide));clear C5 M5 O5 HC HM HR HO CD r0 r1 r2 r3 r4 r5 r6 r7 r8 r9 r10 r11 r12 r13 r14;go_wp2_with fail
   go_loopw [8,9,10] (fun v8 v9 v10 wk=> ∃ k:Nat,v10= .int .i64 k∧k≤8∧v8= .int .u64 ((lsF m5.q.fl k).1:Nat)∧v9= .bool (lsF m5.q.fl k).2∧Hid (Below w5.heap.size w5 wk)) (fun _ _ v10 _=>match v10 with | .int _ y=>8-y.toNat | _=>0)
   case atStart=>exact⟨0,rfl,by decide,rfl,rfl,zH (Below.refl _ _)⟩
   case round=>
    obtain⟨k,rfl,hk,rfl,rfl,HB⟩:=hrel;by_cases hk8:k=8
    ·subst hk8
     have HC6:=zH (HC5.out.below HB.out);have HM6:=zH (HM5.out.below HB.out);have HR6:=zH (HR5.out.below HB.out);have CP:=zH (do_at b m5 (2*i+1) HO5.out (by omega) pulD pulD_ok (.slice none 0 0) g5 1 (by decide) _ HC6.out.tidy ⟨rfl, .inl ⟨⟨_,_,rfl⟩,rfl⟩⟩ HM6.out);have HO6:=zH (doF_ok HO5.out (by omega) pulD_ok);rw[do_pul]at CP HO6;have hnow:=HO5.out.ok.now;have HW:=zH (works HO5.out.ok.q (show m5.now<18446744073709551616 by omega) m5.rt HM6.out.rise);obtain⟨P,eP⟩: ∃ z,pullO (deqR m5.q m5.now m5.rt) ou0=z:=⟨_,rfl⟩;obtain⟨Q,eQ⟩: ∃ z,(deqR m5.q m5.now m5.rt).2=z:=⟨_,rfl⟩;rw[eP,eQ]at CP HW;rw[eQ]at HO6;obtain⟨l,eL⟩: ∃ z,lsF m5.q.fl 8=z:=⟨_,rfl⟩;rw[eL]at HW ⊢;unfold ddv pulD cr0 at CP;clear eP eQ eL hnow HC5 HM5 HR5 HB HO5;go_wp2_with fail
     refine CP.out.mono ?_;rintro e w6 ⟨vo,g6,rfl,C6,M6,O6⟩;have HC7:=zH (HC6.out.trans (C6.mono (lo':=1) (hi':=90) (Nat.le_refl _) (by omega)));have HM7:=zH M6;have HR7:=zH (HR6.out.chg C6 (by decide));have w1:=HW.out M6.rise;obtain⟨ad,cd,ax,cx,af,cf,rfl,_⟩:=O6.rd.ex;clear C6 M6 O6 HC6 HM6 HR6 CP HW;obtain⟨w1,w2,w3⟩:=w1;have CNW:Hid (∀ w',Below w6.heap.size w6 w'→Calls Tryz.prog 14 #[.pointer (some ⟨b,0,none⟩)] w' fun e w''=>e= .returned (.int .u64 (m5.now:Nat))∧w'=w''):=zH (fun w' hB=>now_at (m:={ m5 with q:=Q }) (HM7.out.below hB));obtain⟨nd,ed⟩: ∃ z,P.dep.length=z:=⟨_,rfl⟩;obtain⟨dg,edg⟩: ∃ z,P.dog=z:=⟨_,rfl⟩;obtain⟨nw,enw⟩: ∃ z,m5.now=z:=⟨_,rfl⟩;rw[ed,enw]at w1;rw[edg,enw]at w2;rw[ed]at w3 ⊢;rw[edg];rw[enw]at CNW;obtain⟨lt,la⟩:=l;simp only at w1 w2 ⊢
     have W123:=zH (And.intro w1 (And.intro w2 w3));clear ed edg enw w1 w2 w3;go_upto_region 17 with fail
     obtain⟨N6,e6⟩: ∃ z,w6.heap.size=z:=⟨_,rfl⟩;rw[e6];refine wp_named (fun W=>At W N6 41 #[.slice ad nd cd, .slice ax P.drop.length cx, .slice af P.fates.length cf, .int .u64 dg]∧Hid (Below w6.heap.size w6 W)) ⟨by rw[←e6];exact At.made w6 _ _,zH ((Below.refl _ w6).alloc (Nat.le_refl _) _)⟩ (fun W7 hW=> ?_);obtain⟨A7,HB7⟩:=hW;have HC8:=zH (HC7.out.below HB7.out);have HM8:=zH (HM7.out.below HB7.out);have HR8:=zH (HR7.out.below HB7.out);have f0:=A7.ce 0;have f3:=A7.ce 3;have CN7:=zH (CNW.out W7 HB7.out);clear A7 HC7 HM7 HR7 CNW HB7 e6;obtain⟨w1,w2,w3⟩:=W123.out;clear W123;cases la with
     | false=>
      obtain rfl:nd=0:=by simp at w1;omega
      obtain rfl:dg=0:=by simpa using w2
      clear w1 w2 w3;go_wp2_with fail
      go_roundw
      case rel=>exact⟨i+1,g6,_,by simp,HIN.out,HC8,HM8,zH (HO6.out.mono (by omega)),HR8⟩
      case measure=>have:=HLT.out;simp;omega
     | true=>
      by_cases hdue:lt≤nw
      ·have d1:decide ((lt:Int)≤nw)=true:=decide_eq_true (by omega)
       have d2:decide (lt≤nw)=true:=decide_eq_true hdue;rw[d2]at w1 w2;obtain rfl:nd=1:=by simpa using w1
       obtain rfl:dg=0:=by simpa using w2
       clear w1 w2 w3;go_wp2_with fail
       refine CN7.out.mono ?_;rintro e w9 ⟨rfl,rfl⟩;go_wp2_with fail
       go_roundw
       case rel=>exact⟨i+1,g6,_,by simp,HIN.out,HC8,HM8,zH (HO6.out.mono (by omega)),HR8⟩
       case measure=>have:=HLT.out;simp;omega
      ·have d1:decide ((lt:Int)≤nw)=false:=decide_eq_false (by omega)
       have d2:decide (lt≤nw)=false:=decide_eq_false hdue;rw[d2]at w1 w2;obtain rfl:nd=0:=by simp at w1;omega
       obtain rfl:dg=max 1 lt:=by simpa using w2
       have em:max (1:Int) lt=((max 1 lt:Nat):Int):=by omega
       obtain⟨mx,hmx⟩: ∃ z,max 1 lt=z:=⟨_,rfl⟩;rw[hmx]at em f3;clear w1 w2 w3 hmx;go_wp2_with fail
       refine CN7.out.mono ?_;rintro e w9 ⟨rfl,rfl⟩;go_wp2_with fail
       go_roundw
       case rel=>exact⟨i+1,g6,_,by simp,HIN.out,HC8,HM8,zH (HO6.out.mono (by omega)),HR8⟩
       case measure=>have:=HLT.out;simp;omega
    ·have hk1:decide ((k:Int)<8)=true:=decide_eq_true (by omega)
     have hk2:decide (k<8)=true:=decide_eq_true (by omega);have hkw:wrap64 ((k:Int)+1)=((k+1:Nat):Int):=by unfold wrap64;omega
     have HKL:Hid (8-(k+1)<8-k∧k+1≤8):=zH (by omega);have CF:=zH (flow_at HO5.out (show k<8 by omega) (by decide) (HC5.out.below HB.out).tidy (HM5.out.below HB.out));obtain⟨L,eL⟩: ∃ z,lsF m5.q.fl k=z:=⟨_,rfl⟩;rw[eL];obtain⟨S,eS⟩: ∃ z,flSegs (m5.q.fl k)=z:=⟨_,rfl⟩;rw[eS]at CF;have HEL:=zH eL;have HES:=zH eS;clear eL eS hk8;go_wp2_with fail
     refine CF.out.mono ?_;rintro e w6 ⟨a6,c6,z,cr,p,n',t',rfl,hR6,hB6,hn6⟩;have HB6:=zH (HB.out.trans (hB6.mono HB.out.size));have HR6:=zH hR6;have HN6:=zH hn6;clear hR6 hB6 hn6 CF HB;go_upto_region 14 with fail
     obtain⟨N6,e6⟩: ∃ z,w6.heap.size=z:=⟨_,rfl⟩;rw[e6];refine wp_named (fun W=>At W N6 57 #[.int .i64 (z:Nat), .int .i64 cr, .int .i64 (p:Nat), .int .u64 (n':Nat), .int .u64 (t':Nat), .slice a6 S.length c6]∧Hid (Below w6.heap.size w6 W)) ⟨by rw[←e6];exact At.made w6 _ _,zH ((Below.refl _ w6).alloc (Nat.le_refl _) _)⟩ (fun W7 hW=> ?_);obtain⟨A7,HB7⟩:=hW;have HR7:=zH (HR6.out.below HB7.out);have HB7:=zH (HB6.out.trans (HB7.out.mono HB6.out.size));have f0:=A7.ce 0;have f1:=A7.ce 1;have f2:=A7.ce 2;have f3:=A7.ce 3;have f4:=A7.ce 4;have f5:=A7.ce 5;have HA7:=zH A7;clear A7 HR6 HB6 e6;obtain⟨l1,l2⟩:=L;cases S with
     | nil=>
      have e:=lsF_no HES.out;rw[HEL.out]at e;have HE:=zH e;clear e f0 f1 f2 f3 f4;simp only[List.length_nil]at f5;go_wp2_with fail
      go_roundw
      case rel=>exact⟨k+1,rfl,HKL.out.2,by rw[HE.out],by rw[HE.out],HB7⟩
      case measure=>exact HKL.out.1
     | cons x r=>
      obtain⟨f,hf,hfs⟩: ∃ f,m5.q.fl k=some f∧f.segs=x::r:=by
       have h:=HES.out;cases hf:m5.q.fl k with
       | none=>rw[hf]at h;cases h
       | some f=>rw[hf]at h;exact⟨f,rfl,h⟩
      obtain rfl:=HN6.out f hf;have CT:=zH (fun w' (hB:Below W7.heap.size W7 w')=>time_any (z:Nat) cr p f.next t' x r a6 (x::r).length c6 rfl w' (HR7.out.below hB));have y1:=fun h=>lsF_yes hf hfs h
      have y2:=fun h1 h2=>lsF_skip hf hfs h1 h2
      rw[HEL.out]at y1 y2;have Y1:=zH y1;have Y2:=zH y2;obtain⟨tm,etm⟩: ∃ z,max f.next x.stamp=z:=⟨_,rfl⟩;rw[etm]at CT Y1 Y2;obtain⟨nx,enx⟩: ∃ z,f.next=z:=⟨_,rfl⟩;rw[enx]at CT f3;obtain⟨ln,eln⟩: ∃ z,(x::r).length=z:=⟨_,rfl⟩;rw[eln]at CT f5;have hln:0<ln:=by rw[←eln];simp
      have hln1:decide ((0:Int)<ln)=true:=decide_eq_true (by omega);have hln2:decide (0<ln)=true:=decide_eq_true hln;have ENX:=zH enx;have ELN:=zH eln;clear y1 y2 hf hfs etm enx eln HR7 HES HN6;cases l2 with
      | false=>
       go_wp2_with fail
       refine(CT.out _ (Below.refl _ _)).mono ?_;rintro e w8 ⟨rfl,hB8⟩;have HB8:=zH (HB7.out.trans (hB8.mono HB7.out.size));have HE:=zH (Y1.out (.inl (by first | rfl | trivial)));clear hB8 Y1 Y2 f0 f1 f2 f3 f4 f5;go_wp2_with fail
       go_roundw
       case rel=>exact⟨k+1,rfl,HKL.out.2,by rw[HE.out],by rw[HE.out],HB8⟩
       case measure=>exact HKL.out.1
      | true=>
       go_wp2_with fail
       refine(CT.out _ (Below.refl _ _)).mono ?_;rintro e w8 ⟨rfl,hB8⟩;have HB8:=zH (HB7.out.trans (hB8.mono HB7.out.size));by_cases hlt:tm<l1
       ·have g1:decide ((tm:Int)<l1)=true:=decide_eq_true (by omega)
        have g2:decide (tm<l1)=true:=decide_eq_true hlt;have HE:=zH (Y1.out (.inr hlt));have A8:=HA7.out.below hB8 HA7.out.lt;have CT2:=zH (fun w' h=>CT.out w' (hB8.trans h));clear CT f0 f1 f2 f3 f4 f5;have f0:=A8.ce 0;have f1:=A8.ce 1;have f2:=A8.ce 2;have f3:w8.cell? ⟨N6,3,none⟩=some (.int .u64 nx):=by rw[←ENX.out];exact A8.cell 3
        have f4:=A8.ce 4;have f5:w8.cell? ⟨N6,5,none⟩=some (.slice a6 ln c6):=by rw[←ELN.out];exact A8.cell 5
        clear A8 hB8;go_wp2_with fail
        refine(CT2.out _ (Below.refl _ _)).mono ?_;rintro e w9 ⟨rfl,hB9⟩;have HB9:=zH (HB8.out.trans (hB9.mono HB8.out.size));clear hB9 f0 f1 f2 f3 f4 f5 CT2;go_wp2_with fail
        go_roundw
        case rel=>exact⟨k+1,rfl,HKL.out.2,by rw[HE.out],by rw[HE.out],HB9⟩
        case measure=>exact HKL.out.1
       ·have g1:decide ((tm:Int)<l1)=false:=decide_eq_false (by omega)
        have g2:decide (tm<l1)=false:=decide_eq_false hlt;have HE:=zH (Y2.out (by first | rfl | trivial) (by first | omega | (simp only;omega)));clear CT hB8 f0 f1 f2 f3 f4 f5;go_wp2_with fail
        go_roundw
        case rel=>exact⟨k+1,rfl,HKL.out.2,by rw[HE.out],by rw[HE.out],HB8⟩
        case measure=>exact HKL.out.1
end
end Go.Proofs.YtojgokiobdpclaaGreat
