import Derived.Test.YtojgokiobdpclaaGreatB1
import Derived.BigQuiet
namespace Go.Proofs.YtojgokiobdpclaaGreat
set_option linter.unusedVariables false
set_option linter.unusedSimpArgs false
set_option maxRecDepth 8000
set_option maxHeartbeats 8000000
section
open Go.RowKit Go.Lib
theorem doF_c (m:MC) {d:DD} (hmr:d.cr.maxRate<18446744073709551616):
  ((doF m d).1=0∧d.kind=8→d.cr.cap=((doF m d).2.1.c.cap:Nat))∧(¬((doF m d).1=0∧d.kind=8)→(doF m d).2.1.c=m.c):=by
 unfold doF;split
 ·exact⟨fun h=>by omega,fun _=>rfl⟩
 ·split
  ·exact⟨fun h=>by omega,fun _=>rfl⟩
  ·split
   ·cases hm:d.cr.may with
    | true=>
     rw[if_pos rfl];unfold MC.set_;rw[if_pos hm];exact⟨fun _=>(CR.may_ok hm hmr).2.2.2.2.2.1,fun h=>absurd ⟨rfl,by assumption⟩ h⟩
    | false=>
     rw[if_neg (by simp)];unfold MC.set_;rw[if_neg (by simp[hm])];exact⟨fun h=>absurd h.1 (show ¬(13:Nat)=0 by decide),fun _=>rfl⟩
   ·split
    ·refine⟨fun h=>by omega,fun _=> ?_⟩
     unfold oneF;split
     ·cases m.sk d.sock.toNat with
      | none=>unfold oneS;simp only;split<;>rfl
      | some k=>
       unfold oneS;simp only
       split
       ·rfl
       ·split
        ·rfl
        ·split<;>rfl
     ·rfl
    ·exact⟨fun h=>by omega,fun _=>rfl⟩
theorem doF_open (m:MC) {d:DD} (h:(doF m d).1=0) (hk:d.kind=1): ∃ s:Nat,d.sock=s∧s<8:=by
 unfold doF at h;rw[if_neg (by omega),if_neg (by omega),if_neg (by omega),if_pos (.inl hk)]at h;unfold oneF at h;split at h
 ·rename_i hs
  rw[Bool.and_eq_true,decide_eq_true_eq,decide_eq_true_eq]at hs;exact⟨d.sock.toNat,by omega,by omega⟩
 ·cases h
def mostC (f:Nat→Nat):Array Value:= #[.int .i64 (f 0:Nat), .int .i64 (f 1:Nat), .int .i64 (f 2:Nat), .int .i64 (f 3:Nat), .int .i64 (f 4:Nat), .int .i64 (f 5:Nat), .int .i64 (f 6:Nat), .int .i64 (f 7:Nat)]
theorem mostC_get (f:Nat→Nat): ∀ {s:Nat},s<8→(mostC f)[s]? =some (.int .i64 (f s:Nat))
 | 0,_=>rfl
 | 1,_=>rfl
 | 2,_=>rfl
 | 3,_=>rfl
 | 4,_=>rfl
 | 5,_=>rfl
 | 6,_=>rfl
 | 7,_=>rfl
 | n+8,h=>by omega
theorem mostC_set (f:Nat→Nat) (v:Nat): ∀ {s:Nat},s<8→(mostC f).setIfInBounds s (.int .i64 (v:Nat))=mostC (putF f s v)
 | 0,_=>rfl
 | 1,_=>rfl
 | 2,_=>rfl
 | 3,_=>rfl
 | 4,_=>rfl
 | 5,_=>rfl
 | 6,_=>rfl
 | 7,_=>rfl
 | n+8,h=>by omega
theorem sto_four (o:Option SK): ∃ n2 n3:Nat,sto o= .agg #[.int .u64 (wasO o:Nat), .int .u64 (wasF o:Nat), .int .u64 (n2:Nat), .int .i64 (n3:Nat)]:=by
 cases o
 ·exact⟨0,0,rfl⟩
 ·exact⟨_,_,rfl⟩
def WasC (m:MC) (j:Nat) (xs:Array Value):Prop:=xs.size=32∧ ∀ s,s<j→xs[s*4]? =some (.int .u64 (wasO (m.sk s):Nat))∧xs[s*4+1]? =some (.int .u64 (wasF (m.sk s):Nat))
theorem WasC.next {m:MC} {j:Nat} {xs:Array Value} (h:WasC m j xs) (hj:j<8) (x y:Value):
  WasC m (j+1) ((((xs.setIfInBounds (j*4) (.int .u64 (wasO (m.sk j):Nat))).setIfInBounds (j*4+1) (.int .u64 (wasF (m.sk j):Nat))).setIfInBounds (j*4+2) x).setIfInBounds (j*4+3) y):=by
 obtain⟨h1,h2⟩:=h;refine⟨by simp[h1],fun s hs=> ?_⟩;simp only[Array.getElem?_setIfInBounds,Array.size_setIfInBounds,h1];by_cases e:s=j
 ·subst e
  constructor
  ·rw[if_neg (by omega),if_neg (by omega),if_neg (by omega),if_pos (by omega),if_pos (by omega)]
  ·rw[if_neg (by omega),if_neg (by omega),if_pos (by omega),if_pos (by omega)]
 ·obtain⟨h3,h4⟩:=h2 s (by omega)
  constructor
  ·rw[if_neg (by omega),if_neg (by omega),if_neg (by omega),if_neg (by omega)];exact h3
  ·rw[if_neg (by omega),if_neg (by omega),if_neg (by omega),if_neg (by omega)];exact h4
theorem topbounds_any (c:CR) (hmr:c.maxRate<18446744073709551616) (ds:List DD) (hds: ∀ d∈ds,d.raw) (v:Value) (w:World) (h:DsRd w (fun _=>0) v ds):
  Calls Tryz.prog 7 #[crv c,v] w fun e w'=>e= .returned (.bool true)∧Below w.heap.size w w':=by
 obtain⟨g0,hg0⟩: ∃ g:Nat→Nat,(fun _=>0)=g:=⟨_,rfl⟩;have hG0: ∀ b,g0 b=0:=fun b=>by rw[←hg0]
 rw[hg0]at h;have hT0:Tidy w g0:=fun b _=>hG0 b
 have CC:=zH (fun w'=>config_cf c w');have CN:=zH (fun w' g T (hT0:0<T) hT'=>new_at (cfP c) (cfP_ok c hmr) g T hT0 w' hT');have HOK:=zH (newM_ok (cfP_ok c hmr));have HD:=zH h;have HT:=zH hT0;have HG:=zH hG0;have HDS:=zH (deeds_ok hds 90);obtain⟨n,en⟩: ∃ n,((ds.take 90).map ddP).length=n:=⟨_,rfl⟩;have HEN:=zH en;have hn90:n≤90:=by rw[←en];simp;omega
 obtain⟨a1,c1,rfl⟩: ∃ a cc,v= .slice a ds.length cc:=by
  obtain⟨xs,h1,_⟩:=h;obtain⟨a,cc,e,_⟩:=h1.1.form;exact⟨a,cc,e⟩
 clear h hT0 hG0 hg0 hds hmr en;unfold crv at CC ⊢;unfold cfv at CC CN;go_enter Tryz.func7,Tryz.ntmps7
 go_upto_region 1 with fail
 obtain⟨N0,e0⟩: ∃ z,w.heap.size=z:=⟨_,rfl⟩;rw[e0];refine wp_named (fun W=>At W N0 24 (crc c)∧Hid (Chg w W g0 g0 1 1)∧g0 N0=0) ⟨by rw[←e0];exact At.made w _ _,zH ((Chg.refl HT.out 1 1).alloc _),HG.out _⟩ (fun W hW=> ?_);obtain⟨A,HC,gN0⟩:=hW;have q0:=A.ce 0;have q1:=A.ce 1;have q2:=A.ce 2;have q3:=A.ce 3;have q4:=A.ce 4;have q5:=A.ce 5;have q6:=A.ce 6;have q7:=A.ce 7;have q8:=A.ce 8;refine wp_region_lit ?_;refine wpList_plain rfl fun K hK=> ?_
 go_simp;refine hK _ _ ?_;clear hK K;refine wpList_plain rfl fun K hK=> ?_
 go_simp;refine(CC.out _).mono ?_;rintro e w1 ⟨rfl,hB1⟩;refine hK _ _ ?_;clear hK K;have HC1:=zH (HC.out.below hB1);refine wpList_store_row _ rfl 24 (.tmp 2) (.tmp 21) rfl N0 _ #[.int .i64 ((cfP c).quantum:Nat), .int .i64 ((cfP c).first:Nat), .int .i64 ((cfP c).limit:Nat), .int .i64 ((cfP c).flowLimit:Nat), .int .u64 ((cfP c).horizon:Nat), .int .u64 ((cfP c).maxRate:Nat), .bool (cfP c).drop, .int .i64 ((cfP c).cap:Nat), .int .i64 ((cfP c).mss:Nat)] (A.below hB1 A.lt) rfl rfl (by kernel_rfl) rfl (by simp[Value.oneCell']) (fun W2 P2=> ?_);refine wpList_nil ?_;have hN0:w.heap.size≤N0:=Nat.le_of_eq e0;have HC2:=zH (HC1.out.put P2 (fun hlt=>absurd hlt (by omega)));have A2:=P2.1;have HA2:=zH A2;have s0:=A2.ce 0;have s1:=A2.ce 1;have s2:=A2.ce 2;have s3:=A2.ce 3;have s4:=A2.ce 4;have s5:=A2.ce 5;have s6:=A2.ce 6;have s7:=A2.ce 7;have s8:=A2.ce 8;clear hB1 q0 q1 q2 q3 q4 q5 q6 q7 q8 A HC HC1 P2 CC;go_wp2_with fail
 refine(CN.out _ g0 1 (by decide) HC2.out.tidy).mono ?_;rintro e w3 ⟨b,g3,rfl,C3,M3⟩;have A3:=HA2.out.chg C3 (.inl (by rw[gN0];decide));have gN3:g3 N0=0:=(C3.old N0 HA2.out.lt).trans gN0;have HC3:=zH ((HC2.out.mono (lo':=1) (hi':=90) (Nat.le_refl _) (by omega)).trans (C3.mono (hi':=90) (Nat.le_refl _) (by omega)));have HM3:=zH M3;have HA3:=zH A3;clear s0 s1 s2 s3 s4 s5 s6 s7 s8;clear A3 C3 M3 HC2 HA2 A2 CN;go_wp2_with fail
 refine(awake_any _).mono ?_;rintro e w5 ⟨rfl,hB5⟩;have HC5:=zH (HC3.out.below hB5);have HM5:=zH (HM3.out.below hB5);have HA5:=zH (HA3.out.below hB5 HA3.out.lt);clear hB5 HC3 HM3 HA3;go_wp2_with fail
 refine(deeds_any ds 90 (by decide) _ g3 w5 HC5.out.tidy (HD.out.chg HC5.out (by decide))).mono ?_;rintro e w6 ⟨v6,rfl,hB6,hD6⟩;have HC6:=zH (HC5.out.below hB6);have HM6:=zH (HM5.out.below hB6);have A6:=HA5.out.below hB6 HA5.out.lt;have HD6:=zH hD6;clear HC5 HM5 HA5;obtain⟨a,cp,rfl⟩: ∃ a cc,v6= .slice a n cc:=by
  obtain⟨xs,h1,_⟩:=hD6;rw[HEN.out]at h1;obtain⟨a,cc,e,_⟩:=h1.1.form;exact⟨a,cc,e⟩
 clear hB6 hD6;go_upto_region 6 with fail
 obtain⟨nM,eM⟩: ∃ z,w6.heap.size=z:=⟨_,rfl⟩;refine wp_region_lit ?_;refine wpList_plain rfl fun K hK=> ?_
 go_simp;refine hK _ _ ?_;clear hK K;refine wpList_nil ?_;refine q_named (fun W=> ∃ g7,Of W g7 85 nM 70 (mostC fun _=>0)∧At W N0 24 (crc (cfP c).cr)∧Hid (Chg w6 W g3 g7 1 1)) ⟨_,by rw[←eM];exact Of.made w6 g3 85 _ _,A6.below ((Below.refl _ w6).alloc (Nat.le_refl _) _) A6.lt,zH ((Chg.refl HC6.out.tidy 1 1).tag _ 85)⟩ (fun W7 hW=> ?_);obtain⟨g7,M7,A7,K7⟩:=hW;have HC7:=zH (HC6.out.trans (K7.out.mono (hi':=90) (Nat.le_refl _) (by omega)));have HM7:=zH (HM6.out.chg K7.out (.inr (Nat.le_refl _)));have HD7:=zH (HD6.out.chg K7.out (by decide));have HA7:=zH A7;have HL7:=zH M7;have t0:=A7.ce 0;have t1:=A7.ce 1;have t2:=A7.ce 2;have t3:=A7.ce 3;have t4:=A7.ce 4;have t5:=A7.ce 5;have t6:=A7.ce 6;have t7:=A7.ce 7;have t8:=A7.ce 8;clear A6 A7 M7 K7 HC6 HM6 HD6 eM;go_upto_region 7 with fail
 obtain⟨nN,eN⟩: ∃ z,W7.heap.size=z:=⟨_,rfl⟩;refine wp_region_lit ?_;iterate 2 (refine wpList_plain rfl fun K hK=> ?_;go_simp;refine hK _ _ ?_;clear hK K)
 refine wpList_store_new _ rfl 24 (.tmp 8) (.tmp 39) rfl _ #[.int .i64 ((cfP c).quantum:Nat), .int .i64 ((cfP c).first:Nat), .int .i64 ((cfP c).limit:Nat), .int .i64 ((cfP c).flowLimit:Nat), .int .u64 ((cfP c).horizon:Nat), .int .u64 ((cfP c).maxRate:Nat), .bool (cfP c).drop, .int .i64 ((cfP c).cap:Nat), .int .i64 ((cfP c).mss:Nat)] nN eN rfl rfl (by kernel_rfl) rfl (by simp[Value.oneCell']) ?_;refine wpList_nil ?_;have ecr: #[.int .i64 ((cfP c).quantum:Nat), .int .i64 ((cfP c).first:Nat), .int .i64 ((cfP c).limit:Nat), .int .i64 ((cfP c).flowLimit:Nat), .int .u64 ((cfP c).horizon:Nat), .int .u64 ((cfP c).maxRate:Nat), .bool (cfP c).drop, .int .i64 ((cfP c).cap:Nat), .int .i64 ((cfP c).mss:Nat)]=crc (cfP c).cr:=rfl;rw[ecr];refine q_named (fun W=> ∃ g8,Of W g8 86 nN 24 (crc (cfP c).cr)∧Of W g8 85 nM 70 (mostC fun _=>0)∧Hid (Chg W7 W g7 g8 1 1)) ⟨_,by rw[←eN];exact Of.made W7 g7 86 _ _,HL7.out.chg ((Chg.refl HC7.out.tidy 1 1).tag _ 86) (.inr (by decide)),zH ((Chg.refl HC7.out.tidy 1 1).tag _ 86)⟩ (fun W8 hW=> ?_);obtain⟨g8,N8,M8,K8⟩:=hW;have HC8:=zH (HC7.out.trans (K8.out.mono (hi':=90) (Nat.le_refl _) (by omega)));have HM8:=zH (HM7.out.chg K8.out (.inr (Nat.le_refl _)));have HD8:=zH (HD7.out.chg K8.out (by decide));have HN8:=zH N8;have HL8:=zH M8;clear t0 t1 t2 t3 t4 t5 t6 t7 t8;clear N8 M8 K8 HC7 HM7 HD7 HA7 HL7 eN ecr;go_upto_region 8 with fail
 go_wp2_with fail
 go_loopw [9] (fun v9 wr=> ∃(i:Nat) (g':Nat→Nat) (m:MC) (mo:Nat→Nat) (cc:CR),v9= .int .i64 i∧i≤n∧Hid (Chg w wr g0 g' 1 90)∧Hid (McAt wr g' 1 b m)∧Hid (m.okn i)∧Hid (DsRd wr g' (.slice a n cp) ((ds.take 90).map ddP))∧Hid (Of wr g' 85 nM 70 (mostC mo))∧Hid (Of wr g' 86 nN 24 (crc cc))∧Hid (cc.cap=(m.c.cap:Nat)∧MoI m mo)) (fun v9 _=>match v9 with | .int _ y=>n-y.toNat | _=>0)
 case atStart=>exact⟨0,g8,newM (cfP c),fun _=>0,(cfP c).cr,rfl,Nat.zero_le _,HC8,HM8,HOK,HD8,HL8,HN8,zH ⟨rfl,fun s k _ h=>(by cases h)⟩⟩
 case round=>
  obtain⟨i,g',m,mo,cc,rfl,hi,HC,HM,HO,HR,HL,HNW,HI⟩:=hrel;by_cases hin:i=n
  ·subst hin
   go_wp2_with fail
   go_ret
   exact⟨rfl,HC.out.plain fun b=>by rw[HG.out];decide⟩
  ·have hi3:i<n:=by omega
   have hi1:decide ((i:Int)<n)=true:=decide_eq_true (by omega);have hi2:decide (i<n)=true:=decide_eq_true hi3;have HLT:Hid (n-(i+1)<n-i):=zH (by omega);have HIN:Hid (i+1≤n):=zH hi3;have hiw:wrap64 ((i:Int)+1)=((i+1:Nat):Int):=by unfold wrap64;omega
   have HIW:=zH hiw;obtain⟨nW,eW⟩: ∃ z,wr.heap.size=z:=⟨_,rfl⟩;clear hi hin hiw;obtain⟨wo,rfl⟩: ∃ z,z=wr:=⟨_,rfl⟩;go_upto_region 11 with fail
   refine wp_region_lit ?_;refine wpList_plain rfl fun K hK=> ?_
   go_simp;refine hK _ _ ?_;clear hK K;refine wpList_nil ?_;refine q_named (fun W=>(∃ xs,At W nW 71 xs∧WasC m 0 xs)∧Hid (Below nW wo W)) ⟨⟨_,by rw[←eW];exact At.made wo _ _,rfl,fun s hs=>absurd hs (Nat.not_lt_zero s)⟩,zH (by rw[←eW];exact(Below.refl _ wo).alloc (Nat.le_refl _) _)⟩ (fun Wa hW=> ?_);obtain⟨⟨xs0,X0,hx0⟩,HB0⟩:=hW;have HEW:=zH eW;have X0:=zH X0;have hx0:=zH hx0;clear eW;go_upto_region 12 with fail
   go_wp2_with fail
   go_loopw [11] (fun v11 wk=> ∃(j:Nat) (xs:Array Value),v11= .int .i64 j∧j≤8∧Hid (Below nW wo wk)∧Hid (At wk nW 71 xs)∧Hid (WasC m j xs)) (fun v11 _=>match v11 with | .int _ y=>8-y.toNat | _=>0)
   case atStart=>exact⟨0,xs0,rfl,by decide,HB0,X0,hx0⟩
   case round=>
    obtain⟨j,xs,rfl,hj,HB,HX,HWC⟩:=hrel;by_cases hj8:j=8
    ·subst hj8
     obtain⟨wa,rfl⟩: ∃ z,z=wr:=⟨_,rfl⟩;have hB:Below wo.heap.size wo wa:=by rw[HEW.out];exact HB.out
     have HCa:=zH (HC.out.below hB);have HMa:=zH (HM.out.below hB);have HRa:=zH (HR.out.below hB);have HLa:=zH (HL.out.below hB);have HNa:=zH (HNW.out.below hB);have gW:g' nW=0:=HC.out.tidy nW (Nat.le_of_eq HEW.out);have HGW:=zH gW;obtain⟨d,hd⟩: ∃ d,((ds.take 90).map ddP)[i]? =some d:=⟨_,List.getElem?_eq_getElem (by have:=HEN.out;have:=HIN.out;omega)⟩;obtain⟨b1,off,av,kv,rfl,hb,hcell,hri,gb1⟩:=HRa.out.at_ HEN.out hd;have r0:wa.cell? ⟨b1,off+i*15,none⟩=some (.int .i64 d.kind):=hcell 0 (by decide);have r1:wa.cell? ⟨b1,off+i*15+1,none⟩=some (.int .i64 d.sock):=hcell 1 (by decide);have r2:wa.cell? ⟨b1,off+i*15+2,none⟩=some (.int .i64 d.len):=hcell 2 (by decide);have r3:wa.cell? ⟨b1,off+i*15+3,none⟩=some (.int .u64 d.upto):=hcell 3 (by decide);have r4:wa.cell? ⟨b1,off+i*15+4,none⟩=some (.int .u64 d.at_):=hcell 4 (by decide);have r5:wa.cell? ⟨b1,off+i*15+5,none⟩=some (.slice av d.sks.length kv):=hcell 5 (by decide);have r6:wa.cell? ⟨b1,off+i*15+6,none⟩=some (.int .i64 d.cr.quantum):=hcell 6 (by decide);have r7:wa.cell? ⟨b1,off+i*15+7,none⟩=some (.int .i64 d.cr.first):=hcell 7 (by decide);have r8:wa.cell? ⟨b1,off+i*15+8,none⟩=some (.int .i64 d.cr.limit):=hcell 8 (by decide);have r9:wa.cell? ⟨b1,off+i*15+9,none⟩=some (.int .i64 d.cr.flowLimit):=hcell 9 (by decide);have r10:wa.cell? ⟨b1,off+i*15+10,none⟩=some (.int .u64 d.cr.horizon):=hcell 10 (by decide)
     have r11:wa.cell? ⟨b1,off+i*15+11,none⟩=some (.int .u64 d.cr.maxRate):=hcell 11 (by decide);have r12:wa.cell? ⟨b1,off+i*15+12,none⟩=some (.bool d.cr.drop):=hcell 12 (by decide);have r13:wa.cell? ⟨b1,off+i*15+13,none⟩=some (.int .i64 d.cr.cap):=hcell 13 (by decide);have r14:wa.cell? ⟨b1,off+i*15+14,none⟩=some (.int .i64 d.cr.mss):=hcell 14 (by decide);have hdok:=HDS.out d (List.mem_of_getElem? hd);have hi3:i<n:=HIN.out;have hn:=hn90;have CD:=zH (do_at b m i HO.out (by omega) d hdok (.slice av d.sks.length kv) g' 1 (by decide) wa HCa.out.tidy hri.1 HMa.out);have HO5:=zH (doF_ok HO.out (by omega) hdok);have HBD:=zH (fun s (hs:s<8) k' (hk':(doF m d).2.1.sk s=some k')=>doF_bd HO.out (by omega) hdok hs hk');have HMO:=zH (doF_mo HO.out (by omega) hdok HI.out.2);unfold moF at HMO;have HCC:=zH (doF_c m hdok.mr);have HSK:=zH (fun h1 h2=>doF_open m (d:=d) h1 h2);unfold ddv at CD;obtain⟨m5,em5⟩: ∃ z,(doF m d).2.1=z:=⟨_,rfl⟩;obtain⟨o5,eo5⟩: ∃ z,(doF m d).2.2=z:=⟨_,rfl⟩;obtain⟨x5,ex5⟩: ∃ z,(doF m d).1=z:=⟨_,rfl⟩;rw[em5,eo5,ex5]at CD;rw[em5]at HO5 HBD;rw[em5,ex5]at HMO HCC;rw[ex5]at HSK;have HCE:=zH (And.intro hcell (And.intro hb gb1));clear hri hd hcell hb gb1 hdok em5 eo5 ex5 hB gW HB HC HM HR HL HNW hj hi3 hn;go_upto_region 16 with fail
     refine wp_region_lit ?_;iterate 5 (refine wpList_plain rfl fun K hK=> ?_;go_simp;refine hK _ _ ?_;clear hK K)
     refine wpList_plain rfl fun K hK=> ?_
     go_simp;refine CD.out.mono ?_;rintro e w5 ⟨vo,g5,rfl,C5,M5,O5⟩;refine hK _ _ ?_;clear hK K;have HC5:=zH (HCa.out.trans (C5.mono (lo':=1) (hi':=90) (Nat.le_refl _) (by omega)));have HM5:=zH M5;have HR5:=zH (HRa.out.chg C5 (by decide));have HL5:=zH (HLa.out.chg C5 (.inr (by decide)));have HN5:=zH (HNa.out.chg C5 (.inr (by decide)));have HX5:=zH (HX.out.chg C5 (.inl (by rw[HGW.out];decide)));have G5:Hid (g5 nW=0):=zH ((C5.old nW HX.out.lt).trans HGW.out);have hcell5: ∀ q,q<15→w5.cell? ⟨b1,off+i*15+q,none⟩=(ddc d (.slice av d.sks.length kv))[q]? :=fun q hq=>(World.cell?_of_block (C5.kept b1 HCE.out.2.1 (.inl (by rw[HCE.out.2.2];decide)))).trans (HCE.out.1 q hq)
     have hb5:b1<w5.heap.size:=Nat.lt_of_lt_of_le HCE.out.2.1 C5.size;have gb5:g5 b1=0:=(C5.old b1 HCE.out.2.1).trans HCE.out.2.2;obtain⟨ad,cd,ax,cx,af,cf,evo,_⟩:=O5.rd.ex;subst evo;clear r0 r1 r2 r3 r4 r5 r6 r7 r8 r9 r10 r11 r12 r13 r14;clear C5 M5 O5 HCa HMa HRa HLa HNa HX HGW CD HCE;iterate 6 (refine wpList_plain rfl fun K hK=> ?_;go_simp;refine hK _ _ ?_;clear hK K)
     refine wpList_nil ?_;obtain⟨N5,e5⟩: ∃ z,w5.heap.size=z:=⟨_,rfl⟩;rw[e5];refine q_named (fun W=>Hid (Chg w5 W g5 g5 1 1)) (zH ((Chg.refl HC5.out.tidy 1 1).alloc _)) (fun W8 K8=> ?_);have hcell: ∀ q,q<15→W8.cell? ⟨b1,off+i*15+q,none⟩=(ddc d (.slice av d.sks.length kv))[q]? :=fun q hq=>(World.cell?_of_block (K8.out.kept b1 hb5 (.inl (by rw[gb5];decide)))).trans (hcell5 q hq)
     have r0:W8.cell? ⟨b1,off+i*15,none⟩=some (.int .i64 d.kind):=hcell 0 (by decide);have r1:W8.cell? ⟨b1,off+i*15+1,none⟩=some (.int .i64 d.sock):=hcell 1 (by decide);have r2:W8.cell? ⟨b1,off+i*15+2,none⟩=some (.int .i64 d.len):=hcell 2 (by decide);have r3:W8.cell? ⟨b1,off+i*15+3,none⟩=some (.int .u64 d.upto):=hcell 3 (by decide);have r4:W8.cell? ⟨b1,off+i*15+4,none⟩=some (.int .u64 d.at_):=hcell 4 (by decide);have r5:W8.cell? ⟨b1,off+i*15+5,none⟩=some (.slice av d.sks.length kv):=hcell 5 (by decide);have r6:W8.cell? ⟨b1,off+i*15+6,none⟩=some (.int .i64 d.cr.quantum):=hcell 6 (by decide);have r7:W8.cell? ⟨b1,off+i*15+7,none⟩=some (.int .i64 d.cr.first):=hcell 7 (by decide);have r8:W8.cell? ⟨b1,off+i*15+8,none⟩=some (.int .i64 d.cr.limit):=hcell 8 (by decide);have r9:W8.cell? ⟨b1,off+i*15+9,none⟩=some (.int .i64 d.cr.flowLimit):=hcell 9 (by decide);have r10:W8.cell? ⟨b1,off+i*15+10,none⟩=some (.int .u64 d.cr.horizon):=hcell 10 (by decide);have r11:W8.cell? ⟨b1,off+i*15+11,none⟩=some (.int .u64 d.cr.maxRate):=hcell 11 (by decide);have r12:W8.cell? ⟨b1,off+i*15+12,none⟩=some (.bool d.cr.drop):=hcell 12 (by decide);have r13:W8.cell? ⟨b1,off+i*15+13,none⟩=some (.int .i64 d.cr.cap):=hcell 13 (by decide);have r14:W8.cell? ⟨b1,off+i*15+14,none⟩=some (.int .i64 d.cr.mss):=hcell 14 (by decide)
     have HC8:=zH (HC5.out.trans (K8.out.mono (hi':=90) (Nat.le_refl _) (by omega)));have HM8:=zH (HM5.out.chg K8.out (.inr (Nat.le_refl _)));have HR8:=zH (HR5.out.chg K8.out (by decide));have HL8:=zH (HL5.out.chg K8.out (.inr (by decide)));have HN8:=zH (HN5.out.chg K8.out (.inr (by decide)));have HX8:=zH (HX5.out.chg K8.out (.inl (by rw[G5.out];decide)));have HCE:Hid ((∀ q,q<15→W8.cell? ⟨b1,off+i*15+q,none⟩=(ddc d (.slice av d.sks.length kv))[q]?)∧b1<W8.heap.size∧g5 b1=0):=zH ⟨hcell,Nat.lt_of_lt_of_le hb5 K8.out.size,gb5⟩;clear HC5 HM5 HR5 HL5 HN5 HX5 hcell hcell5 hb5 gb5 e5 K8;go_upto_region 17 with fail
     go_cut [76] (fun v76 wx=>v76= .bool (decide (x5=0)&&decide (d.kind=8))∧wx=W8)
     case first=>
      by_cases hx:x5=0
      ·have e1:decide (x5=0)=true:=decide_eq_true hx
       have e2:((x5:Int)==0)=true:=by rw[hx];rfl
       have e3:decide ((x5:Int)=0)=true:=decide_eq_true (by omega);by_cases hk:d.kind=8
       ·have g1:decide (d.kind=8)=true:=decide_eq_true hk
        have g2:(d.kind==8)=true:=by rw[hk];rfl
        clear hx hk;go_wp2_with fail
        go_meet
        exact⟨by simp[e1,g1],rfl⟩
       ·have g1:decide (d.kind=8)=false:=decide_eq_false hk
        have g2:(d.kind==8)=false:=beq_eq_false_iff_ne.2 hk;clear hx hk;go_wp2_with fail
        go_meet
        exact⟨by simp[e1,g1],rfl⟩
      ·have e1:decide (x5=0)=false:=decide_eq_false hx
       have e2:((x5:Int)==0)=false:=beq_eq_false_iff_ne.2 (by omega);have e3:decide ((x5:Int)=0)=false:=decide_eq_false (by omega);clear hx;go_wp2_with fail
       go_meet
       exact⟨by simp[e1],rfl⟩
     obtain⟨rfl,rfl⟩:=hcut;obtain⟨V8,rfl⟩: ∃ z,z=wc:=⟨_,rfl⟩;obtain⟨p8,ep8⟩: ∃ z,(decide (x5=0)&&decide (d.kind=8))=z:=⟨_,rfl⟩;rw[ep8];have HP8:=zH ep8;clear ep8;go_upto_if 76 with fail
     go_cut [] (fun wx=> ∃ cc':CR,cc'.cap=(m5.c.cap:Nat)∧Hid (Of wx g5 86 nN 24 (crc cc'))∧Hid (Chg V8 wx g5 g5 86 87))
     case first=>
      cases p8
      ·have hcc:cc.cap=(m5.c.cap:Nat):=by
        have hp:=HP8.out;rw[(HCC.out.2 (fun h=>by rw[decide_eq_true h.1,decide_eq_true h.2]at hp;cases hp))];exact HI.out.1
       have HCP:=zH hcc;clear hcc;go_wp2_with fail
       go_meet
       exact⟨cc,HCP.out,HN8,zH (Chg.refl HC8.out.tidy _ _)⟩
      ·have hcc:d.cr.cap=(m5.c.cap:Nat):=by
        have hp:=HP8.out;rw[Bool.and_eq_true,decide_eq_true_eq,decide_eq_true_eq]at hp;exact HCC.out.1 hp
       have HCP:=zH hcc;clear hcc;go_upto_region 18 with fail
       refine wp_region_lit ?_;iterate 5 (refine wpList_plain rfl fun K hK=> ?_;go_simp;refine hK _ _ ?_;clear hK K)
       refine wpList_store_row _ rfl 24 (.tmp 8) (.tmp 81) rfl nN _ #[.int .i64 d.cr.quantum, .int .i64 d.cr.first, .int .i64 d.cr.limit, .int .i64 d.cr.flowLimit, .int .u64 d.cr.horizon, .int .u64 d.cr.maxRate, .bool d.cr.drop, .int .i64 d.cr.cap, .int .i64 d.cr.mss] HN8.out.1 rfl rfl (by kernel_rfl) rfl (by simp[Value.oneCell']) (fun W2 P2=> ?_);refine wpList_nil ?_;have HP2:=zH P2;clear P2;go_wp2_with fail
       go_meet
       exact⟨d.cr,HCP.out,zH ⟨HP2.out.1,HN8.out.2⟩,zH ((Chg.refl HC8.out.tidy _ _).put HP2.out (fun _=>by rw[HN8.out.2];exact⟨by decide,by decide⟩))⟩
     obtain⟨cc',hcc,HN9,K9⟩:=hcut;obtain⟨V9,rfl⟩: ∃ z,z=wc:=⟨_,rfl⟩;have HCP:=zH hcc;have HC9:=zH (HC8.out.trans (K9.out.mono (lo':=1) (hi':=90) (by omega) (by omega)));have HM9:=zH (HM8.out.chg K9.out (.inl (by decide)));have HR9:=zH (HR8.out.chg K9.out (by decide));have HL9:=zH (HL8.out.chg K9.out (.inl (by decide)));have HX9:=zH (HX8.out.chg K9.out (.inl (by rw[G5.out];decide)));have hcell: ∀ q,q<15→V9.cell? ⟨b1,off+i*15+q,none⟩=(ddc d (.slice av d.sks.length kv))[q]? :=fun q hq=>(World.cell?_of_block (K9.out.kept b1 HCE.out.2.1 (.inl (by rw[HCE.out.2.2];decide)))).trans (HCE.out.1 q hq)
     clear r0 r1 r2 r3 r4 r5 r6 r7 r8 r9 r10 r11 r12 r13 r14;have r0:V9.cell? ⟨b1,off+i*15,none⟩=some (.int .i64 d.kind):=hcell 0 (by decide);have r1:V9.cell? ⟨b1,off+i*15+1,none⟩=some (.int .i64 d.sock):=hcell 1 (by decide);have r2:V9.cell? ⟨b1,off+i*15+2,none⟩=some (.int .i64 d.len):=hcell 2 (by decide);have r3:V9.cell? ⟨b1,off+i*15+3,none⟩=some (.int .u64 d.upto):=hcell 3 (by decide);have r4:V9.cell? ⟨b1,off+i*15+4,none⟩=some (.int .u64 d.at_):=hcell 4 (by decide);have r5:V9.cell? ⟨b1,off+i*15+5,none⟩=some (.slice av d.sks.length kv):=hcell 5 (by decide);have r6:V9.cell? ⟨b1,off+i*15+6,none⟩=some (.int .i64 d.cr.quantum):=hcell 6 (by decide);have r7:V9.cell? ⟨b1,off+i*15+7,none⟩=some (.int .i64 d.cr.first):=hcell 7 (by decide);have r8:V9.cell? ⟨b1,off+i*15+8,none⟩=some (.int .i64 d.cr.limit):=hcell 8 (by decide);have r9:V9.cell? ⟨b1,off+i*15+9,none⟩=some (.int .i64 d.cr.flowLimit):=hcell 9 (by decide);have r10:V9.cell? ⟨b1,off+i*15+10,none⟩=some (.int .u64 d.cr.horizon):=hcell 10 (by decide);have r11:V9.cell? ⟨b1,off+i*15+11,none⟩=some (.int .u64 d.cr.maxRate):=hcell 11 (by decide);have r12:V9.cell? ⟨b1,off+i*15+12,none⟩=some (.bool d.cr.drop):=hcell 12 (by decide);have r13:V9.cell? ⟨b1,off+i*15+13,none⟩=some (.int .i64 d.cr.cap):=hcell 13 (by decide);have r14:V9.cell? ⟨b1,off+i*15+14,none⟩=some (.int .i64 d.cr.mss):=hcell 14 (by decide)
     clear hcell hcc HC8 HM8 HR8 HL8 HX8 HN8 HCE K9;go_upto_region 19 with fail
     go_cut [91] (fun v91 wx=>v91= .bool (decide (x5=0)&&decide (d.kind=1))∧wx=V9)
     case first=>
      by_cases hx:x5=0
      ·have e1:decide (x5=0)=true:=decide_eq_true hx
       have e2:((x5:Int)==0)=true:=by rw[hx];rfl
       have e3:decide ((x5:Int)=0)=true:=decide_eq_true (by omega);by_cases hk:d.kind=1
       ·have g1:decide (d.kind=1)=true:=decide_eq_true hk
        have g2:(d.kind==1)=true:=by rw[hk];rfl
        clear hx hk;go_wp2_with fail
        go_meet
        exact⟨by simp[e1,g1],rfl⟩
       ·have g1:decide (d.kind=1)=false:=decide_eq_false hk
        have g2:(d.kind==1)=false:=beq_eq_false_iff_ne.2 hk;clear hx hk;go_wp2_with fail
        go_meet
        exact⟨by simp[e1,g1],rfl⟩
      ·have e1:decide (x5=0)=false:=decide_eq_false hx
       have e2:((x5:Int)==0)=false:=beq_eq_false_iff_ne.2 (by omega);have e3:decide ((x5:Int)=0)=false:=decide_eq_false (by omega);clear hx;go_wp2_with fail
       go_meet
       exact⟨by simp[e1],rfl⟩
     obtain⟨rfl,rfl⟩:=hcut;obtain⟨V10,rfl⟩: ∃ z,z=wc:=⟨_,rfl⟩;obtain⟨p1,ep1⟩: ∃ z,(decide (x5=0)&&decide (d.kind=1))=z:=⟨_,rfl⟩;rw[ep1];have HP1:=zH ep1;clear ep1;go_upto_if 91 with fail
     go_cut [] (fun wx=>Hid (∃ mo',MoI m5 mo'∧Of wx g5 85 nM 70 (mostC mo'))∧Hid (Chg V10 wx g5 g5 85 86))
     case first=>
      cases p1
      ·have hmo:MoI m5 mo:=by
        have hp:=HP1.out;have h:=HMO.out;rwa [if_neg (fun h=>by rw[decide_eq_true h.1,decide_eq_true h.2]at hp;cases hp)]at h
       have HMP:=zH hmo;clear hmo;go_wp2_with fail
       go_meet
       exact⟨zH ⟨mo,HMP.out,HL9.out⟩,zH (Chg.refl HC9.out.tidy _ _)⟩
      ·have hp:=HP1.out
       rw[Bool.and_eq_true,decide_eq_true_eq,decide_eq_true_eq]at hp;obtain⟨s,hs,hs8⟩:=HSK.out hp.1 hp.2;have hmo:MoI m5 (putF mo s m.c.cap):=by
        have h:=HMO.out;rwa [if_pos hp,hs,Int.toNat_natCast]at h
       have hcap:cc'.cap=(m.c.cap:Nat):=by
        rw[HCP.out,HCC.out.2 (fun h=>by omega)]
       have s7:V10.cell? ⟨nN,7,none⟩=some (.int .i64 (m.c.cap:Nat)):=by rw[←hcap];exact HN9.out.1.cell 7
       have m7:=(HL9.out.1.cell s).trans (mostC_get mo hs8);have mf:=HL9.out.1.free s;have r1':V10.cell? ⟨b1,off+i*15+1,none⟩=some (.int .i64 (s:Nat)):=by rw[←hs];exact r1
       have HMP:=zH hmo;have HS8:=zH hs8;have s0:(0:Int)≤s:=by omega
       have s8:(s:Int)<8:=by omega
       clear hp hmo hcap r1 hs;go_upto_region 20 with fail
       refine wp_region_still_tail 8 (by kernel_rfl) (by kernel_rfl) ?_;go_simp;iterate 8 still_step
       try refine wpStill_nil ?_
       change wpList _ _ _ _ _ V10.drew
       go_wp2_with fail
       go_meet
       exact⟨zH ⟨_,HMP.out,by rw[←mostC_set mo m.c.cap HS8.out];exact HL9.out.1.drew.set s,HL9.out.2⟩,zH (((Chg.refl HC9.out.tidy 85 86).drew).set (fun _=>by rw[HL9.out.2];exact⟨by decide,by decide⟩) _)⟩
     obtain⟨HMW,K11⟩:=hcut;obtain⟨V11,rfl⟩: ∃ z,z=wc:=⟨_,rfl⟩;obtain⟨mo',hmo',HL11⟩:=HMW.out;have HMO':=zH hmo';have HC11:=zH (HC9.out.trans (K11.out.mono (lo':=1) (hi':=90) (by omega) (by omega)));have HM11:=zH (HM9.out.chg K11.out (.inl (by decide)));have HR11:=zH (HR9.out.chg K11.out (by decide));have HN11:=zH (HN9.out.chg K11.out (.inr (by decide)));have HX11:=zH (HX9.out.chg K11.out (.inl (by rw[G5.out];decide)));have HL11:=zH HL11;clear r0 r1 r2 r3 r4 r5 r6 r7 r8 r9 r10 r11 r12 r13 r14;clear hmo' HMW HC9 HM9 HR9 HL9 HN9 HX9 K11 HMO HCC HSK HP8 HP1;go_upto_region 21 with fail
     go_wp2_with fail
     go_loopw [14] (fun v14 wk=> ∃(k:Nat),v14= .int .i64 k∧k≤8∧Hid (Below V11.heap.size V11 wk)) (fun v14 _=>match v14 with | .int _ y=>8-y.toNat | _=>0)
     case atStart=>exact⟨0,rfl,by decide,zH (Below.refl _ _)⟩
     case round=>
      obtain⟨k,rfl,hk,HB⟩:=hrel;obtain⟨V12,rfl⟩: ∃ z,z=wr:=⟨_,rfl⟩;by_cases hk8:k=8
      ·subst hk8
       have hiw:=HIW.out;go_wp2_with fail
       go_roundw
       case rel=>exact⟨i+1,g5,m5,mo',cc',by simp,HIN.out,zH (HC11.out.below HB.out),zH (HM11.out.below HB.out),HO5,zH (HR11.out.below HB.out),zH (HL11.out.below HB.out),zH (HN11.out.below HB.out),zH ⟨HCP.out,HMO'.out⟩⟩
       case measure=>have:=HLT.out;simp;omega
      ·have hk1:decide ((k:Int)<8)=true:=decide_eq_true (by omega)
       have hk2:decide (k<8)=true:=decide_eq_true (by omega);have hk7:k<8:=by omega
       have hkw:wrap64 ((k:Int)+1)=((k+1:Nat):Int):=by unfold wrap64;omega
       have HKB:Hid (k<8):=zH hk7;have HKW:=zH hkw;have HKL:Hid (8-(k+1)<8-k∧k+1≤8):=zH (by omega);have CS:=zH (state_at HO5.out HKB.out (by decide) (HC11.out.below HB.out).tidy (HM11.out.below HB.out));obtain⟨n2,n3,est⟩:=sto_four (m5.sk k);rw[est]at CS;have HES:=zH est;clear hk8 hkw est hk;go_upto_region 24 with fail
       refine wp_region_lit ?_;iterate 2 (refine wpList_plain rfl fun K hK=> ?_;go_simp;refine hK _ _ ?_;clear hK K)
       refine wpList_plain rfl fun K hK=> ?_
       go_simp;refine CS.out.mono ?_;rintro e V13 ⟨rfl,hB13⟩;refine hK _ _ ?_;clear hK K;have HB13:=zH (HB.out.trans (hB13.mono HB.out.size));clear hB13 CS HB;iterate 3 (refine wpList_plain rfl fun K hK=> ?_;go_simp;refine hK _ _ ?_;clear hK K)
       obtain⟨N13,e13⟩: ∃ z,V13.heap.size=z:=⟨_,rfl⟩;refine wpList_plain rfl fun K hK=> ?_
       go_simp;refine hK _ _ ?_;clear hK K;refine wpList_store_new _ rfl 66 (.tmp 15) (.tmp 108) rfl _ #[.int .u64 (wasO (m5.sk k):Nat), .int .u64 (wasF (m5.sk k):Nat), .int .u64 (n2:Nat), .int .i64 (n3:Nat)] N13 e13 rfl rfl (by kernel_rfl) rfl (by simp[Value.oneCell']) ?_;refine wpList_plain rfl fun K hK=> ?_
       go_simp;refine hK _ _ ?_;clear hK K;refine wpList_nil ?_;refine q_named (fun W=>At W N13 66 #[.int .u64 (wasO (m5.sk k):Nat), .int .u64 (wasF (m5.sk k):Nat), .int .u64 (n2:Nat), .int .i64 (n3:Nat)]∧Hid (Below V13.heap.size V13 W)) ⟨by rw[←e13];exact At.made V13 _ _,zH ((Below.refl _ V13).alloc (Nat.le_refl _) _)⟩ (fun V14 hW=> ?_);obtain⟨A14,HB14⟩:=hW;have HB14:=zH (HB13.out.trans (HB14.out.mono HB13.out.size));have HA14:=zH A14;have CMD:=zH (model_at HO5.out HKB.out (by decide) (HC11.out.below HB14.out).tidy (HM11.out.below HB14.out));obtain⟨p0,p1,p2,p3,p4,p5,p6,p7,p8',p9,emd⟩:=mdo_ten (m5.sk k);rw[emd]at CMD;have HMD:=zH emd;clear A14 HB13 e13 emd;go_upto_region 25 with fail
       refine wp_region_lit ?_;iterate 2 (refine wpList_plain rfl fun K hK=> ?_;go_simp;refine hK _ _ ?_;clear hK K)
       refine wpList_plain rfl fun K hK=> ?_
       go_simp;refine CMD.out.mono ?_;rintro e V15 ⟨rfl,hB15⟩;refine hK _ _ ?_;clear hK K;have HA15:=zH (HA14.out.below hB15 HA14.out.lt);have HB15:=zH (HB14.out.trans (hB15.mono HB14.out.size));clear hB15 CMD HB14 HA14;iterate 3 (refine wpList_plain rfl fun K hK=> ?_;go_simp;refine hK _ _ ?_;clear hK K)
       obtain⟨N15,e15⟩: ∃ z,V15.heap.size=z:=⟨_,rfl⟩;refine wpList_plain rfl fun K hK=> ?_
       go_simp;refine hK _ _ ?_;clear hK K;refine wpList_store_new _ rfl 35 (.tmp 17) (.tmp 114) rfl _ #[.int .i64 (p0:Nat), .int .i64 (p1:Nat), .int .u64 (p2:Nat), .int .u64 (p3:Nat), .int .u64 (p4:Nat), .int .u64 (p5:Nat), .int .u64 (p6:Nat), .int .u64 (p7:Nat), .bool p8', .bool p9] N15 e15 rfl rfl (by kernel_rfl) rfl (by simp[Value.oneCell']) ?_;refine wpList_plain rfl fun K hK=> ?_
       go_simp;refine hK _ _ ?_;clear hK K;refine wpList_nil ?_;refine q_named (fun W=>At W N15 35 #[.int .i64 (p0:Nat), .int .i64 (p1:Nat), .int .u64 (p2:Nat), .int .u64 (p3:Nat), .int .u64 (p4:Nat), .int .u64 (p5:Nat), .int .u64 (p6:Nat), .int .u64 (p7:Nat), .bool p8', .bool p9]∧At W N13 66 #[.int .u64 (wasO (m5.sk k):Nat), .int .u64 (wasF (m5.sk k):Nat), .int .u64 (n2:Nat), .int .i64 (n3:Nat)]∧Hid (Below V15.heap.size V15 W)) ⟨by rw[←e15];exact At.made V15 _ _,HA15.out.below ((Below.refl _ V15).alloc (Nat.le_refl _) _) HA15.out.lt,zH ((Below.refl _ V15).alloc (Nat.le_refl _) _)⟩ (fun V16 hW=> ?_);obtain⟨A15,A14,HB16⟩:=hW;have HB16:=zH (HB15.out.trans (HB16.out.mono HB15.out.size));have HA15:=zH A15;have HA14:=zH A14;clear A14 A15 HB15 e15;cases hsk:m5.sk k with
       | none=>
        have hkw:=HKW.out;rw[hsk]at*;simp only[Option.isSome_none];clear hsk;go_wp2_with fail
        go_roundw
        case rel=>exact⟨k+1,rfl,HKL.out.2,HB16⟩
        case measure=>exact HKL.out.1
       | some kk=>
        simp only[Option.isSome_some];have e1:=HES.out;have e2:=HMD.out;rw[hsk]at e1 e2;simp only[sto,mdo,mdv,Value.agg.injEq,Array.mk.injEq,List.cons.injEq,Value.int.injEq,Value.bool.injEq,true_and,and_true]at e1 e2;obtain⟨-, -, -,t3⟩:=e1;obtain⟨-, -,t4,t5, -⟩:=e2;have hkk:=(HO5.out.ok.sk k kk HKB.out hsk).1;have hmo:=HMO'.out k kk HKB.out hsk;have hbd:=HBD.out k HKB.out kk hsk;obtain⟨hw0,hw1⟩:=HWC.out.2 k HKB.out;have H11:=HX11.out.below HB16.out HX11.out.lt;have L11:=HL11.out.1.below HB16.out HL11.out.1.lt;have w0:=(H11.cell (k*4)).trans hw0;have w1:=(H11.cell (k*4+1)).trans hw1;have mk:=(L11.cell k).trans (mostC_get mo' HKB.out);rw[←hmo]at mk;have a0:V16.cell? ⟨N13,0,none⟩=some (.int .u64 (kk.out:Nat)):=by have h:=HA14.out.cell 0;rw[hsk]at h;exact h
        have a1:V16.cell? ⟨N13,1,none⟩=some (.int .u64 (kk.fl:Nat)):=by have h:=HA14.out.cell 1;rw[hsk]at h;exact h
        have a3:V16.cell? ⟨N13,3,none⟩=some (.int .i64 (kk.tso:Nat)):=by rw[t3];exact HA14.out.cell 3
        have c2:V16.cell? ⟨N15,2,none⟩=some (.int .u64 (kk.bb.rate:Nat)):=by rw[t4];exact HA15.out.cell 2
        have c3:V16.cell? ⟨N15,3,none⟩=some (.int .u64 (kk.bb.cwnd:Nat)):=by rw[t5];exact HA15.out.cell 3
        have CL:=zH (fun w'=>lim_ref kk.bb.rate kk.tso kk.most hkk.bb.rate (tsoF_le _ _ hkk.m1 hkk.m2) hkk.c2 w');have CA:=zH (fun w'=>radd_any kk.bb.cwnd 65536 hkk.bb.cwnd (by decide) w');have hlm:=tlimF_le kk.bb.rate kk.tso kk.most (tsoF_le _ _ hkk.m1 hkk.m2) hkk.c2;have hl2:kk.lim=tlimF kk.bb.rate kk.tso kk.most:=rfl;rw[hl2]at hbd;obtain⟨lm,elm⟩: ∃ z,tlimF kk.bb.rate kk.tso kk.most=z:=⟨_,rfl⟩;rw[elm]at hbd hlm CL;obtain⟨rt,ert⟩: ∃ z,kk.bb.rate=z:=⟨_,rfl⟩;rw[ert]at c2 CL;obtain⟨cw,ecw⟩: ∃ z,kk.bb.cwnd=z:=⟨_,rfl⟩;rw[ecw]at c3 CA hbd;obtain⟨ts,ets⟩: ∃ z,kk.tso=z:=⟨_,rfl⟩;rw[ets]at a3 CL;obtain⟨ms,ems⟩: ∃ z,kk.most=z:=⟨_,rfl⟩;rw[ems]at mk CL;obtain⟨ot,eot⟩: ∃ z,kk.out=z:=⟨_,rfl⟩;rw[eot]at a0 hbd;obtain⟨fl,efl⟩: ∃ z,kk.fl=z:=⟨_,rfl⟩;rw[efl]at a1 hbd;obtain⟨wo1,ewo⟩: ∃ z,wasO (m.sk k)=z:=⟨_,rfl⟩;rw[ewo]at w0 hbd;obtain⟨wf1,ewf⟩: ∃ z,wasF (m.sk k)=z:=⟨_,rfl⟩;rw[ewf]at w1 hbd;obtain⟨sa,esa⟩: ∃ z,satAdd cw 65536=z:=⟨_,rfl⟩;rw[esa]at CA hbd;obtain⟨l1,el1⟩: ∃ z,lm+65536=z:=⟨_,rfl⟩;rw[el1]at hbd;have wl:IntKind.u64.wrap ((lm:Int)+65536)=(l1:Nat):=by rw[IntKind.wrap_u64];omega
        obtain⟨x1,ex1⟩: ∃ z,max wo1 l1=z:=⟨_,rfl⟩;obtain⟨x2,ex2⟩: ∃ z,max wf1 sa=z:=⟨_,rfl⟩;rw[ex1,ex2]at hbd;have m1:(if(wo1:Int)<l1 then(l1:Int)else wo1)=x1:=by split<;>omega
        have m2:(if(wf1:Int)<sa then(sa:Int)else wf1)=x2:=by split<;>omega
        have d1:decide ((x1:Int)<ot)=false:=decide_eq_false (by omega);have d2:decide (x1<ot)=false:=decide_eq_false (by omega);have d3:decide ((x2:Int)<fl)=false:=decide_eq_false (by omega);have d4:decide (x2<fl)=false:=decide_eq_false (by omega);have m3:max (wo1:Int) l1=x1:=by omega
        have m4:max (wf1:Int) sa=x2:=by omega
        have n1:(ot:Int)≤x1:=by omega
        have n2':(fl:Int)≤x2:=by omega
        have hk0:(0:Int)≤k:=by omega
        have hk9:(k:Int)<8:=by have:=HKB.out;omega
        have hkw:=HKW.out;clear t3 t4 t5 hkk hmo hbd hw0 hw1 H11 L11 hlm hl2 elm ert ecw ets ems eot efl ewo ewf esa el1 ex1 ex2 HES HMD HA14 HA15 hsk;go_upto_region 27 with fail
        go_quiet ((go_at_call 23;exact still (CL.out _)))
        go_upto_region 28 with fail
        refine wp_named (fun W=>(W.cell? ⟨N13,0,none⟩=some (.int .u64 (ot:Nat))∧W.cell? ⟨N13,1,none⟩=some (.int .u64 (fl:Nat))∧W.cell? ⟨N15,3,none⟩=some (.int .u64 (cw:Nat))∧W.cell? ⟨nW,k*4,none⟩=some (.int .u64 (wo1:Nat))∧W.cell? ⟨nW,k*4+1,none⟩=some (.int .u64 (wf1:Nat)))∧Hid (Below V11.heap.size V11 W)) ⟨⟨a0,a1,c3,w0,w1⟩,zH (by obtain⟨k1,k2,k3,k4,k5⟩:=HB16.out;exact⟨k1,k2,k3,k4,k5⟩)⟩ (fun V17 hW=> ?_);clear a0 a1 a3 c2 c3 w0 w1 mk HB16;obtain⟨⟨a0,a1,c3,w0,w1⟩,HB16⟩:=hW;refine wp_region_still_tail 22 (by kernel_rfl) (by kernel_rfl) ?_;go_simp;iterate 19 still_step
        still_call (still0 (CA.out _))
        iterate 2 still_step
        try refine wpStill_nil ?_
        change wpList _ _ _ _ _ (World.drew _)
        go_wp2_with fail
        go_roundw
        case rel=>exact⟨k+1,by rw[HKW.out],HKL.out.2,zH (by obtain⟨k1,k2,k3,k4,k5⟩:=HB16.out;exact⟨k1,k2,k3,k4,k5⟩)⟩
        case measure=>rw[HKW.out];exact HKL.out.1
    ·have hk1:decide ((j:Int)<8)=true:=decide_eq_true (by omega)
     have hk2:decide (j<8)=true:=decide_eq_true (by omega);have hkw:wrap64 ((j:Int)+1)=((j+1:Nat):Int):=by unfold wrap64;omega
     have HKL:Hid (8-(j+1)<8-j∧j+1≤8):=zH (by omega);have hj7:j<8:=by omega
     have HKB:Hid (j<8):=zH hj7;have HKW:=zH hkw;have hj0:(0:Int)≤j:=by omega
     have hj9:(j:Int)<8:=by omega
     obtain⟨n2,n3,est⟩:=sto_four (m.sk j);have CF:=zH (fun w' hB=>state_at HO.out HKB.out (by decide) (HC.out.below (w'':=w') hB).tidy (HM.out.below hB));rw[est]at CF;clear hj8 hkw est hj;go_upto_region 15 with fail
     refine wp_region_lit ?_;iterate 3 (refine wpList_plain rfl fun K hK=> ?_;go_simp;refine hK _ _ ?_;clear hK K)
     refine wpList_plain rfl fun K hK=> ?_
     go_simp;refine(CF.out _ (HEW.out▸HB.out)).mono ?_;rintro e wb ⟨rfl,hBb⟩;refine hK _ _ ?_;clear hK K;have HBb:=zH (HB.out.trans (hBb.mono (by have:=HB.out.size;have:=HEW.out;omega)));have XB:=HX.out.below hBb HX.out.lt;obtain⟨hsz,_⟩:=HWC.out;obtain⟨o0,h0⟩: ∃ v,xs[j*4]? =some v:=⟨_,Array.getElem?_eq_getElem (by omega)⟩;obtain⟨o1,h1⟩: ∃ v,xs[j*4+1]? =some v:=⟨_,Array.getElem?_eq_getElem (by omega)⟩;obtain⟨o2,h2⟩: ∃ v,xs[j*4+2]? =some v:=⟨_,Array.getElem?_eq_getElem (by omega)⟩;obtain⟨o3,h3⟩: ∃ v,xs[j*4+3]? =some v:=⟨_,Array.getElem?_eq_getElem (by omega)⟩;have z0:=(XB.cell (j*4)).trans h0;have z1:=(XB.cell (j*4+1)).trans h1;have z2:=(XB.cell (j*4+2)).trans h2;have z3:=(XB.cell (j*4+3)).trans h3;have f0:=XB.free (j*4);have f1:=XB.free (j*4+1);have f2:=XB.free (j*4+2);have f3:=XB.free (j*4+3);have HXB:=zH XB;have HB2:Hid (nW≤wb.heap.size):=zH (by have:=XB.lt;omega);clear h0 h1 h2 h3 hsz XB hBb CF HX HB;iterate 5 (refine wpList_plain rfl fun K hK=> ?_;go_simp;refine hK _ _ ?_;clear hK K)
     refine wpList_nil ?_;refine q_named (fun W=>Hid (Below nW wo W)∧Hid (∃ xs',At W nW 71 xs'∧WasC m (j+1) xs')) ⟨zH (HBb.out.grown ((((grown_set _ _ _ _).trans (grown_set _ _ _ _)).trans (grown_set _ _ _ _)).trans (grown_set _ _ _ _)) (by have:=HB2.out;omega) (fun k hk=>by cases hk;exact Nat.le_refl _)),zH ⟨_,(((HXB.out.set _).set _).set _).set _,HWC.out.next HKB.out _ _⟩⟩ (fun Wc hW=> ?_);obtain⟨HBc,HXc⟩:=hW;have hkw:=HKW.out;clear z0 z1 z2 z3 f0 f1 f2 f3 HXB HBb HWC;go_wp2_with fail
     go_roundw
     case rel=>obtain⟨xs',x1,x2⟩:=HXc.out;exact⟨j+1,xs',rfl,HKL.out.2,HBc,zH x1,zH x2⟩
     case measure=>exact HKL.out.1
end
end Go.Proofs.YtojgokiobdpclaaGreat
