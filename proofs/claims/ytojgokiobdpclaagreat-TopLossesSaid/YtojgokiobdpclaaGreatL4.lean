import Derived.Test.YtojgokiobdpclaaGreatL3
import Derived.BigQuiet
namespace Go.Proofs.YtojgokiobdpclaaGreat
set_option linter.unusedVariables false
set_option linter.unusedSimpArgs false
set_option maxRecDepth 8000
set_option maxHeartbeats 8000000
section
open Go.RowKit Go.Lib
theorem infoRange: ∃ i0:TypeInfo,Hid (Tryz.prog.info? 64=some i0∧i0.zero=some (.agg #[.int .u64 0, .int .u64 0])∧i0.size=2∧i0.bytes=16):=by
 obtain⟨i0,h1,h2,h3,h4⟩:=info_parts (show(Tryz.prog.info? 64).map (fun i=>(i.zero,i.size,i.bytes))=some (some (.agg #[.int .u64 0, .int .u64 0]),2,16) by kernel_rfl);exact⟨i0,zH ⟨h1,h2,h3,h4⟩⟩
theorem toplosses_any (xs:List Int) (bs:List Bool) (z:Int) (v0 v1:Value) (w:World) (h0:RdZ w (fun _=>0) v0 1 xs.length (xs.map fun x=> .int .i64 x)) (h1:RdZ w (fun _=>0) v1 1 bs.length (bs.map .bool)):
  Calls Tryz.prog 6 #[v0,v1, .int .i64 z] w fun e w'=>e= .returned (.bool true)∧Below w.heap.size w w':=by
 obtain⟨g0,hg0⟩: ∃ g:Nat→Nat,(fun _=>0)=g:=⟨_,rfl⟩;have hG0: ∀ b,g0 b=0:=fun b=>by rw[←hg0]
 rw[hg0]at h0 h1;have hT0:Tidy w g0:=fun b _=>hG0 b
 have HG:=zH hG0;have HR0:=zH h0;have HB0:=zH h1;obtain⟨rm,er1,er2,er3,er4⟩:=cvtm z;obtain⟨ms,ems⟩: ∃ q,msF' z=q:=⟨_,rfl⟩;have hms:=msF_in z;rw[ems]at er2 hms;have EW:=zH (show IntKind.i64.wrap (500+IntKind.i64.wrap (rm:Int))=(ms:Int) by rw[wrap_i,wrap_i];unfold wrap64;omega);have HC0:=zH ((lsC_ok hms.1 hms.2));have HMS:=zH hms;obtain⟨a0,c0,rfl⟩: ∃ a cc,v0= .slice a xs.length cc:=by
  obtain⟨a,cc,e,_⟩:=h0.1.form;exact⟨a,cc,e⟩
 obtain⟨a1,c1,rfl⟩: ∃ a cc,v1= .slice a bs.length cc:=by
  obtain⟨a,cc,e,_⟩:=h1.1.form;exact⟨a,cc,e⟩
 have CP:=zH (fun w'=>plain_any w');have HK0:=zH (Chg.refl hT0 1 1);clear h0 h1 hG0 hg0 er2 er3 hms hT0 ems;obtain⟨n0,en0⟩: ∃ q,xs.length=q:=⟨_,rfl⟩;obtain⟨n1,en1⟩: ∃ q,bs.length=q:=⟨_,rfl⟩;rw[en0]at HR0 ⊢;rw[en1]at HB0 ⊢;have HN0:=zH en0;have HN1:=zH en1;clear en0 en1;go_enter Tryz.func6,Tryz.ntmps6
 go_upto_region 1 with fail
 refine wp_region_lit ?_;refine wpList_plain rfl fun K hK=> ?_
 go_simp;refine(CP.out _).mono ?_;rintro e w1 ⟨rfl,hB1⟩;refine hK _ _ ?_;clear hK K;have ec:cfv plC= .agg #[.int .i64 3000, .int .i64 15000, .int .i64 100, .int .i64 50, .int .u64 10000000000, .int .u64 0, .bool false, .int .i64 100000, .int .i64 1000]:=rfl;rw[ec];obtain⟨N0,e0⟩: ∃ q,w1.heap.size=q:=⟨_,rfl⟩;refine wpList_plain rfl fun K hK=> ?_
 go_simp;refine hK _ _ ?_;clear hK K;refine wpList_store_new _ rfl 24 (.tmp 7) (.tmp 25) rfl _ #[.int .i64 3000, .int .i64 15000, .int .i64 100, .int .i64 50, .int .u64 10000000000, .int .u64 0, .bool false, .int .i64 100000, .int .i64 1000] N0 e0 rfl rfl (by kernel_rfl) rfl (by simp[Value.oneCell']) ?_;refine wpList_nil ?_;have hK1:=HK0.out.below hB1;refine q_named (fun W=>At W N0 24 #[.int .i64 3000, .int .i64 15000, .int .i64 100, .int .i64 50, .int .u64 10000000000, .int .u64 0, .bool false, .int .i64 100000, .int .i64 1000]∧Hid (Chg w W g0 g0 1 1)∧g0 N0=0) ⟨by rw[←e0];exact At.made w1 _ _,zH (hK1.alloc _),HG.out _⟩ (fun W hW=> ?_);obtain⟨A,HC1,gN0⟩:=hW;have q0:=A.ce 0;have q1:=A.ce 1;have q2:=A.ce 2;have q3:=A.ce 3;have q4:=A.ce 4;have q5:=A.ce 5;have q6:=A.ce 6;have q7:=A.ce 7;have q8:=A.ce 8;have f2:=A.free 2;have f3:=A.free 3;have f8:=A.free 8;have HA:=zH A;have hN0:w.heap.size≤N0:=by have:=hB1.size;omega
 have HN:=zH hN0;clear A hB1 hK1 HK0 e0 CP ec hN0;go_upto_region 3 with fail
 refine wp_region_lit ?_;iterate 7 (refine wpList_plain rfl fun K hK=> ?_;go_simp;refine hK _ _ ?_;clear hK K)
 rw[EW.out];refine wpList_nil ?_;refine q_named (fun W2=>At W2 N0 24 #[.int .i64 3000, .int .i64 15000, .int .i64 512, .int .i64 512, .int .u64 10000000000, .int .u64 0, .bool false, .int .i64 100000, .int .i64 (ms:Nat)]∧Hid (Chg w W2 g0 g0 1 1)) ⟨((HA.out.set 2).set 3).set 8,zH (((HC1.out.set (fun h=>absurd h (by have:=HN.out;omega)) _).set (fun h=>absurd h (by have:=HN.out;omega)) _).set (fun h=>absurd h (by have:=HN.out;omega)) _)⟩ (fun W2 hW=> ?_);clear q0 q1 q2 q3 q4 q5 q6 q7 q8 f2 f3 f8;obtain⟨A,HC2⟩:=hW;have q0:=A.ce 0;have q1:=A.ce 1;have q2:=A.ce 2;have q3:=A.ce 3;have q4:=A.ce 4;have q5:=A.ce 5;have q6:=A.ce 6;have q7:=A.ce 7;have q8:=A.ce 8;have CN:Hid (∀ w',∀ hT':Tidy w' g0,Calls Tryz.prog 9 #[.agg #[.int .i64 3000, .int .i64 15000, .int .i64 512, .int .i64 512, .int .u64 10000000000, .int .u64 0, .bool false, .int .i64 100000, .int .i64 (ms:Nat)]] w' fun e w''=> ∃ b g',e= .returned (.tuple #[.pointer (some ⟨b,0,none⟩), .int .i64 0])∧Chg w' w'' g0 g' 1 80∧McAt w'' g' 1 b (newM (lsC ms))):=zH (fun w' hT'=>new_at (lsC ms) HC0.out g0 1 (by decide) w' hT');clear HA HC1 A er1 er4 EW;go_wp2_with fail
 refine(CN.out _ HC2.out.tidy).mono ?_;rintro e w3 ⟨b,g3,rfl,C3,M3⟩;have HC3:=zH ((HC2.out.mono (lo':=1) (hi':=90) (Nat.le_refl _) (by omega)).trans (C3.mono (hi':=90) (Nat.le_refl _) (by omega)));have HM3:=zH M3;clear q0 q1 q2 q3 q4 q5 q6 q7 q8 C3 M3 HC2 CN;go_wp2_with fail
 refine(awake_any _).mono ?_;rintro e w5 ⟨rfl,hB5⟩;have HC5:=zH (HC3.out.below hB5);have HM5:=zH (HM3.out.below hB5);clear hB5 HC3 HM3;have HOK:=zH (newM_ok HC0.out);have CO:=zH (do_at b (newM (lsC ms)) 0 HOK.out (by decide) (sdD 1 0 0) (sdD_ok (by decide) (by decide) (by decide)) (.slice none 0 0) g3 1 (by decide) w5 HC5.out.tidy ⟨rfl, .inl ⟨⟨_,_,rfl⟩,rfl⟩⟩ HM5.out);obtain⟨m1,em1⟩: ∃ q,(doF (newM (lsC ms)) (sdD 1 0 0)).2.1=q:=⟨_,rfl⟩;rw[em1]at CO;have HEM:=zH em1;unfold ddv sdD cr0 at CO;clear em1;go_wp2_with fail
 refine CO.out.mono ?_;rintro e w6 ⟨vo,g6,rfl,C6,M6,_⟩;have HC6:=zH (HC5.out.trans (C6.mono (hi':=90) (Nat.le_refl _) (by omega)));have HM6:=zH M6;have HR6:=zH (HR0.out.chg HC6.out (by decide));have HB6:=zH (HB0.out.chg HC6.out (by decide));obtain⟨ns,ens⟩: ∃ q,szs xs=q:=⟨_,rfl⟩;have hin:=szs_in xs;have hlen:=szs_len xs;have hat: ∀ i,i<ns.length→ ∃ x,xs[i]? =some x∧ns[i]? =some (szF x):=fun i hi=>by rw[←ens]at hi ⊢;exact szs_at hi
 rw[ens]at hin hlen;rw[HN0.out]at hlen;have HSN:=zH (fun i (hi:i≤ns.length)=>by
  have h:=sndN_ok HMS.out.1 HMS.out.2 hin i (by omega) hi;rw[HEM.out]at h;exact h)
 have HAT:=zH hat;have HIN:=zH hin;have HLEN:=zH hlen;clear C6 M6 HC5 HM5 CO HOK HC0 hin hlen hat ens HEM HMS;go_wp2_with fail
 go_loopw [10,11] (fun v10 v11 wr=> ∃(i:Nat) (g':Nat→Nat),v11= .int .i64 i∧v10= .int .u64 ((ns.take i).sum:Nat)∧i≤ns.length∧Hid (Chg w wr g0 g' 1 90)∧Hid (McAt wr g' 1 b (sndN m1 ns i))∧Hid (RdZ wr g' (.slice a0 n0 c0) 1 n0 (xs.map fun x=> .int .i64 x))∧Hid (RdZ wr g' (.slice a1 n1 c1) 1 n1 (bs.map .bool))) (fun _ v11 _=>match v11 with | .int _ y=>4-y.toNat | _=>0)
 case atStart=>exact⟨0,g6,rfl,rfl,Nat.zero_le _,HC6,HM6,HR6,HB6⟩
 case round=>
  obtain⟨i,g',rfl,rfl,hi,HC,HM,HR,HB⟩:=hrel;obtain⟨wo,rfl⟩: ∃ q,q=wr:=⟨_,rfl⟩;go_upto_region 10 with fail
  have hlen:=HLEN.out;go_cut [59] (fun v59 wx=>v59= .bool (decide (i<ns.length))∧wx=wo)
  case first=>
   by_cases h1:i<n0
   ·have d1:decide ((i:Int)<n0)=true:=decide_eq_true (by omega)
    have d2:decide (i<n0)=true:=decide_eq_true h1;by_cases h2:i<4
    ·have d3:decide ((i:Int)<4)=true:=decide_eq_true (by omega)
     have d4:decide (i<4)=true:=decide_eq_true h2;have D5:Hid (decide (i<ns.length)=true):=zH (decide_eq_true (by omega));clear h1 h2 hlen hi;go_wp2_with fail
     go_meet
     exact⟨by rw[D5.out],rfl⟩
    ·have d3:decide ((i:Int)<4)=false:=decide_eq_false (by omega)
     have d4:decide (i<4)=false:=decide_eq_false h2;have D5:Hid (decide (i<ns.length)=false):=zH (decide_eq_false (by omega));clear h1 h2 hlen hi;go_wp2_with fail
     go_meet
     exact⟨by rw[D5.out],rfl⟩
   ·have d1:decide ((i:Int)<n0)=false:=decide_eq_false (by omega)
    have d2:decide (i<n0)=false:=decide_eq_false h1;have D5:Hid (decide (i<ns.length)=false):=zH (decide_eq_false (by omega));clear h1 hlen hi;go_wp2_with fail
    go_meet
    exact⟨by rw[D5.out],rfl⟩
  obtain⟨rfl,rfl⟩:=hcut;obtain⟨V,rfl⟩: ∃ q,q=wc:=⟨_,rfl⟩;clear hlen;by_cases hin:i<ns.length
  ·rw[decide_eq_true hin]
   have h4:i<4:=Nat.lt_of_lt_of_le hin (by rw[HLEN.out];exact Nat.min_le_left _ _);obtain⟨x,hx,hn⟩:=HAT.out i hin;obtain⟨k,hk⟩:=HSN.out i hi;obtain⟨r,k1,k2,k3,k4⟩:=cvt x;obtain⟨p,ep⟩: ∃ q,szF x=q:=⟨_,rfl⟩;have hp:=szF_in x;rw[ep]at hp k2 hn;have K5:=zH (show IntKind.i64.wrap (1+IntKind.i64.wrap (r:Int))=(p:Int) by rw[wrap_i,wrap_i];unfold wrap64;omega);have k6:IntKind.u64.wrap (p:Int)=(p:Int):=by rw[IntKind.wrap_u64];omega
   have hsum:=sum_le HIN.out i;have hlen:=HLEN.out;obtain⟨tt,ett⟩: ∃ q,(ns.take i).sum=q:=⟨_,rfl⟩;have hsn:=sum_succ hn;rw[ett]at hsum hsn ⊢;have k7:IntKind.u64.wrap ((tt:Int)+(p:Int))=((tt+p:Nat):Int):=by rw[IntKind.wrap_u64];omega
   obtain⟨t2,et2⟩: ∃ q,tt+p=q:=⟨_,rfl⟩;rw[et2]at k7 hsn;obtain⟨ra,rc,e1,e2,hcell⟩:=HR.out.1.form;cases e1
   obtain⟨rb,ro,hra,hrb,hcell⟩:=hcell (by omega);have hx2:V.cell? ⟨rb,ro+i,none⟩=some (.int .i64 x):=(hcell i (by omega)).trans (by rw[List.getElem?_map,hx];rfl);have CS:=zH (do_at b (sndN m1 ns i) (1+i) hk.ok (by omega) (sdD 2 p 0) (sdD_ok (by omega) (by omega) (by decide)) (.slice none 0 0) g' 1 (by decide) V HC.out.tidy ⟨rfl, .inl ⟨⟨_,_,rfl⟩,rfl⟩⟩ HM.out);rw[←sndN_succ hn]at CS;obtain⟨xe,exe⟩: ∃ q,(doF (sndN m1 ns i) (sdD 2 p 0)).1=q:=⟨_,rfl⟩;obtain⟨oe,eoe⟩: ∃ q,(doF (sndN m1 ns i) (sdD 2 p 0)).2.2=q:=⟨_,rfl⟩;rw[exe,eoe]at CS;obtain⟨mn,emn⟩: ∃ q,sndN m1 ns (i+1)=q:=⟨_,rfl⟩;rw[emn]at CS;have HMN:=zH emn;unfold ddv sdD cr0 at CS;have hi0:(0:Int)≤i:=by omega
   have hi9:(i:Int)<n0:=by omega
   have hiw:wrap64 ((i:Int)+1)=((i+1:Nat):Int):=wrapS1 (by omega);have HIW:=zH hiw;have HS:=zH hsn;have HI1:Hid (i+1≤ns.length∧4-(i+1)<4-i):=zH ⟨hin,Nat.sub_lt_sub_left h4 (Nat.lt_succ_self i)⟩;have HRA:=zH hra;rw[hra];clear h4 hiw hi hin hx hn hk ep hp k2 k3 hsum hlen ett et2 e2 hcell hrb exe eoe emn hra hsn;go_upto_region 12 with fail
   refine wp_region_lit ?_;iterate 9 (refine wpList_plain rfl fun K hK=> ?_;go_simp;refine hK _ _ ?_;clear hK K)
   rw[K5.out,←HRA.out];refine wpList_nil ?_;clear k1 k4 K5 hx2;go_wp2_with fail
   refine CS.out.mono ?_;rintro e w2 ⟨vo,g2,rfl,C2,M2,_⟩;have HC2:=zH (HC.out.trans (C2.mono (lo':=1) (hi':=90) (Nat.le_refl _) (by omega)));have HM2:Hid (McAt w2 g2 1 b (sndN m1 ns (i+1))):=zH (by rw[HMN.out];exact M2);have HR2:=zH (HR.out.chg C2 (by decide));have HB2:=zH (HB.out.chg C2 (by decide));have hiw:=HIW.out;clear C2 M2 HC HM HR HB CS k6 k7;go_wp2_with fail
   go_roundw
   case rel=>exact⟨i+1,g2,(by first | rfl | rw[HIW.out]),by rw[HS.out],HI1.out.1,HC2,HM2,HR2,HB2⟩
   case measure=>(try rw[HIW.out]);exact HI1.out.2
  ·rw[decide_eq_false hin]
   have hil:i=ns.length:=by omega
   subst hil;obtain⟨k,hk⟩:=HSN.out ns.length (Nat.le_refl _);have hlen:=HLEN.out;have hls:=hk.start (by omega);have hsum:=sum_le HIN.out ns.length;obtain⟨W,eW⟩: ∃ q,(ns.take ns.length).sum=q:=⟨_,rfl⟩;obtain⟨m2,em2⟩: ∃ q,sndN m1 ns ns.length=q:=⟨_,rfl⟩;rw[eW]at hls hsum ⊢;rw[em2]at hls HM;have hW:W≤40000:=by omega
   obtain⟨j,hj,hlt,heq⟩:=losses (drops:=bs) (by omega) hls;have HLT:=zH hlt;have HEQ:=zH heq;have HLN:=zH (fun i hi=>lsN_ok (drops:=bs) (W:=W) (by omega) hls i hi);have HJ:=zH hj;have HW:=zH hW;clear hi hin hk hlen hls hsum eW em2 hW hj hlt heq HSN HAT HLEN HIN HR;go_wp2_with fail
   go_loopw [13,14,15] (fun v13 v14 v15 wr=> ∃(i:Nat) (g':Nat→Nat) (a2:Option Addr) (c2:Nat),v15= .int .i64 i∧v14= .int .u64 ((lsN bs m2 i).2.1:Nat)∧v13= .slice a2 (lsN bs m2 i).2.2.length c2∧i≤j∧Hid (Chg w wr g0 g' 1 90)∧Hid (McAt wr g' 1 b (lsN bs m2 i).1)∧Hid (RdZ wr g' (.slice a1 n1 c1) 1 n1 (bs.map .bool))∧Hid (Sli wr g' 85 64 2 (.slice a2 (lsN bs m2 i).2.2.length c2) (lsN bs m2 i).2.2.length ((lsN bs m2 i).2.2.flatMap rgl))) (fun _ _ v15 _=>match v15 with | .int _ y=>2000-y.toNat | _=>0)
   case atStart=>exact⟨0,g',none,0,rfl,rfl,rfl,Nat.zero_le _,HC,HM,HB,zH (Sli.nil _ _ _ _ _)⟩
   case round=>
    clear HC HM HB;obtain⟨i,g',a2,c2,rfl,rfl,rfl,hi,HC,HM,HB,HS⟩:=hrel;obtain⟨V,rfl⟩: ∃ q,q=wr:=⟨_,rfl⟩;have hj:=HJ.out;obtain⟨k,hk⟩:=HLN.out i (by omega);have hi1:decide ((i:Int)<2000)=true:=decide_eq_true (by omega);have hi2:decide (i<2000)=true:=decide_eq_true (by omega);by_cases hij:i=j
    ·subst hij
     have he:=HEQ.out;rw[he];have huns:=hk.end_le.2.2 he;have CS:=zH (state_at (m:=(lsN bs m2 i).1) hk.ok (show 5<8 by decide) (by decide) HC.out.tidy HM.out);rw[hk.sk]at CS;simp only[sto,Option.isSome_some,huns]at CS;obtain⟨q1,e1⟩: ∃ q,k.out=q:=⟨_,rfl⟩;obtain⟨q2,e2⟩: ∃ q,k.fl=q:=⟨_,rfl⟩;obtain⟨q3,e3⟩: ∃ q,k.tso=q:=⟨_,rfl⟩;rw[e1,e2,e3]at CS;clear he huns hk e1 e2 e3 hj hi;go_wp2_with fail
     refine CS.out.mono ?_;rintro e w9 ⟨rfl,hB9⟩;have HC9:=zH (HC.out.below hB9);clear hB9 HC CS;go_wp2_with fail
     go_ret
     exact⟨rfl,(HC9.out.alloc _).plain fun b=>by rw[HG.out];decide⟩
    ·have hlt:=HLT.out i (by omega)
     have HIJ:Hid (i+1≤j∧2000-(i+1)<2000-i):=zH (by omega);have HP:=zH (ls_pull hk (by have:=HW.out;omega));have HA1:=zH (lsS_ok (drops:=bs) (by have:=HW.out;omega) hk (by omega)).1;obtain⟨k3,hk3⟩:=HLN.out (i+1) (by omega);have hen3:=hk3.end_le;have HE3:Hid ((lsN bs m2 (i+1)).2.1≤40000):=zH (by have:=HW.out;omega);have HNX:Hid (lsN bs m2 (i+1)=lsS bs i (lsN bs m2 i).1 (lsN bs m2 i).2.1 (lsN bs m2 i).2.2):=zH rfl;have HOK:=zH hk.ok;have HTM:=zH hk.time;have hll:=lsN_len bs m2 i;obtain⟨⟨M,en,had⟩,eS⟩: ∃ q,lsN bs m2 i=q:=⟨_,rfl⟩;rw[eS]at HM HS HNX HP HA1 HOK HTM hlt hll ⊢;dsimp only at HM HS HNX HP HA1 HOK HTM hlt hll ⊢
     have d3:decide ((en:Int)<W)=true:=decide_eq_true (by omega);have d4:decide (en<W)=true:=decide_eq_true hlt;have HLI:Hid (i<2000∧i≤300):=zH (by omega);have CP:=zH (do_at b M (10+3*i) HOK.out (by omega) pulD pulD_ok (.slice none 0 0) g' 1 (by decide) V HC.out.tidy ⟨rfl, .inl ⟨⟨_,_,rfl⟩,rfl⟩⟩ HM.out);have HO5:=zH (doF_ok HOK.out (by omega) pulD_ok);rw[HP.out.1]at CP;obtain⟨m5,em5⟩: ∃ q,(doF M pulD).2.1=q:=⟨_,rfl⟩;obtain⟨o5,eo5⟩: ∃ q,(doF M pulD).2.2=q:=⟨_,rfl⟩;rw[em5,eo5]at CP HP;rw[em5]at HO5;rw[em5,eo5]at HA1;have HE5:=zH (And.intro em5 eo5);unfold ddv pulD cr0 at CP;obtain⟨L,eL⟩: ∃ q,had.length=q:=⟨_,rfl⟩;rw[eL]at HS ⊢;have HEL:=zH eL;have HLL:Hid (L≤300):=zH (by omega);have hiw:wrap64 ((i:Int)+1)=((i+1:Nat):Int):=wrapS1 (by omega);have HIW:=zH hiw;clear hiw hj hi hij hk hk3 hen3 eS hlt em5 eo5 eL hll;go_wp2_with fail
     refine CP.out.mono ?_;rintro e w5 ⟨vo,g5,rfl,C5,M5,O5⟩;have HC5:=zH (HC.out.trans (C5.mono (lo':=1) (hi':=90) (Nat.le_refl _) (by omega)));have HM5:=zH M5;have HB5:=zH (HB.out.chg C5 (by decide));have HS5:=zH (HS.out.chg C5 (.inr (by decide)));obtain⟨ad,cd,ax,cx,af,cf,evo,_⟩:=O5.rd.ex;have hdp:DepAt w5 g5 (.slice ad o5.dep.length cd) o5.dep:=by
      obtain⟨vd,vx,vf,e2,h2,_⟩:=O5;rw[evo]at e2;cases e2
      exact h2
     subst evo;obtain⟨dl,edl⟩: ∃ q,o5.dep.length=q:=⟨_,rfl⟩;rw[edl]at hdp ⊢;obtain⟨dg,edg⟩: ∃ q,o5.dog=q:=⟨_,rfl⟩;rw[edg]at HP ⊢;have HD5:=zH hdp;have HDL:=zH edl;have HDG:=zH edg;clear C5 M5 O5 hdp edl edg HC HM HB HS CP hi1 hi2 d3 d4;go_upto_region 23 with fail
     obtain⟨N5,e5⟩: ∃ q,w5.heap.size=q:=⟨_,rfl⟩;rw[e5];refine wp_named (fun W=>At W N5 41 #[.slice ad dl cd, .slice ax o5.drop.length cx, .slice af o5.fates.length cf, .int .u64 (dg:Nat)]∧Hid (Chg w5 W g5 g5 85 85)∧Hid (g5 N5=0)) ⟨by rw[←e5];exact At.made w5 _ _,zH ((Chg.refl HC5.out.tidy 85 85).alloc _),zH (HC5.out.tidy N5 (by rw[e5];exact Nat.le_refl _))⟩ (fun W8 hW=> ?_);obtain⟨A8,K8,G8⟩:=hW;have y0:=A8.ce 0;have y3:=A8.ce 3;have HC8:=zH (HC5.out.trans (K8.out.mono (lo':=1) (hi':=90) (by omega) (by omega)));have HM8:=zH (HM5.out.chg K8.out (.inl (by decide)));have HB8:=zH (HB5.out.chg K8.out (by decide));have HS8:=zH (HS5.out.chg K8.out (.inr (by decide)));have HD8:=zH (HD5.out.chg K8.out (by decide));clear A8 K8 HC5 HM5 HB5 HS5 HD5 e5;rcases HP.out.2.2 with⟨hdep,hdog⟩ | ⟨zs,zf,zl,zt,za,hdep,hzl,hzf⟩
     ·have hdl:dl=0:=by rw[←HDL.out,hdep];rfl
      subst hdl;by_cases hd0:dg=0
      ·have hnw:=HP.out.2.1
       have htm:=HTM.out;have hnn:m5.now≤6000000000000:=by
        have:=HLI.out.2;rw[hnw];exact Nat.le_trans htm (Nat.le_trans (Nat.mul_le_mul_right 20000000000 this) (by decide))
       have hL:=lsS_los (drops:=bs) (i:=i) (en:=en) (had:=had) (m:=M) (by rw[HE5.out.2];exact hdep) (by rw[HE5.out.2,HDG.out];exact hd0);rw[←HNX.out,HE5.out.1]at hL;have CN:=zH (now_at HM8.out);obtain⟨nw,enw⟩: ∃ q,m5.now=q:=⟨_,rfl⟩;rw[enw]at hL hnn CN;have cw:IntKind.u64.wrap ((nw:Int)+1000000000)=((nw+1000000000:Nat):Int):=by rw[IntKind.wrap_u64];omega
       obtain⟨n2,en2⟩: ∃ q,nw+1000000000=q:=⟨_,rfl⟩;rw[en2]at cw hL;have hcd:(clkD n2).ok:=clkD_ok (by omega);have CK:=zH (do_at b m5 _ HO5.out (by have:=HLI.out;omega) (clkD n2) hcd (.slice none 0 0) g5 1 (by decide) W8 HC8.out.tidy ⟨rfl, .inl ⟨⟨_,_,rfl⟩,rfl⟩⟩ HM8.out);have HO6:=zH (doF_ok HO5.out (by have:=HLI.out;omega) hcd);obtain⟨m6,em6⟩: ∃ q,(doF m5 (clkD n2)).2.1=q:=⟨_,rfl⟩;obtain⟨o6,eo6⟩: ∃ q,(doF m5 (clkD n2)).2.2=q:=⟨_,rfl⟩;obtain⟨x6,ex6⟩: ∃ q,(doF m5 (clkD n2)).1=q:=⟨_,rfl⟩;rw[em6,eo6,ex6]at CK;rw[em6]at HO6 hL;unfold ddv clkD cr0 at CK;have CL:=zH (fun(w':World) (g':Nat→Nat) (hT:Tidy w' g') (h:McAt w' g' 1 b m6)=>do_at b m6 _ HO6.out (by have:=HLI.out;omega) (sdD 4 0 0) (sdD_ok (by decide) (by decide) (by decide)) (.slice none 0 0) g' 1 (by decide) w' hT ⟨rfl, .inl ⟨⟨_,_,rfl⟩,rfl⟩⟩ h);obtain⟨m7,em7⟩: ∃ q,(doF m6 (sdD 4 0 0)).2.1=q:=⟨_,rfl⟩;obtain⟨o7,eo7⟩: ∃ q,(doF m6 (sdD 4 0 0)).2.2=q:=⟨_,rfl⟩;obtain⟨x7,ex7⟩: ∃ q,(doF m6 (sdD 4 0 0)).1=q:=⟨_,rfl⟩;rw[em7,eo7,ex7]at CL;rw[em7]at hL;unfold ddv sdD cr0 at CL;have HL7:=zH hL;subst hd0;clear hdep hdog hnw htm hnn hL enw en2 hcd em6 eo6 ex6 em7 eo7 ex7 HD8;go_wp2_with fail
       refine CN.out.mono ?_;rintro e w9 ⟨rfl,rfl⟩;go_wp2_with fail
       refine CK.out.mono ?_;rintro e w9 ⟨vo9,g9,rfl,C9,M9,_⟩;have HC9:=zH (HC8.out.trans (C9.mono (lo':=1) (hi':=90) (Nat.le_refl _) (by omega)));have HM9:=zH M9;have HB9:=zH (HB8.out.chg C9 (by decide));have HS9:=zH (HS8.out.chg C9 (.inr (by decide)));clear C9 M9 HC8 HM8 HB8 HS8 CK CN y0 y3 cw;go_wp2_with fail
       refine(CL.out _ _ HC9.out.tidy HM9.out).mono ?_;rintro e w10 ⟨vo10,g10,rfl,C10,M10,_⟩;have HC10:=zH (HC9.out.trans (C10.mono (lo':=1) (hi':=90) (Nat.le_refl _) (by omega)));have HM10:Hid (McAt w10 g10 1 b (lsN bs m2 (i+1)).1):=zH (by rw[HL7.out];exact M10);have HB10:=zH (HB9.out.chg C10 (by decide));have HS10:Hid (Sli w10 g10 85 64 2 (.slice a2 (lsN bs m2 (i+1)).2.2.length c2) (lsN bs m2 (i+1)).2.2.length ((lsN bs m2 (i+1)).2.2.flatMap rgl)):=zH (by rw[HL7.out,HEL.out];exact HS9.out.chg C10 (.inr (by decide)));have hiw:=HIW.out;clear C10 M10 HC9 HM9 HB9 HS9 CL;go_wp2_with fail
       go_roundw
       case rel=>exact⟨i+1,g10,a2,c2,(by first | rfl | rw[HIW.out]),by rw[HL7.out],by rw[HL7.out,HEL.out],HIJ.out.1,HC10,HM10,HB10,HS10⟩
       case measure=>(try rw[HIW.out]);exact HIJ.out.2
      ·have hL:=lsS_clk (drops:=bs) (i:=i) (en:=en) (had:=had) (m:=M) (by rw[HE5.out.2];exact hdep) (by rw[HE5.out.2,HDG.out];exact hd0)
       rw[←HNX.out,HE5.out.1,HE5.out.2,HDG.out]at hL;have hcd:(clkD dg).ok:=clkD_ok hdog;have CK:=zH (do_at b m5 _ HO5.out (by have:=HLI.out;omega) (clkD dg) hcd (.slice none 0 0) g5 1 (by decide) W8 HC8.out.tidy ⟨rfl, .inl ⟨⟨_,_,rfl⟩,rfl⟩⟩ HM8.out);obtain⟨m6,em6⟩: ∃ q,(doF m5 (clkD dg)).2.1=q:=⟨_,rfl⟩;obtain⟨o6,eo6⟩: ∃ q,(doF m5 (clkD dg)).2.2=q:=⟨_,rfl⟩;obtain⟨x6,ex6⟩: ∃ q,(doF m5 (clkD dg)).1=q:=⟨_,rfl⟩;rw[em6,eo6,ex6]at CK;rw[em6]at hL;unfold ddv clkD cr0 at CK;have HL7:=zH hL;have d5:((dg:Int)!=0)=true:=by rw[bne_iff_ne];omega
       have d6:decide (dg=0)=false:=decide_eq_false hd0;have d7:((dg:Int)==0)=false:=beq_eq_false_iff_ne.2 (by omega);have d8:decide ((dg:Int)=0)=false:=decide_eq_false (by omega);clear hdep hdog hL hcd em6 eo6 ex6 HD8 hd0;go_wp2_with fail
       refine CK.out.mono ?_;rintro e w10 ⟨vo9,g10,rfl,C10,M10,_⟩;have HC10:=zH (HC8.out.trans (C10.mono (lo':=1) (hi':=90) (Nat.le_refl _) (by omega)));have HM10:Hid (McAt w10 g10 1 b (lsN bs m2 (i+1)).1):=zH (by rw[HL7.out];exact M10);have HB10:=zH (HB8.out.chg C10 (by decide));have HS10:Hid (Sli w10 g10 85 64 2 (.slice a2 (lsN bs m2 (i+1)).2.2.length c2) (lsN bs m2 (i+1)).2.2.length ((lsN bs m2 (i+1)).2.2.flatMap rgl)):=zH (by rw[HL7.out,HEL.out];exact HS8.out.chg C10 (.inr (by decide)));have hiw:=HIW.out;clear C10 M10 HC8 HM8 HB8 HS8 CK y0 y3 d5 d6 d7 d8;go_wp2_with fail
       go_roundw
       case rel=>exact⟨i+1,g10,a2,c2,(by first | rfl | rw[HIW.out]),by rw[HL7.out],by rw[HL7.out,HEL.out],HIJ.out.1,HC10,HM10,HB10,HS10⟩
       case measure=>(try rw[HIW.out]);exact HIJ.out.2
     ·have hd8:=HD8.out
      rw[hdep]at hd8;obtain⟨bd,ebd,D8⟩:=hd8;cases ebd
      have t0:=D8.1.ce 0;have t1:=D8.1.ce 1;have t2:=D8.1.ce 2;have t3:=D8.1.ce 3;have t4:=D8.1.ce 4;have HZ:=zH (And.intro hzl hzf);have HDP:=zH hdep;clear hdep hzl hzf D8 HD8 y3;go_upto_region 24 with fail
      refine wp_region_lit ?_;iterate 4 (refine wpList_plain rfl fun K hK=> ?_;go_simp;refine hK _ _ ?_;clear hK K)
      obtain⟨N9,e9⟩: ∃ q,W8.heap.size=q:=⟨_,rfl⟩;refine wpList_plain rfl fun K hK=> ?_
      go_simp;refine hK _ _ ?_;clear hK K;refine wpList_store_new _ rfl 48 (.tmp 18) (.tmp 102) rfl _ #[.int .i64 (zs:Nat), .int .u64 (zf:Nat), .int .i64 (zl:Nat), .int .u64 (zt:Nat), .bool za] N9 e9 rfl rfl (by kernel_rfl) rfl (by simp[Value.oneCell']) ?_;try simp only[Act.put]
      refine wpList_nil ?_;refine q_named (fun W=>At W N9 48 #[.int .i64 (zs:Nat), .int .u64 (zf:Nat), .int .i64 (zl:Nat), .int .u64 (zt:Nat), .bool za]∧Hid (Chg W8 W g5 g5 85 85)∧Hid (g5 N9=0)) ⟨by rw[←e9];exact At.made W8 _ _,zH ((Chg.refl HC8.out.tidy 85 85).alloc _),zH (HC8.out.tidy N9 (by rw[e9];exact Nat.le_refl _))⟩ (fun W9 hW=> ?_);obtain⟨A9,K9,G9⟩:=hW;have s2:=A9.ce 2;have HC9:=zH (HC8.out.trans (K9.out.mono (lo':=1) (hi':=90) (by omega) (by omega)));have HM9:=zH (HM8.out.chg K9.out (.inl (by decide)));have HB9:=zH (HB8.out.chg K9.out (by decide));have HS9:=zH (HS8.out.chg K9.out (.inr (by decide)));have HA9:=zH A9;have hsd:(sdD 7 (zl:Int) 0).ok:=sdD_ok (by omega) (by have:=HZ.out;omega) (by decide);have CK:=zH (do_at b m5 _ HO5.out (by have:=HLI.out;omega) (sdD 7 (zl:Int) 0) hsd (.slice none 0 0) g5 1 (by decide) W9 HC9.out.tidy ⟨rfl, .inl ⟨⟨_,_,rfl⟩,rfl⟩⟩ HM9.out);have HO6:=zH (doF_ok HO5.out (by have:=HLI.out;omega) hsd);obtain⟨m6,em6⟩: ∃ q,(doF m5 (sdD 7 (zl:Int) 0)).2.1=q:=⟨_,rfl⟩;obtain⟨o6,eo6⟩: ∃ q,(doF m5 (sdD 7 (zl:Int) 0)).2.2=q:=⟨_,rfl⟩;obtain⟨x6,ex6⟩: ∃ q,(doF m5 (sdD 7 (zl:Int) 0)).1=q:=⟨_,rfl⟩;rw[em6,eo6,ex6]at CK;rw[em6]at HO6;have HE6:=zH em6;unfold ddv sdD cr0 at CK;clear t0 t1 t2 t3 t4 y0 A9 K9 e9 hsd em6 eo6 ex6 HC8 HM8 HB8 HS8;go_wp2_with fail
      refine CK.out.mono ?_;rintro e w10 ⟨vo10,g10,rfl,C10,M10,_⟩;have HC10:=zH (HC9.out.trans (C10.mono (lo':=1) (hi':=90) (Nat.le_refl _) (by omega)));have HM10:=zH M10;have HB10:=zH (HB9.out.chg C10 (by decide));have HS10:=zH (HS9.out.chg C10 (.inr (by decide)));have HA10:=zH (HA9.out.chg C10 (.inl (by rw[G9.out];decide)));clear C10 M10 HC9 HM9 HB9 HS9 HA9 CK s2;go_upto_region 26 with fail
      go_cut [121] (fun v121 wx=>v121= .bool (decide (i<60∧bs[i]? =some true))∧wx=w10)
      case first=>
       have hn1:=HN1.out;by_cases h1:i<n1
       ·have d1:decide ((i:Int)<n1)=true:=decide_eq_true (by omega)
        have d2:decide (i<n1)=true:=decide_eq_true h1;have hbi:bs[i]? =some bs[i]:=List.getElem?_eq_getElem (by omega);obtain⟨bi,ebi⟩: ∃ q,bs[i]=q:=⟨_,rfl⟩;rw[ebi]at hbi;by_cases h2:i<60
        ·have d3:decide ((i:Int)<60)=true:=decide_eq_true (by omega)
         have d4:decide (i<60)=true:=decide_eq_true h2;have d5:decide (i<60∧bs[i]? =some true)=bi:=by
          rw[hbi];cases bi
          ·exact decide_eq_false (by simp)
          ·exact decide_eq_true ⟨h2,rfl⟩
         have D5:=zH d5;obtain⟨ra,rc,e1,e2,hcell⟩:=HB10.out.1.form;cases e1
         obtain⟨rb,ro,hra,hrb,hcell⟩:=hcell (by omega);have hx2:w10.cell? ⟨rb,ro+i,none⟩=some (.bool bi):=(hcell i (by omega)).trans (by rw[List.getElem?_map,hbi];rfl);have hi0:(0:Int)≤i:=by omega
         have hi9:(i:Int)<n1:=by omega
         have HRA:=zH hra;rw[hra];clear h1 h2 e2 hra hrb hcell hbi ebi hn1 d5;go_wp2_with fail
         rw[←HRA.out];go_meet
         exact⟨by rw[D5.out],rfl⟩
        ·have d3:decide ((i:Int)<60)=false:=decide_eq_false (by omega)
         have d4:decide (i<60)=false:=decide_eq_false h2;have d5:decide (i<60∧bs[i]? =some true)=false:=decide_eq_false (fun h=>h2 h.1);have D5:=zH d5;clear h1 h2 hbi ebi hn1 d5;go_wp2_with fail
         go_meet
         exact⟨by rw[D5.out],rfl⟩
       ·have d1:decide ((i:Int)<n1)=false:=decide_eq_false (by omega)
        have d2:decide (i<n1)=false:=decide_eq_false h1;have d5:decide (i<60∧bs[i]? =some true)=false:=decide_eq_false (fun h=>by rw[List.getElem?_eq_none (by omega)]at h;cases h.2);have D5:=zH d5;clear h1 hn1 d5;go_wp2_with fail
        go_meet
        exact⟨by rw[D5.out],rfl⟩
      obtain⟨rfl,rfl⟩:=hcut;obtain⟨V10,rfl⟩: ∃ q,q=wc:=⟨_,rfl⟩;by_cases hdr:i<60∧bs[i]? =some true
      ·have hL:=lsS_drop (drops:=bs) (en:=en) (had:=had) (m:=M) (x:=⟨zs,zf,zl,zt,za⟩) (by rw[HE5.out.2];exact HDP.out) hdr
       rw[←HNX.out,HE5.out.1,HE6.out]at hL;have HL7:=zH hL;rw[decide_eq_true hdr];have HM11:Hid (McAt V10 g10 1 b (lsN bs m2 (i+1)).1):=zH (by rw[hL];exact HM10.out);have HS11:Hid (Sli V10 g10 85 64 2 (.slice a2 (lsN bs m2 (i+1)).2.2.length c2) (lsN bs m2 (i+1)).2.2.length ((lsN bs m2 (i+1)).2.2.flatMap rgl)):=zH (by rw[hL,HEL.out];exact HS10.out);have hiw:=HIW.out;clear hdr hL;go_wp2_with fail
       go_roundw
       case rel=>exact⟨i+1,g10,a2,c2,(by first | rfl | rw[HIW.out]),by rw[HL7.out],by rw[HL7.out,HEL.out],HIJ.out.1,HC10,HM11,HB10,HS11⟩
       case measure=>(try rw[HIW.out]);exact HIJ.out.2
      ·rw[decide_eq_false hdr]
       have hL:=lsS_ack (drops:=bs) (en:=en) (had:=had) (m:=M) (x:=⟨zs,zf,zl,zt,za⟩) (by rw[HE5.out.2];exact HDP.out) hdr;have hA1:=(HA1.out ⟨zs,zf,zl,zt,za⟩ [] HDP.out).2 hdr;rw[←HNX.out,HE5.out.1,HE6.out]at hL;rw[HE6.out]at hA1;have erg:rgn ⟨zs,zf,zl,zt,za⟩=(zf,zf+zl):=rfl;rw[erg]at hL hA1;obtain⟨zz,ezz⟩: ∃ q,zf+zl=q:=⟨_,rfl⟩;have hzz:=HZ.out.2;have cz:IntKind.u64.wrap ((zf:Int)+(zl:Int))=(zz:Int):=by rw[IntKind.wrap_u64];omega
       have cl:IntKind.u64.wrap (zl:Int)=(zl:Int):=by rw[IntKind.wrap_u64];omega
       rw[ezz]at hL hA1;have hsn:=rgl_snoc had (zf,zz);obtain⟨had2,eh2⟩: ∃ q,had++[(zf,zz)]=q:=⟨_,rfl⟩;rw[eh2]at hL hA1 hsn;have hl2:had2.length=L+1:=by rw[←eh2,List.length_append,HEL.out];rfl
       obtain⟨e2,ee2⟩: ∃ q,mrg had2 en=q:=⟨_,rfl⟩;rw[ee2]at hL hA1;have he3:=HE3.out;rw[hL]at he3;have hsd:(sdD 3 0 e2).ok:=sdD_ok (by decide) (by decide) (by have h:e2≤40000:=he3;omega);have CL:=zH (fun(w':World) (g':Nat→Nat) (hT:Tidy w' g') (h:McAt w' g' 1 b m6)=>do_at b m6 _ HO6.out (by have:=HLI.out;omega) (sdD 3 0 e2) hsd (.slice none 0 0) g' 1 (by decide) w' hT ⟨rfl, .inl ⟨⟨_,_,rfl⟩,rfl⟩⟩ h);obtain⟨m7,em7⟩: ∃ q,(doF m6 (sdD 3 0 e2)).2.1=q:=⟨_,rfl⟩;obtain⟨o7,eo7⟩: ∃ q,(doF m6 (sdD 3 0 e2)).2.2=q:=⟨_,rfl⟩;rw[hA1,em7,eo7]at CL;rw[em7]at hL;unfold ddv sdD cr0 at CL;have HL7:=zH hL;have HSN:=zH hsn;have HL2:=zH hl2;have HE2:=zH ee2;obtain⟨i0,HI0⟩:=infoRange;have hLn:=HLL.out;have HBN:Hid (L+1≤maxLen∧(L+1)*16≤140737488355328):=zH ⟨by unfold maxLen;omega,by omega⟩;have s1:=HA10.out.ce 1;have s2:=HA10.out.ce 2;obtain⟨N10,e10⟩: ∃ q,V10.heap.size=q:=⟨_,rfl⟩;have B10:At (V10.alloc (.cells #[.int .u64 (zf:Nat), .int .u64 (zz:Nat)] 64)) N10 64 #[.int .u64 (zf:Nat), .int .u64 (zz:Nat)]:=by rw[←e10];exact At.made V10 _ _
       clear hdr hL hA1 erg ezz hzz hsn eh2 hl2 ee2 he3 hsd em7 eo7 hLn HA1;go_upto_region 27 with fail
       refine wp_region_lit ?_;iterate 7 (refine wpList_plain rfl fun K hK=> ?_;go_simp;refine hK _ _ ?_;clear hK K)
       try rw[cl]
       refine wpList_plain rfl fun K hK=> ?_
       go_simp;refine hK _ _ ?_;clear hK K;try rw[cl]
       refine wpList_plain rfl fun K hK=> ?_
       go_simp;refine hK _ _ ?_;clear hK K;try rw[cl]
       try rw[cz]
       iterate 2 (refine wpList_plain rfl fun K hK=> ?_;go_simp;refine hK _ _ ?_;clear hK K)
       refine wpList_append_sli _ rfl _ _ 44 rfl g10 85 64 i0 _ 2 16 Tryz.underlying44 HI0.out.1 HI0.out.2.1 HI0.out.2.2.1 HI0.out.2.2.2 rfl (by decide) _ L (had.flatMap rgl) rfl (HS10.out.alloc _) (HC10.out.tidy.alloc _) ⟨N10,0,none⟩ 1 1 [.int .u64 (zf:Nat), .int .u64 (zz:Nat)] rfl rfl (World.news_of_block B10) (by simp[Value.oneCell']) (by decide) HBN.out.1 HBN.out.2 ?_;intro b8 o8 c8 w11 g11 S11 h11;simp only[Act.put];have CW:=(Chg.refl HC10.out.tidy 85 86).alloc (.cells #[.int .u64 (zf:Nat), .int .u64 (zz:Nat)] 64);have K11:=CW.trans h11;have HC11:=zH (HC10.out.trans (K11.mono (lo':=1) (hi':=90) (by omega) (by omega)));have HM11:=zH (HM10.out.chg K11 (.inl (by decide)));have HB11:=zH (HB10.out.chg K11 (by decide));rw[←HSN.out]at S11;obtain⟨L2,eL2⟩: ∃ q,L+1=q:=⟨_,rfl⟩;rw[eL2]at S11 HL2 ⊢;have HLX:Hid (L2≤400):=zH (by have:=HLL.out;omega);have hc0:=S11.cells;have HS11:=zH S11;have HCL:Hid (∀ n r,had2[n]? =some r→w11.cell? ⟨b8,o8+n*2,none⟩=some (.int .u64 r.1)∧w11.cell? ⟨b8,o8+n*2+1,none⟩=some (.int .u64 r.2)):=zH (fun n r hr=>by
        have hlt:=(List.getElem?_eq_some_iff.1 hr).1;have hl2:=HL2.out;obtain⟨r1,r2⟩:=rgl_two hr;exact⟨(hc0 (n*2) (by omega)).trans r1,by rw[Nat.add_assoc];exact(hc0 (n*2+1) (by omega)).trans r2⟩)
       clear S11 h11 CW K11 HC10 HM10 HB10 HS10 HA10 HI0 HBN B10 e10 s1 s2 cl cz eL2 hc0 HSN;refine wpList_plain rfl fun K hK=> ?_
       go_simp;refine hK _ _ ?_;clear hK K;refine wpList_nil ?_;go_wp2_with fail
       go_loopw [14,19] (fun v14 v19 wk=> ∃ kk:Nat,v19= .int .i64 kk∧v14= .int .u64 (mrgN had2 en kk:Nat)∧kk≤L2∧w11=wk) (fun _ v19 _=>match v19 with | .int _ y=>L2-y.toNat | _=>0)
       case atStart=>exact⟨0,rfl,rfl,Nat.zero_le _,rfl⟩
       case round=>
        obtain⟨kk,rfl,rfl,hkk,rfl⟩:=hrel;by_cases hkl:kk=L2
        ·have hmm:mrgN had2 en kk=e2:=by rw[hkl,←HL2.out];exact HE2.out
         have h1:decide ((kk:Int)<L2)=false:=decide_eq_false (by omega);have h2:decide (kk<L2)=false:=decide_eq_false (by omega);rw[hmm];clear hmm hkk hkl;go_wp2_with fail
         refine(CL.out _ _ HC11.out.tidy HM11.out).mono ?_;rintro e w12 ⟨vo12,g12,rfl,C12,M12,O12⟩;have HC12:=zH (HC11.out.trans (C12.mono (lo':=1) (hi':=90) (Nat.le_refl _) (by omega)));have HM12:Hid (McAt w12 g12 1 b (lsN bs m2 (i+1)).1):=zH (by rw[HL7.out];exact M12);have HB12:=zH (HB11.out.chg C12 (by decide));have HS12:Hid (Sli w12 g12 85 64 2 (.slice (some ⟨b8,o8,none⟩) (lsN bs m2 (i+1)).2.2.length c8) (lsN bs m2 (i+1)).2.2.length ((lsN bs m2 (i+1)).2.2.flatMap rgl)):=zH (by rw[HL7.out];show Sli w12 g12 85 _ 2 (.slice _ had2.length c8) had2.length _;rw[HL2.out];exact HS11.out.chg C12 (.inr (by decide)));obtain⟨ad2,cd2,ax2,cx2,af2,cf2,evo2,_⟩:=O12.rd.ex;subst evo2;obtain⟨q1,e1⟩: ∃ q,o7.dep.length=q:=⟨_,rfl⟩;obtain⟨q2,e2'⟩: ∃ q,o7.drop.length=q:=⟨_,rfl⟩;obtain⟨q3,e3⟩: ∃ q,o7.fates.length=q:=⟨_,rfl⟩;obtain⟨q4,e4⟩: ∃ q,o7.dog=q:=⟨_,rfl⟩;rw[e1,e2',e3,e4];clear C12 M12 O12 HC11 HM11 HB11 HS11 HCL CL h1 h2 e1 e2' e3 e4;go_upto_region 37 with fail
         refine wp_named (fun W=>Hid (Chg w12 W g12 g12 85 85)) (zH ((Chg.refl HC12.out.tidy 85 85).alloc _)) (fun W13 K13=> ?_);have HC13:=zH (HC12.out.trans (K13.out.mono (lo':=1) (hi':=90) (by omega) (by omega)));have HM13:=zH (HM12.out.chg K13.out (.inl (by decide)));have HB13:=zH (HB12.out.chg K13.out (by decide));have HS13:=zH (HS12.out.chg K13.out (.inr (by decide)));have hiw:=HIW.out;clear K13 HC12 HM12 HB12 HS12;go_wp2_with fail
         go_roundw
         case rel=>exact⟨i+1,g12,_,c8,(by first | rfl | rw[HIW.out]),by rw[HL7.out],by rw[HL7.out,HL2.out],HIJ.out.1,HC13,HM13,HB13,HS13⟩
         case measure=>(try rw[HIW.out]);exact HIJ.out.2
        ·have h1:decide ((kk:Int)<L2)=true:=decide_eq_true (by omega)
         have h2:decide (kk<L2)=true:=decide_eq_true (by omega);have HKL:Hid (kk+1≤L2∧L2-(kk+1)<L2-kk):=zH (by omega);have HKW:Hid (wrap64 ((kk:Int)+1)=((kk+1:Nat):Int)):=zH (wrapS1 (by have:=HLX.out;omega));have HMN:Hid (mrg1 had2 (mrgN had2 en kk)=mrgN had2 en (kk+1)):=zH rfl;obtain⟨u,eu⟩: ∃ q,mrgN had2 en kk=q:=⟨_,rfl⟩;rw[eu]at HMN ⊢;clear eu hkk hkl;go_wp2_with fail
         clear h1 h2;go_loopw [14,20] (fun v14 v20 wk=> ∃ n:Nat,v20= .int .i64 n∧v14= .int .u64 (mrg1 (had2.take n) u:Nat)∧n≤L2∧w11=wk) (fun _ v20 _=>match v20 with | .int _ y=>L2-y.toNat | _=>0)
         case atStart=>exact⟨0,rfl,rfl,Nat.zero_le _,rfl⟩
         case round=>
          obtain⟨nn,rfl,rfl,hnn,rfl⟩:=hrel;by_cases hnl:nn=L2
          ·have hmm:mrg1 (had2.take nn) u=mrgN had2 en (kk+1):=by rw[hnl,←HL2.out,List.take_length];exact HMN.out
           rw[hmm];have hkw:=HKW.out;subst hnl;clear hmm;go_wp2_with fail
           go_roundw
           case rel=>exact⟨kk+1,(by first | rfl | rw[HKW.out]),rfl,HKL.out.1,trivial⟩
           case measure=>(try rw[HKW.out]);exact HKL.out.2
          ·have h1:decide ((nn:Int)<L2)=true:=decide_eq_true (by omega)
           have h2:decide (nn<L2)=true:=decide_eq_true (by omega);have HNL:Hid (nn+1≤L2∧L2-(nn+1)<L2-nn):=zH (by omega);have hnw:wrap64 ((nn:Int)+1)=((nn+1:Nat):Int):=wrapS1 (by have:=HLX.out;omega);have HNW:=zH hnw;obtain⟨r,hr⟩: ∃ r,had2[nn]? =some r:=⟨_,List.getElem?_eq_getElem (by have:=HL2.out;omega)⟩;obtain⟨p1,p2⟩:=HCL.out nn r hr;have hms:=mrg1_succ hr u;obtain⟨cu,ecu⟩: ∃ q,mrg1 (had2.take nn) u=q:=⟨_,rfl⟩;rw[ecu]at hms ⊢;obtain⟨ra,rb⟩:=r;dsimp only at p1 p2 hms
           have hn0:(0:Int)≤nn:=by omega
           have hn9:(nn:Int)<L2:=by omega
           by_cases hra:ra≤cu
           ·rw[if_pos hra]at hms
            have d1:decide ((ra:Int)≤cu)=true:=decide_eq_true (by omega);have d2:decide (ra≤cu)=true:=decide_eq_true hra;have em:=max_cast cu rb;obtain⟨mx,emx⟩: ∃ q,max cu rb=q:=⟨_,rfl⟩;rw[emx]at em hms;have HMS:=zH hms;have em2:(if(cu:Int)<rb then(rb:Int)else cu)=mx:=by split<;>omega
            clear hnn hnl hr ecu hra emx hms hnw;go_upto_region 33 with fail
            clear em em2;have hnw:=HNW.out;go_wp2_with fail
            go_roundw
            case rel=>exact⟨nn+1,(by first | rfl | rw[HNW.out]),by rw[HMS.out],HNL.out.1,trivial⟩
            case measure=>(try rw[HNW.out]);exact HNL.out.2
           ·rw[if_neg hra]at hms
            have d1:decide ((ra:Int)≤cu)=false:=decide_eq_false (by omega);have d2:decide (ra≤cu)=false:=decide_eq_false hra;have HMS:=zH hms;clear hnn hnl hr ecu hra hms;go_wp2_with fail
            go_roundw
            case rel=>exact⟨nn+1,(by first | rfl | rw[HNW.out]),by rw[HMS.out],HNL.out.1,trivial⟩
            case measure=>(try rw[HNW.out]);exact HNL.out.2
end
end Go.Proofs.YtojgokiobdpclaaGreat
