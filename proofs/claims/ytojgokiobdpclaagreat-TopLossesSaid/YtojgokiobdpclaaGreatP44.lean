import Derived.Test.YtojgokiobdpclaaGreatP43
import Derived.Deep.WholeRow
namespace Go.Proofs.YtojgokiobdpclaaGreat
set_option linter.unusedVariables false
set_option linter.unusedSimpArgs false
set_option maxRecDepth 8000
set_option maxHeartbeats 8000000
section
open Go.RowKit Go.Lib
theorem wpList_store_new {P:Program} {ops:Array Oper} {rest:List Oper} {op:Oper} {a:Act} (w:World) {Q:Exit→Act→World→Prop} (hgd:op.guard=none) (ty:TypeId) (x y:Operand) (ho:op.op= .store ty x y)
  (c c':Array Value) (N:Nat) (eN:w.heap.size=N) (hx:a.eval x= .pointer (some ⟨N,0,none⟩)) (hy:a.eval y= .agg c') (hi:(P.info? ty).map (·.size)=some c'.size) (hs:c.size=c'.size) (h1:c'.all (·.oneCell')=true)
  (h:wpList P ops Q rest (a.put op.dst undef) (w.alloc (.cells c' ty))):wpList P ops Q (op::rest) a (w.alloc (.cells c ty)):=by
 subst eN;refine wpList_plain hgd fun K hK=> ?_
 unfold Oper.wp execOp;simp only[ho,hx,hy,Sem.run_bind,Sem.run_pure,Result.andThen_ok,run_storeAt_new w ty c c' hi hs h1];exact hK _ _ h
theorem OutsOk.chg {w w':World} {g g':Nat→Nat} {lo hi:Nat} {m:MC} {ds:List DD} {i:Nat} {xs:List Value} (h:OutsOk w g m ds i xs) (c:Chg w w' g g' lo hi) (h0:0<lo):OutsOk w' g' m ds i xs:=
 ⟨h.1,fun j d hj hd=>by
  obtain⟨v,h1,h2⟩:=h.2 j d hj hd;exact⟨v,h1,h2.chg c h0⟩⟩
theorem errF_succ (m:MC) (ds:List DD) {i:Nat} {d:DD} (h:ds[i]? =some d):errF m ds (i+1)=errF m ds i++[.int .i64 ((doF (msF m ds i) d).1:Nat)]:=by
 obtain⟨hlt,rfl⟩:=List.getElem?_eq_some_iff.1 h;unfold errF;rw[List.take_succ_eq_append_getElem hlt,List.zipIdx_append,List.map_append];simp[Nat.min_eq_left (Nat.le_of_lt hlt)]
theorem OutsOk.snoc {w:World} {g:Nat→Nat} {m:MC} {ds:List DD} {i:Nat} {xs:List Value} {d:DD} {v a b c:Value} (h:OutsOk w g m ds i xs) (hd:ds[i]? =some d) (hv:DepAt w g v (doF (msF m ds i) d).2.2.dep):OutsOk w g m ds (i+1) (xs++[v,a,b,c]):=by
 refine⟨by rw[List.length_append,h.1];simp;omega,fun j e hj he=> ?_⟩;by_cases hji:j=i
 ·subst hji
  rw[hd]at he;cases he
  exact⟨v,by rw[List.getElem?_append_right (by rw[h.1];exact Nat.le_refl _),h.1];simp,hv⟩
 ·obtain⟨u,h1,h2⟩:=h.2 j e (by omega) he
  exact⟨u,by rw[List.getElem?_append_left (by rw[h.1];omega)];exact h1,h2⟩
theorem run_any (c:CF) (hok:c.ok) (ds:List DD) (n:Nat) (en:ds.length=n) (hn:n≤100000) (hd: ∀ d∈ds,d.ok) (hds: ∀ d∈ds,d.sks=[]) (N1 cap:Nat) (hcap:n≤cap) (cs:Array Value) (hcs: ∀(i:Nat) (d:DD),ds[i]? =some d→ ∀ q,q<15→cs[i*15+q]? =(ddc d (.slice none 0 0))[q]?) (g:Nat→Nat) (T:Nat) (hT0:0<T) (w:World) (hT:Tidy w g) (hA:At w N1 46 cs) (hg:g N1=0):
  Calls Tryz.prog 27 #[cfv c, .slice (some ⟨N1,0,none⟩) n cap] w fun e w'=> ∃ v8 v9 b g',e= .returned (.tuple #[v8,v9])∧RunI w g T b N1 cs c ds n v8 v9 g' w':=by
 obtain⟨N0,e0⟩: ∃ z,w.heap.size=z:=⟨_,rfl⟩;have gN:g N0=0:=hT _ (by omega);have CN:=zH (fun w' hT'=>new_at c hok g T hT0 w' hT');have HT:=zH hT;have HA:=zH hA;have HD:=zH hd;have HDS:=zH hds;have HCS:=zH hcs;have HEN:=zH en;have HMO:=zH (fun i hi=>msF_ok hok hd i hi);have hlt:=hA.lt;clear hT hok hA hd hds hcs en;unfold cfv at CN ⊢;go_enter Tryz.func27,Tryz.ntmps27
 go_upto_region 2 with fail
 refine(CN.out _ (HT.out.alloc _)).mono ?_;rintro e w1 ⟨b,g1,rfl,C1,M1⟩;have A1:At w1 N1 46 cs:=(HA.out.kept (World.grownBy_alloc _ _ none) (by simp)).chg C1 (by rw[hg];omega);have gN1:g1 N1=0:=(C1.old N1 (by simp;omega)).trans hg;have HC1:=zH (((Chg.refl HT.out T (T+90)).alloc (.cells #[.int .i64 (c.quantum:Nat), .int .i64 (c.first:Nat), .int .i64 (c.limit:Nat), .int .i64 (c.flowLimit:Nat), .int .u64 (c.horizon:Nat), .int .u64 (c.maxRate:Nat), .bool c.drop, .int .i64 (c.cap:Nat), .int .i64 (c.mss:Nat)] 24)).trans (C1.mono (Nat.le_refl _) (by omega)));have HM1:=zH M1;have HA1:=zH A1;clear C1 M1 A1 CN HT HA;go_wp2_with fail
 go_loopw [8,9,25] (fun v8 v9 v25 wr=> ∃(i:Nat) (g':Nat→Nat),v25= .int .i64 i∧i≤n∧RunI w g T b N1 cs c ds i v8 v9 g' wr) (fun _ _ v25 _=>match v25 with | .int _ y=>n-y.toNat | _=>0)
 case atStart=>exact⟨0,g1,rfl,Nat.zero_le _,HC1.out,HM1.out,⟨HA1.out,gN1⟩,⟨[],Sli.nil _ _ _ _ _,rfl,fun j d hj=>absurd hj (Nat.not_lt_zero j)⟩,Sli.nil _ _ _ _ _⟩
 case round=>
  obtain⟨i,g',rfl,hi,HI⟩:=hrel;by_cases hin:i=n
  ·subst hin
   have HI2:=zH HI;clear HI;go_wp2_with fail
   go_ret2
   first | exact⟨_,_,b,g',rfl,HI2.out⟩ | exact⟨b,g',HI2.out⟩ | exact⟨_,_,rfl,b,g',HI2.out⟩ | exact⟨_,_,⟨rfl,rfl⟩,b,g',HI2.out⟩
  ·have hi1:decide ((i:Int)<n)=true:=decide_eq_true (by omega)
   have HLT:Hid (n-(i+1)<n-i):=zH (by omega);have HB1:Hid (0<1):=zH (by decide);have HB2:Hid (i+1≤maxLen):=zH (by unfold maxLen;omega);have HB3:Hid ((i+1)*80≤140737488355328):=zH (by omega);have HB4:Hid ((i+1)*8≤140737488355328):=zH (by omega);have hi2:decide (i<n)=true:=decide_eq_true (by omega);have hi3:i<n:=by omega
   clear hi hin;obtain⟨d,hd⟩: ∃ d,ds[i]? =some d:=⟨_,List.getElem?_eq_getElem (by have:=HEN.out;omega)⟩;obtain⟨hC,hM,⟨hR,gR⟩,⟨xs,hO,hOk⟩,hE⟩:=HI;have r0:wr.cell? ⟨N1,i*15+0,none⟩=some (.int .i64 d.kind):=(hR.cell _).trans (HCS.out i d hd 0 (by decide));have r1:wr.cell? ⟨N1,i*15+1,none⟩=some (.int .i64 d.sock):=(hR.cell _).trans (HCS.out i d hd 1 (by decide));have r2:wr.cell? ⟨N1,i*15+2,none⟩=some (.int .i64 d.len):=(hR.cell _).trans (HCS.out i d hd 2 (by decide));have r3:wr.cell? ⟨N1,i*15+3,none⟩=some (.int .u64 d.upto):=(hR.cell _).trans (HCS.out i d hd 3 (by decide));have r4:wr.cell? ⟨N1,i*15+4,none⟩=some (.int .u64 d.at_):=(hR.cell _).trans (HCS.out i d hd 4 (by decide));have r5:wr.cell? ⟨N1,i*15+5,none⟩=some (.slice none 0 0):=(hR.cell _).trans (HCS.out i d hd 5 (by decide));have r6:wr.cell? ⟨N1,i*15+6,none⟩=some (.int .i64 d.cr.quantum):=(hR.cell _).trans (HCS.out i d hd 6 (by decide));have r7:wr.cell? ⟨N1,i*15+7,none⟩=some (.int .i64 d.cr.first):=(hR.cell _).trans (HCS.out i d hd 7 (by decide));have r8:wr.cell? ⟨N1,i*15+8,none⟩=some (.int .i64 d.cr.limit):=(hR.cell _).trans (HCS.out i d hd 8 (by decide));have r9:wr.cell? ⟨N1,i*15+9,none⟩=some (.int .i64 d.cr.flowLimit):=(hR.cell _).trans (HCS.out i d hd 9 (by decide));have r10:wr.cell? ⟨N1,i*15+10,none⟩=some (.int .u64 d.cr.horizon):=(hR.cell _).trans (HCS.out i d hd 10 (by decide))
   have r11:wr.cell? ⟨N1,i*15+11,none⟩=some (.int .u64 d.cr.maxRate):=(hR.cell _).trans (HCS.out i d hd 11 (by decide));have r12:wr.cell? ⟨N1,i*15+12,none⟩=some (.bool d.cr.drop):=(hR.cell _).trans (HCS.out i d hd 12 (by decide));have r13:wr.cell? ⟨N1,i*15+13,none⟩=some (.int .i64 d.cr.cap):=(hR.cell _).trans (HCS.out i d hd 13 (by decide));have r14:wr.cell? ⟨N1,i*15+14,none⟩=some (.int .i64 d.cr.mss):=(hR.cell _).trans (HCS.out i d hd 14 (by decide));simp only[Nat.add_zero]at r0;have hmi:=HMO.out i (by omega);have hdd:=HD.out d (List.mem_of_getElem? hd);have hsk:=HDS.out d (List.mem_of_getElem? hd);have CD:=zH (fun w' g2 hT' h=>do_at b (msF (newM c) ds i) i hmi (by omega) d hdd (.slice none 0 0) g2 T hT0 w' hT' (by rw[hsk];exact⟨rfl, .inl ⟨⟨_,_,rfl⟩,rfl⟩⟩) h);have hrb:=hR.lt;unfold ddv at CD;have hiw:wrap64 ((i:Int)+1)=((i+1:Nat):Int):=by unfold wrap64;omega
   have HCr:=zH hC;have HMr:=zH hM;have HRr:=zH (And.intro hR gR);have HOr:=zH (And.intro hO hOk);have HEr:=zH hE;have HDI:=zH hd;clear hC hM hR gR hO hOk hE hmi hdd hsk hd;obtain⟨Nr,er⟩: ∃ z,wr.heap.size=z:=⟨_,rfl⟩;go_upto_region 8 with fail
   refine wp_region_lit ?_;refine wpList_plain rfl fun K hK=> ?_
   go_simp;refine hK _ _ ?_;clear hK K;refine wpList_plain rfl fun K hK=> ?_
   go_simp;refine hK _ _ ?_;clear hK K;refine wpList_plain rfl fun K hK=> ?_
   go_simp;refine hK _ _ ?_;clear hK K;refine wpList_store_new wr rfl 46 (.tmp 11) (.tmp 28) rfl _ #[.int .i64 d.kind, .int .i64 d.sock, .int .i64 d.len, .int .u64 d.upto, .int .u64 d.at_, .slice none 0 0, .int .i64 d.cr.quantum, .int .i64 d.cr.first, .int .i64 d.cr.limit, .int .i64 d.cr.flowLimit, .int .u64 d.cr.horizon, .int .u64 d.cr.maxRate, .bool d.cr.drop, .int .i64 d.cr.cap, .int .i64 d.cr.mss] Nr er rfl rfl (by kernel_rfl) rfl (by simp[Value.oneCell']) ?_;refine wpList_nil ?_;refine q_named (fun W=>At W Nr 46 #[.int .i64 d.kind, .int .i64 d.sock, .int .i64 d.len, .int .u64 d.upto, .int .u64 d.at_, .slice none 0 0, .int .i64 d.cr.quantum, .int .i64 d.cr.first, .int .i64 d.cr.limit, .int .i64 d.cr.flowLimit, .int .u64 d.cr.horizon, .int .u64 d.cr.maxRate, .bool d.cr.drop, .int .i64 d.cr.cap, .int .i64 d.cr.mss]∧Chg wr W g' g' T T) ⟨by rw[←er];exact At.made wr _ _,(Chg.refl HCr.out.tidy T T).alloc _⟩ (fun W hW=> ?_);obtain⟨Q,C⟩:=hW;have q0:=Q.ce 0;have q1:=Q.ce 1;have q2:=Q.ce 2;have q3:=Q.ce 3;have q4:=Q.ce 4;have q5:=Q.ce 5;have q6:=Q.ce 6;have q7:=Q.ce 7;have q8:=Q.ce 8;have q9:=Q.ce 9;have q10:=Q.ce 10;have q11:=Q.ce 11;have q12:=Q.ce 12;have q13:=Q.ce 13;have q14:=Q.ce 14;have HC1:=zH (HCr.out.trans (C.mono (hi':=T+90) (Nat.le_refl _) (by omega)));have HM1:=zH (HMr.out.chg C (.inr (Nat.le_refl _)));have HR1:=zH (And.intro (HRr.out.1.chg C (by rw[HRr.out.2];omega)) HRr.out.2);have HO1:=zH (And.intro (HOr.out.1.chg C (by omega)) (HOr.out.2.chg C hT0))
   have HE1:=zH (HEr.out.chg C (by omega));clear Q C HCr HMr HRr HOr HEr er hrb;go_wp2_with fail
   refine(CD.out _ _ HC1.out.tidy HM1.out).mono ?_;rintro e w5 ⟨vo,g5,rfl,C5,M5,O5⟩;have HR5:=zH (And.intro (HR1.out.1.chg C5 (by rw[HR1.out.2];omega)) ((C5.old _ HR1.out.1.lt).trans HR1.out.2));have HO5:=zH (And.intro (HO1.out.1.chg C5 (by omega)) (HO1.out.2.chg C5 hT0));have HE5:=zH (HE1.out.chg C5 (by omega));have HC5:=zH (HC1.out.trans (C5.mono (hi':=T+90) (Nat.le_refl _) (by omega)));have HM5:=zH M5;obtain⟨res,eres⟩: ∃ r,doF (msF (newM c) ds i) d=r:=⟨_,rfl⟩;rw[eres]at O5 ⊢;obtain⟨vd,vx,vf,rfl,D5,S5,F5⟩:=O5;obtain⟨ad,nd,cd,rfl⟩:=D5.sl;obtain⟨ax,cx,rfl,_,_⟩:=S5.cap_;obtain⟨af,cf,rfl,_,_⟩:=F5.cap_;have HD5:=zH D5;clear C5 M5 D5 S5 F5 HR1 HO1 HE1 HC1 HM1 CD q0 q1 q2 q3 q4 q5 q6 q7 q8 q9 q10 q11 q12 q13 q14;go_upto_region 10 with fail
   obtain⟨N5,e5⟩: ∃ z,w5.heap.size=z:=⟨_,rfl⟩;rw[e5];refine wp_named (fun W2=>At W2 N5 41 #[.slice ad nd cd, .slice ax res.2.2.drop.length cx, .slice af res.2.2.fates.length cf, .int .u64 (res.2.2.dog:Nat)]∧Chg w5 W2 g5 g5 T T) ⟨by rw[←e5];exact At.made _ _ _,(Chg.refl HC5.out.tidy T T).alloc _⟩ (fun W2 hW2=> ?_);obtain⟨Q,C⟩:=hW2;have q0:=Q.ce 0;have q1:=Q.ce 1;have q2:=Q.ce 2;have q3:=Q.ce 3;have HC6:=zH (HC5.out.trans (C.mono (hi':=T+90) (Nat.le_refl _) (by omega)));have HM6:=zH (HM5.out.chg C (.inr (Nat.le_refl _)));have HR6:=zH (And.intro (HR5.out.1.chg C (by rw[HR5.out.2];omega)) HR5.out.2);have HO6:=zH (And.intro (HO5.out.1.chg C (by omega)) (HO5.out.2.chg C hT0));have HE6:=zH (HE5.out.chg C (by omega));have HD6:=zH (HD5.out.chg C hT0);clear Q C HC5 HM5 HR5 HO5 HE5 HD5 e5;obtain⟨i0,HI0⟩:=infoOut;obtain⟨i1,HI1⟩:=infoErr;obtain⟨N6,e6⟩: ∃ z,W2.heap.size=z:=⟨_,rfl⟩;have B6:At (W2.alloc (.cells #[.slice ad nd cd, .slice ax res.2.2.drop.length cx, .slice af res.2.2.fates.length cf, .int .u64 (res.2.2.dog:Nat)] 41)) N6 41 #[.slice ad nd cd, .slice ax res.2.2.drop.length cx, .slice af res.2.2.fates.length cf, .int .u64 (res.2.2.dog:Nat)]:=by rw[←e6];exact At.made _ _ _
   refine wp_region_lit ?_;refine wpList_plain rfl fun K hK=> ?_
   go_simp;refine hK _ _ ?_;clear hK K;refine wpList_plain rfl fun K hK=> ?_
   go_simp;refine hK _ _ ?_;clear hK K;refine wpList_plain rfl fun K hK=> ?_
   go_simp;refine hK _ _ ?_;clear hK K;refine wpList_append_sli _ rfl _ _ 84 rfl g5 (T+80) 41 i0 _ 4 80 Tryz.underlying84 HI0.out.1 HI0.out.2.1 HI0.out.2.2.1 HI0.out.2.2.2 rfl (by decide) _ i xs rfl (HO6.out.1.alloc _) (HC6.out.tidy.alloc _) ⟨N6,0,none⟩ 1 1 [.slice ad nd cd, .slice ax res.2.2.drop.length cx, .slice af res.2.2.fates.length cf, .int .u64 (res.2.2.dog:Nat)] rfl rfl (World.news_of_block B6) (by simp[Value.oneCell']) HB1.out HB2.out HB3.out ?_;intro b8 o8 c8 w8 g8 S8 h8;simp only[Act.put];have CW:=(Chg.refl HC6.out.tidy T T).alloc (.cells #[.slice ad nd cd, .slice ax res.2.2.drop.length cx, .slice af res.2.2.fates.length cf, .int .u64 (res.2.2.dog:Nat)] 41);have C8:=(CW.mono (lo':=T) (hi':=T+90) (Nat.le_refl _) (by omega)).trans (h8.mono (lo':=T) (hi':=T+90) (by omega) (by omega));have HC8:=zH (HC6.out.trans C8);have HM8:=zH ((HM6.out.chg CW (.inr (Nat.le_refl _))).chg h8 (.inl (by omega)));have HR8:=zH (And.intro (HR6.out.1.chg C8 (by rw[HR6.out.2];omega)) ((C8.old _ HR6.out.1.lt).trans HR6.out.2));have HK8:=zH (HO6.out.2.chg C8 hT0);have HE8:=zH ((HE6.out.alloc (.cells #[.slice ad nd cd, .slice ax res.2.2.drop.length cx, .slice af res.2.2.fates.length cf, .int .u64 (res.2.2.dog:Nat)] 41)).chg h8 (by omega));have HD8:=zH (HD6.out.chg C8 hT0);have HS8:=zH S8;clear S8 h8 C8 CW HC6 HM6 HR6 HO6 HE6 HD6 B6 q0 q1 q2 q3 e6;obtain⟨N8,e8⟩: ∃ z,w8.heap.size=z:=⟨_,rfl⟩;have B8:At (w8.alloc (.cells #[.int .i64 (res.1:Nat)] 28)) N8 28 #[.int .i64 (res.1:Nat)]:=by rw[←e8];exact At.made _ _ _
   refine wpList_plain rfl fun K hK=> ?_
   go_simp;refine hK _ _ ?_;clear hK K;refine wpList_plain rfl fun K hK=> ?_
   go_simp;refine hK _ _ ?_;clear hK K;refine wpList_plain rfl fun K hK=> ?_
   go_simp;refine hK _ _ ?_;clear hK K;refine wpList_append_sli _ rfl _ _ 85 rfl g8 (T+81) 28 i1 _ 1 8 Tryz.underlying85 HI1.out.1 HI1.out.2.1 HI1.out.2.2.1 HI1.out.2.2.2 rfl (by decide) _ i (errF (newM c) ds i) rfl (HE8.out.alloc _) (HC8.out.tidy.alloc _) ⟨N8,0,none⟩ 1 1 [.int .i64 (res.1:Nat)] rfl rfl (World.news_of_block B8) (by simp[Value.oneCell']) HB1.out HB2.out HB4.out ?_;intro b9 o9 c9 w9 g9 S9 h9;simp only[Act.put];have CW:=(Chg.refl HC8.out.tidy T T).alloc (.cells #[.int .i64 (res.1:Nat)] 28);have C9:=(CW.mono (lo':=T) (hi':=T+90) (Nat.le_refl _) (by omega)).trans (h9.mono (lo':=T) (hi':=T+90) (by omega) (by omega));have HC9:=zH (HC8.out.trans C9);have HM9:=zH ((HM8.out.chg CW (.inr (Nat.le_refl _))).chg h9 (.inl (by omega)));have HR9:=zH (And.intro (HR8.out.1.chg C9 (by rw[HR8.out.2];omega)) ((C9.old _ HR8.out.1.lt).trans HR8.out.2));have HK9:=zH (HK8.out.chg C9 hT0);have HD9:=zH (HD8.out.chg C9 hT0);have HS9:=zH ((HS8.out.alloc (.cells #[.int .i64 (res.1:Nat)] 28)).chg h9 (by omega));have HF9:=zH S9;clear S9 h9 C9 CW HC8 HM8 HR8 HK8 HE8 HD8 HS8 B8 e8;refine wpList_plain rfl fun K hK=> ?_
   go_simp;refine hK _ _ ?_;clear hK K;refine wpList_plain rfl fun K hK=> ?_
   go_simp;refine hK _ _ ?_;clear hK K;refine wpList_nil ?_;have HRES:=zH eres;clear eres;go_wp2_with fail
   go_roundw
   case rel=>
    refine⟨i+1,g9,by rw[hiw],hi3,HC9.out, ?_,HR9.out,⟨_,HS9.out, ?_⟩, ?_⟩
    ·rw[msF_succ _ _ HDI.out]
     exact HM9.out
    ·exact HK9.out.snoc HDI.out (by rw[HRES.out];exact HD9.out)
    ·rw[errF_succ _ _ HDI.out,HRES.out]
     exact HF9.out
   case measure=>
    rw[hiw];show n-((i+1:Nat):Int).toNat<n-((i:Nat):Int).toNat
    rw[Int.toNat_natCast,Int.toNat_natCast];exact HLT.out
end
section
open Go.RowKit Go.Lib
def plC:CF:={ quantum:=3000,first:=15000,limit:=100,flowLimit:=50,horizon:=10000000000,maxRate:=0,drop:=false,cap:=100000,mss:=1000 }
theorem plC_ok:plC.ok:=by constructor<;>decide
def dd0 (k l:Int):DD:=⟨k,0,l,0,0,[],⟨0,0,0,0,0,0,false,0,0⟩⟩
def awD:List DD:=[dd0 1 0,dd0 2 500,dd0 6 0]
def awT:Nat×List Int:=let r:=doF (msF (newM plC) awD 2) (dd0 6 0);(r.1,r.2.2.dep.map fun x=>(x.len:Int))
theorem aw_true:awT=(0,[500]):=by kernel_rfl
def awC:Array Value:= #[.int .i64 1, .int .i64 0, .int .i64 0, .int .u64 0, .int .u64 0, .slice none 0 0, .int .i64 0, .int .i64 0, .int .i64 0, .int .i64 0, .int .u64 0, .int .u64 0, .bool false, .int .i64 0, .int .i64 0, .int .i64 2, .int .i64 0, .int .i64 500, .int .u64 0, .int .u64 0, .slice none 0 0, .int .i64 0, .int .i64 0, .int .i64 0, .int .i64 0, .int .u64 0, .int .u64 0, .bool false, .int .i64 0, .int .i64 0, .int .i64 6, .int .i64 0, .int .i64 0, .int .u64 0, .int .u64 0, .slice none 0 0, .int .i64 0, .int .i64 0, .int .i64 0, .int .i64 0, .int .u64 0, .int .u64 0, .bool false, .int .i64 0, .int .i64 0]
theorem awC_at (i:Nat) (d:DD) (hd:awD[i]? =some d) (q:Nat) (hq:q<15):awC[i*15+q]? =(ddc d (.slice none 0 0))[q]? :=by
 rcases i with _ | _ | _ | i
 ·cases hd
  match q,hq with
  | 0,_=>rfl
  | 1,_=>rfl
  | 2,_=>rfl
  | 3,_=>rfl
  | 4,_=>rfl
  | 5,_=>rfl
  | 6,_=>rfl
  | 7,_=>rfl
  | 8,_=>rfl
  | 9,_=>rfl
  | 10,_=>rfl
  | 11,_=>rfl
  | 12,_=>rfl
  | 13,_=>rfl
  | 14,_=>rfl
 ·cases hd
  match q,hq with
  | 0,_=>rfl
  | 1,_=>rfl
  | 2,_=>rfl
  | 3,_=>rfl
  | 4,_=>rfl
  | 5,_=>rfl
  | 6,_=>rfl
  | 7,_=>rfl
  | 8,_=>rfl
  | 9,_=>rfl
  | 10,_=>rfl
  | 11,_=>rfl
  | 12,_=>rfl
  | 13,_=>rfl
  | 14,_=>rfl
 ·cases hd
  match q,hq with
  | 0,_=>rfl
  | 1,_=>rfl
  | 2,_=>rfl
  | 3,_=>rfl
  | 4,_=>rfl
  | 5,_=>rfl
  | 6,_=>rfl
  | 7,_=>rfl
  | 8,_=>rfl
  | 9,_=>rfl
  | 10,_=>rfl
  | 11,_=>rfl
  | 12,_=>rfl
  | 13,_=>rfl
  | 14,_=>rfl
 ·cases hd
theorem plain_any (w:World):Calls Tryz.prog 21 #[] w fun e w'=>e= .returned (cfv plC)∧Below w.heap.size w w':=by
 obtain⟨N0,e0⟩: ∃ z,w.heap.size=z:=⟨_,rfl⟩;go_enter Tryz.func21,Tryz.ntmps21
 go_wp2_with fail
 refine q_named (fun W=>At W N0 24 (cfl plC).toArray∧Below w.heap.size w W) ⟨by rw[←e0];exact At.made w _ _,(Below.refl _ w).alloc (Nat.le_refl _) _⟩ (fun W hW=> ?_);have q0:=hW.1.ce 0;have q1:=hW.1.ce 1;have q2:=hW.1.ce 2;have q3:=hW.1.ce 3;have q4:=hW.1.ce 4;have q5:=hW.1.ce 5;have q6:=hW.1.ce 6;have q7:=hW.1.ce 7;have q8:=hW.1.ce 8;refine bodyPost_ret (v:=cfv plC) ?_ rfl ⟨rfl,hW.2⟩;simp[results,Tryz.f21,go_sem,q0,q1,q2,q3,q4,q5,q6,q7,q8,cfv,plC]
theorem awake_any (w:World):Calls Tryz.prog 10 #[] w fun e w'=>e= .returned (.bool true)∧Below w.heap.size w w':=by
 obtain⟨g,eg⟩: ∃ g:Nat→Nat,(fun _=>0)=g:=⟨_,rfl⟩;have hT:Tidy w g:=fun b _=>by rw[←eg]
 have CP:=zH (plain_any w);unfold cfv at CP;go_enter Tryz.func10,Tryz.ntmps10
 go_upto_region 1 with fail
 refine wp_region_lit ?_;refine wpList_plain rfl fun K hK=> ?_
 go_simp;refine CP.out.mono ?_;rintro e w1 ⟨rfl,h1⟩;refine hK _ _ ?_;clear hK K;refine wpList_plain rfl fun K hK=> ?_
 go_simp;refine hK _ _ ?_;clear hK K;refine wpList_plain rfl fun K hK=> ?_
 go_simp;refine hK _ _ ?_;clear hK K;refine wpList_plain rfl fun K hK=> ?_
 go_simp;refine hK _ _ ?_;clear hK K;refine wpList_plain rfl fun K hK=> ?_
 go_simp;refine hK _ _ ?_;clear hK K;refine wpList_plain rfl fun K hK=> ?_
 go_simp;have CR:=run_any plC plC_ok awD 3 rfl (by decide) (by intro d hd;simp only[awD,List.mem_cons,List.not_mem_nil,or_false]at hd;rcases hd with rfl | rfl | rfl<;>constructor<;>decide) (by intro d hd;simp only[awD,List.mem_cons,List.not_mem_nil,or_false]at hd;rcases hd with rfl | rfl | rfl<;>rfl) w1.heap.size 3 (by decide) awC awC_at g 1 (by decide) (w1.alloc (.cells awC 46)) (fun b _=>by rw[←eg]) (At.made w1 _ _) (by rw[←eg]);unfold cfv at CR;refine CR.mono ?_;rintro e w2 ⟨v8,v9,b,g2,rfl,R2⟩;have hb:Below w.heap.size w w2:=h1.trans (((Below.refl w.heap.size w1).alloc h1.size (.cells awC 46)).trans ((R2.ch.plain (by intro b;rw[←eg];exact Nat.one_pos)).mono (by rw[alloc_size];have:=h1.size;omega)));obtain⟨_,_,_,⟨xs,hO,hOk⟩,hE⟩:=R2;have hsd:awD[2]? =some (dd0 6 0):=rfl;obtain⟨vd,hx,hD⟩:=hOk.2 2 _ (by decide) hsd;have t1:(doF (msF (newM plC) awD 2) (dd0 6 0)).1=0:=congrArg Prod.fst aw_true;have t2:(doF (msF (newM plC) awD 2) (dd0 6 0)).2.2.dep.map (fun x=>(x.len:Int))=[500]:=congrArg Prod.snd aw_true;have hE2:(errF (newM plC) awD 3)[2]? =some (.int .i64 0):=by
  rw[errF_succ (newM plC) awD hsd,t1];rfl
 rcases hO.form with⟨_,e,_⟩ | ⟨b8,o8,c8,rfl,_⟩
 ·cases e
 rcases hE.form with⟨_,e,_⟩ | ⟨b9,o9,c9,rfl,_⟩
 ·cases e
 have k8:=(hO.cells (2*4) (by decide)).trans hx;have k9:=(hE.cells 2 (by decide)).trans hE2;generalize(doF (msF (newM plC) awD 2) (dd0 6 0)).2.2.dep=dep at hD t2
 match dep,hD,t2 with
 | [],_,t2=>cases t2
 | _::_::_,hD,_=>cases hD
 | [x],⟨bd,evd,hx5⟩,t2=>
  rw[evd]at k8;have k5:=hx5.1.cell 2;have t3:(x.len:Int)=500:=by simpa using t2
  simp only[sga,List.getElem?_toArray,List.getElem?_cons_zero,List.getElem?_cons_succ,t3]at k5;clear CR hO hOk hE hD t1 t2 hE2 hx5 hx;have HB:=zH hb;clear hb h1;refine hK _ _ ?_;clear hK K;simp only[Nat.reduceMul]at k8;go_wp2_with fail
  refine bodyPost_ret (v:= .bool true) ?_ rfl ⟨rfl,HB.out⟩;simp[results,Tryz.f10,go_sem]
end
end Go.Proofs.YtojgokiobdpclaaGreat
