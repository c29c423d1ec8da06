import Derived.Test.YtojgokiobdpclaaGreatP33
namespace Go.Proofs.YtojgokiobdpclaaGreat
set_option linter.unusedVariables false
set_option linter.unusedSimpArgs false
set_option maxRecDepth 8000
set_option maxHeartbeats 8000000
section
open Go.RowKit Go.Lib
theorem inv_flow_drop {q:FQ} (h:q.inv) {s:Nat} (hs:s∈q.fresh++q.old) {f f':FL} (hf:q.fl s=some f) (hok:f'.ok) (he:f.segs=[]) (hsg:f'.segs=f.segs:=by rfl):({ q with fl:=putF q.fl s (some f'),fresh:=delL q.fresh s,old:=delL q.old s }:FQ).inv:=
 inv_drop (inv_flow h hs hf hok hsg) hs (putF_at _ _ _) (by rw[hsg];exact he)
def sgo:Option SG→Value
 | none=> .tuple #[.agg #[.int .i64 0, .int .u64 0, .int .i64 0, .int .u64 0, .bool false], .bool false]
 | some x=> .tuple #[sgv x, .bool true]
def RatesAt (w:World) (g:Nat→Nat) (T rb:Nat) (rt:Nat→Nat):Prop:=(g rb<T∨T+25≤g rb)∧rb<w.heap.size∧ ∀ s,s<8→w.cell? ⟨rb,s,none⟩=some (.int .u64 (rt s:Nat))
theorem RatesAt.chg {w w':World} {g g':Nat→Nat} {T rb lo hi:Nat} {rt:Nat→Nat} (h:RatesAt w g T rb rt) (c:Chg w w' g g' lo hi) (h1:T≤lo) (h2:hi≤T+25):RatesAt w' g' T rb rt:=by
 obtain⟨a,b,d⟩:=h;refine⟨by rw[c.old rb b];exact a,Nat.lt_of_lt_of_le b c.size,fun s hs=> ?_⟩;have:=c.kept rb b (by omega);rw[←d s hs];unfold World.cell?;rw[show w'.heap[(⟨rb,s,none⟩:Addr).block]? =w.heap[(⟨rb,s,none⟩:Addr).block]? from this]
structure DqI (N0:Nat) (w:World) (g0:Nat→Nat) (T b bl bt rb now:Nat) (rt:Nat→Nat) (R:Option SG×FQ) (k:Nat) (g:Nat→Nat) (fp:Nat→Option Nat) (q:FQ) (wr:World):Prop where
 c:Chg w wr g0 g T (T+25)
 n:FqIn wr g T b fp bl bt q
 i:q.inv
 r:deqN now rt (k+1) q=some R
 a:At wr N0 48 #[.int .i64 0, .int .u64 0, .int .i64 0, .int .u64 0, .bool false]
 t:RatesAt wr g T rb rt
 z:g N0=0
theorem DqI.below {N0:Nat} {w:World} {g0:Nat→Nat} {T b bl bt rb now:Nat} {rt:Nat→Nat} {R:Option SG×FQ} {k:Nat} {g:Nat→Nat} {fp:Nat→Option Nat} {q:FQ} {wr w':World} (h:DqI N0 w g0 T b bl bt rb now rt R k g fp q wr) (hB:Below wr.heap.size wr w'):DqI N0 w g0 T b bl bt rb now rt R k g fp q w':=
 ⟨h.c.below hB,h.n.below hB,h.i,h.r,h.a.below hB h.a.lt,h.t.chg ((Chg.refl h.c.tidy T T).below hB) (Nat.le_refl _) (by omega),h.z⟩
theorem DqI.step {N0:Nat} {w:World} {g0:Nat→Nat} {T b bl bt rb now:Nat} {rt:Nat→Nat} {R:Option SG×FQ} {k k':Nat} {g g':Nat→Nat} {fp fp':Nat→Option Nat} {q q':FQ} {wr w':World} (h:DqI N0 w g0 T b bl bt rb now rt R k g fp q wr) (hT0:0<T) (c:Chg wr w' g g' T (T+25)) (n:FqIn w' g' T b fp' bl bt q') (i:q'.inv) (r:deqN now rt (k'+1) q'=some R):DqI N0 w g0 T b bl bt rb now rt R k' g' fp' q' w':=
 ⟨h.c.trans c,n,i,r,h.a.chg c (by have:=h.z;omega),h.t.chg c (Nat.le_refl _) (Nat.le_refl _),(c.old N0 h.a.lt).trans h.z⟩
theorem fqdeq_any (b now rb rc:Nat) (rt:Nat→Nat) (hnow:now<18446744073709551616) (hrt: ∀ s,rt s<18446744073709551616) (fp:Nat→Option Nat) (bl bt:Nat) (q:FQ) (hi:q.inv) (k:Nat) (R:Option SG×FQ) (hR:deqN now rt (k+1) (dueQ q now)=some R) (g:Nat→Nat) (T:Nat) (hT0:0<T) (w:World) (hT:Tidy w g) (h:FqIn w g T b fp bl bt q) (hrb:RatesAt w g T rb rt):
  Calls Tryz.prog 51 #[.pointer (some ⟨b,0,none⟩), .int .u64 now, .slice (some ⟨rb,0,none⟩) 8 rc] w fun e w'=>e= .returned (sgo R.1)∧ ∃ g' fp',Chg w w' g g' T (T+25)∧FqIn w' g' T b fp' bl bt R.2∧R.2.inv:=by
 have CDu:=zH (fun w'=>fqdue_any b now fp bl bt q hi.ok g T hT0 w');obtain⟨N0,e0⟩: ∃ z,w.heap.size=z:=⟨_,rfl⟩;have gN:g N0=0:=hT _ (by omega);have hb:=h.own.1.lt;have HH:=zH h;have HT:=zH hT;have HI:=zH (show(dueQ q now).inv from dueI_inv hi _);have HR:=zH hR;have HRB:=zH hrb;clear h hT hi hR hrb;go_enter Tryz.func51,Tryz.ntmps51
 go_wp2_with fail
 go_step3
 go_wp2_with fail
 refine(CDu.out _ (HT.out.alloc _) (HH.out.below ((Below.refl _ w).alloc (Nat.le_refl _) _))).mono ?_;rintro e w1 ⟨⟨v,rfl⟩,g1,C1,N1⟩;have hD0:DqI N0 w g T b bl bt rb now rt R k g1 fp (dueQ q now) w1:=by
  refine⟨((Chg.refl HT.out T (T+25)).alloc _).trans C1,N1,HI.out,HR.out, ?_, ?_,(C1.old N0 (by rw[World.size_alloc];omega)).trans gN⟩
  ·rw[←e0]
   exact(At.made w _ _).chg C1 (by rw[e0,gN];omega)
  ·exact(HRB.out.chg ((Chg.refl HT.out T (T+25)).alloc _) (Nat.le_refl _) (Nat.le_refl _)).chg C1 (Nat.le_refl _) (Nat.le_refl _)
 have HD0:=zH hD0;clear hD0 C1 N1 CDu;go_wp2_with fail
 go_step3
 go_wp2_with fail
 go_loopg [8] k (fun gk _ wr=> ∃ g' fp' q',DqI N0 w g T b bl bt rb now rt R gk g' fp' q' wr)
 case atStart=>exact⟨_,_,_,HD0.out⟩
 case round=>
  obtain⟨g',fp',q',hD⟩:=hrel;have hlen:=hD.i.ok.len;have CH:=zH (lshead_any bl q'.fresh q'.old (by omega) (by omega) g' (T+17) wr hD.n.ls);have c17:=hD.n.own.1.ce 17;have hN0:N0<wr.heap.size∧g' N0=0:=⟨hD.a.lt,hD.z⟩;cases hh:(lall q'.fresh q'.old).head? with
  | none=>
   rw[hh]at CH;unfold headV at CH;simp only at CH
   have HRR:=zH (deqN_inr (r:=(none,q')) (by unfold stepD;rw[hh]) hD.r);have HDD:=zH hD;clear hD hh;go_wp2_with fail
   refine CH.out.mono ?_;rintro e w2 ⟨rfl,hB⟩;have hD2:=HDD.out.below hB;have y0:=hD2.a.cell 0;have y1:=hD2.a.cell 1;have y2:=hD2.a.cell 2;have y3:=hD2.a.cell 3;have y4:=hD2.a.cell 4;have v0:=hD2.a.free 0;have v1:=hD2.a.free 1;have v2:=hD2.a.free 2;have v3:=hD2.a.free 3;have v4:=hD2.a.free 4;simp only[List.getElem?_toArray,List.getElem?_cons_zero,List.getElem?_cons_succ]at y0 y1 y2 y3 y4;have A5:=((((hD2.a.set (u:= .int .i64 0) 0).set (u:= .int .u64 0) 1).set (u:= .int .i64 0) 2).set (u:= .int .u64 0) 3).set (u:= .bool false) 4;have d0:=A5.cell 0;have d1:=A5.cell 1;have d2:=A5.cell 2;have d3:=A5.cell 3;have d4:=A5.cell 4;simp only[List.setIfInBounds_toArray,List.set_cons_zero,List.set_cons_succ,List.getElem?_toArray,List.getElem?_cons_zero,List.getElem?_cons_succ]at d0 d1 d2 d3 d4;have G5:=((((grown_set w2 N0 0 (.int .i64 0)).trans (grown_set _ N0 1 (.int .u64 0))).trans (grown_set _ N0 2 (.int .i64 0))).trans (grown_set _ N0 3 (.int .u64 0))).trans (grown_set _ N0 4 (.bool false));have gN2:g' N0=0:=hN0.2;have HC:=zH (hD2.c.by G5 (fun k hk hlt=>by cases hk;omega));have HN:=zH (hD2.n.other G5 (fun k hk=>by cases hk;left;omega));have HIV:=zH hD2.i;have D0:=zH d0;have D1:=zH d1;have D2:=zH d2;have D3:=zH d3;have D4:=zH d4;clear hD2 hB A5 G5 d0 d1 d2 d3 d4;go_wp2_with fail
   (try rw[Exit.noGoto_ret])
   refine bodyPost_ret (v:=sgo none) ?_ rfl ⟨by rw[HRR.out],g',fp',HC.out, ?_, ?_⟩
   ·simp[results,Tryz.f51,go_sem,D0.out,D1.out,D2.out,D3.out,D4.out,sgo]
   ·rw[HRR.out];exact HN.out
   ·rw[HRR.out];exact HIV.out
  | some sf=>
   obtain⟨s,fr⟩:=sf;have hs:=head_mem hh;have hs8:=hD.i.ok.lt s (List.mem_append_left _ hs);obtain⟨f,hf⟩:=hD.i.there s (List.mem_append_left _ hs);rcases hD.n.one hs8 with⟨_,e2⟩ | ⟨p,f2,hp,hf2,hfl⟩
   ·rw[hf]at e2;cases e2
   rw[hf]at hf2;cases hf2
   have hfo:=hD.i.fl s f hf;rw[hh]at CH;unfold headV at CH;simp only at CH
   have STEP:Hid (stepD q' now rt=if f.credit≤0 then .inl { q' with fl:=putF q'.fl s (some { f with credit:=f.credit+q'.c.quantum }),fresh:=delL q'.fresh s,old:=delL q'.old s++[s] }
     else match f.segs with
      | []=>if(fr&&(lall q'.fresh q'.old).any (fun x=> !x.2))=true then .inl { q' with fresh:=delL q'.fresh s,old:=delL q'.old s++[s] }
       else .inl { q' with fl:=putF q'.fl s (some { f with since:=now }),fresh:=delL q'.fresh s,old:=delL q'.old s }
      | x::r=>if now<timeF f then .inl { q' with fresh:=delL q'.fresh s,old:=delL q'.old s,waits:=insK (timeF f,s) q'.waits }
       else .inr (some x,sendQ q' s f x r now (rt s))):=by
    refine zH ?_;unfold stepD;rw[hh];simp only
    rw[hf];rfl
   have CBk:=zH (fun g2 w'=>lsback_any bl (s,fr) hs8 q'.fresh q'.old (by omega) (by omega) g2 (T+17) (by omega) w');have CDr:=zH (fun g2 w'=>lsdrop_any bl (s,fr) q'.fresh q'.old (by omega) (by omega) g2 (T+17) (by omega) w');have HH2:=zH hh;have HS:=zH hs;have HF:=zH hf;have HFO:=zH hfo;have HP:=zH hp;have HDD:=zH hD;have hs8':(s:Int)<8:=by omega
   obtain⟨v,k1,k2⟩:=hfl;have gp:=k1.2;have gb:=hD.n.own.2;have hbp:b≠p:=by rintro rfl;omega
   have hpb:p≠b:=fun e=>hbp e.symm
   have HK1:=zH k1;have HK2:=zH k2;clear hh hs hf hfo hp hD k1 k2;by_cases hc:f.credit≤0
   ·obtain⟨k',hk',hR'⟩:=deqN_inl (by rw[STEP.out,if_pos hc]) HDD.out.r
    have HR2:=zH hR';clear STEP hR';go_wp2_with fail
    refine CH.out.mono ?_;rintro e w2 ⟨rfl,hB⟩;have hD2:=HDD.out.below hB;have k1:=HK1.out.below hB;have k2:=HK2.out.below hB;have cs:=hD2.n.flow hs8;rw[HP.out]at cs;simp only[pval,Option.map_some]at cs;have e0:=k1.1.ce 0;have ef0:=k1.1.free 0;have q0:=hD2.n.own.1.ce 0;have ew:wrap64 (f.credit+(q'.c.quantum:Int))=f.credit+q'.c.quantum:=by have:=HFO.out.c1;have:=hD2.i.cf.q2;unfold wrap64;omega
    have PU:=Put.set (u:= .int .i64 (f.credit+q'.c.quantum)) k1.1 0;have TU:=hD2.n.turn (f':={ f with credit:=f.credit+q'.c.quantum }) hD2.c.tidy hs8 HP.out PU ⟨v,k1.put PU,k2.set_other _ (by show g' p≠T+1+2*s+1;omega)⟩;have HT1:=zH TU.1;have HT2:=zH TU.2;have HD2:=zH hD2;clear hD2 hB k1 k2 PU TU;go_wp2_with fail
    go_region
    refine q_named (fun W=>Chg w2 W g' g' T (T+25)∧FqIn W g' T b fp' bl bt { q' with fl:=putF q'.fl s (some { f with credit:=f.credit+q'.c.quantum }) }) ⟨(HT1.out.mono (by omega) (by omega)).drewN _,HT2.out.drewN _⟩ (fun W hW=> ?_);obtain⟨CW,NW⟩:=hW;have d17:=NW.own.1.ce 17;have HCW:=zH CW;have HNW:=zH NW;clear CW NW HT1 HT2 cs e0 ef0 q0 ew;go_wp2_with fail
    refine(CBk.out g' _ HCW.out.tidy HNW.out.ls HH2.out).mono ?_;rintro e w4 ⟨rfl,g4,C4,L4⟩;have D4:=zH (HD2.out.step hT0 (HCW.out.trans (C4.mono (by omega) (by omega))) (HNW.out.lists_ C4 L4) (inv_move (inv_flow HD2.out.i HS.out HF.out (HFO.out.more HD2.out.i.cf.q2 hc) rfl) HS.out) HR2.out);clear C4 L4;go_wp2_with fail
    go_roundg k'
    case measure=>exact hk'
    case rel=>exact⟨_,_,_,D4.out⟩
   ·cases hsg:f.segs with
    | nil=>
     have COl:=zH (fun w'=>fqold_any b fp' bl bt q' (by omega) (by omega) g' T w');cases fr with
     | true=>
      cases hol:(lall q'.fresh q'.old).any (fun x=> !x.2)with
      | true=>
       rw[hol]at COl;obtain⟨k',hk',hR'⟩:=deqN_inl (by rw[STEP.out,if_neg hc,hsg];simp only;rw[hol];exact if_pos rfl) HDD.out.r;have HR2:=zH hR';clear STEP hR' hol;go_wp2_with fail
       refine CH.out.mono ?_;rintro e w2 ⟨rfl,hB⟩;have hD2:=HDD.out.below hB;have k1:=HK1.out.below hB;have k2:=HK2.out.below hB;have cs:=hD2.n.flow hs8;rw[HP.out]at cs;simp only[pval,Option.map_some]at cs;have e0:=k1.1.ce 0;obtain⟨sa,scap,rfl,_⟩:=k2.cap_;have e3:=k1.1.ce 3;rw[hsg]at e3;simp only[List.length_nil]at e3;have d17:=hD2.n.own.1.ce 17;have HD2:=zH hD2;have HL1:=zH k1;have HL2:=zH k2;clear hD2 hB k1 k2;go_wp2_with fail
       refine(COl.out w2 HD2.out.n).mono ?_;rintro e w3 ⟨rfl,hB⟩;have hD3:=HD2.out.below hB;have c17':w3.cell? ⟨b,17,none⟩=some (.pointer (some ⟨bl,0,none⟩)):=hD3.n.own.1.cell 17;have l1:=HL1.out.below hB;have e3':w3.cell? ⟨p,3,none⟩=some (.slice sa (0:Nat) scap):=by have:=l1.1.cell 3;simpa [hsg]using this
       have HD3:=zH hD3;clear hD3 hB l1 e0 e3 d17 cs;go_wp2_with fail
       refine(CBk.out g' _ HD3.out.c.tidy HD3.out.n.ls HH2.out).mono ?_;rintro e w4 ⟨rfl,g4,C4,L4⟩;have D4:=zH (HD3.out.step hT0 (C4.mono (by omega) (by omega)) (HD3.out.n.lists_ C4 L4) (inv_move HD3.out.i HS.out) HR2.out);clear C4 L4;go_wp2_with fail
       go_roundg k'
       case measure=>exact hk'
       case rel=>exact⟨_,_,_,D4.out⟩
      | false=>
       rw[hol]at COl;obtain⟨k',hk',hR'⟩:=deqN_inl (q2:={ q' with fl:=putF q'.fl s (some { f with since:=now }),fresh:=delL q'.fresh s,old:=delL q'.old s }) (by rw[STEP.out,if_neg hc,hsg];simp only;rw[hol];exact if_neg (by simp)) HDD.out.r;have HR2:=zH hR';clear STEP hR' hol;go_wp2_with fail
       refine CH.out.mono ?_;rintro e w2 ⟨rfl,hB⟩;have hD2:=HDD.out.below hB;have k1:=HK1.out.below hB;have k2:=HK2.out.below hB;have cs:=hD2.n.flow hs8;rw[HP.out]at cs;simp only[pval,Option.map_some]at cs;have e0:=k1.1.ce 0;obtain⟨sa,scap,rfl,_⟩:=k2.cap_;have e3:=k1.1.ce 3;rw[hsg]at e3;simp only[List.length_nil]at e3;have d17:=hD2.n.own.1.ce 17;have HD2:=zH hD2;have HL1:=zH k1;have HL2:=zH k2;clear hD2 hB k1 k2;go_wp2_with fail
       refine(COl.out w2 HD2.out.n).mono ?_;rintro e w3 ⟨rfl,hB⟩;have hD3:=HD2.out.below hB;have c17':w3.cell? ⟨b,17,none⟩=some (.pointer (some ⟨bl,0,none⟩)):=hD3.n.own.1.cell 17;have l1:=HL1.out.below hB;have e3':w3.cell? ⟨p,3,none⟩=some (.slice sa (0:Nat) scap):=by have:=l1.1.cell 3;simpa [hsg]using this
       have HD3:=zH hD3;clear hD3 hB l1 e0 e3 d17 cs;go_wp2_with fail
       refine(CDr.out g' _ HD3.out.c.tidy HD3.out.n.ls HH2.out).mono ?_;rintro e w4 ⟨rfl,g4,C4,L4⟩;have N4:=HD3.out.n.lists_ C4 L4;have hfl4:=N4.fls s hs8;dsimp only at hfl4
       rw[HP.out,HF.out]at hfl4;obtain⟨v4,m1,m2⟩:=hfl4;have h2:=m1.1.cell 2;have hf2:=m1.1.free 2;simp only[List.getElem?_toArray,List.getElem?_cons_zero,List.getElem?_cons_succ]at h2;have g4p:=m1.2;have PU:=Put.set (u:= .int .u64 (now:Nat)) m1.1 2;have TU:=N4.turn (f':={ f with since:=now }) C4.tidy hs8 HP.out PU ⟨v4,m1.put PU,m2.set_other _ (by show g4 p≠T+1+2*s+1;omega)⟩;have D4:=zH (HD3.out.step hT0 ((C4.mono (by omega) (by omega)).trans (TU.1.mono (by omega) (by omega))) TU.2 (inv_flow_drop HD3.out.i HS.out HF.out (HFO.out.at_ hnow) hsg) HR2.out);clear C4 L4 N4 m1 m2 PU TU;go_wp2_with fail
       go_roundg k'
       case measure=>exact hk'
       case rel=>exact⟨_,_,_,D4.out⟩
     | false=>
      obtain⟨k',hk',hR'⟩:=deqN_inl (q2:={ q' with fl:=putF q'.fl s (some { f with since:=now }),fresh:=delL q'.fresh s,old:=delL q'.old s }) (by rw[STEP.out,if_neg hc,hsg];exact if_neg (by simp)) HDD.out.r;have HR2:=zH hR';clear STEP hR';go_wp2_with fail
      refine CH.out.mono ?_;rintro e w2 ⟨rfl,hB⟩;have hD2:=HDD.out.below hB;have k1:=HK1.out.below hB;have k2:=HK2.out.below hB;have cs:=hD2.n.flow hs8;rw[HP.out]at cs;simp only[pval,Option.map_some]at cs;have e0:=k1.1.ce 0;obtain⟨sa,scap,rfl,_⟩:=k2.cap_;have e3:=k1.1.ce 3;rw[hsg]at e3;simp only[List.length_nil]at e3;have d17:=hD2.n.own.1.ce 17;have HD2:=zH hD2;have HL1:=zH k1;have HL2:=zH k2;clear hD2 hB k1 k2;go_wp2_with fail
      refine(CDr.out g' _ HD2.out.c.tidy HD2.out.n.ls HH2.out).mono ?_;rintro e w4 ⟨rfl,g4,C4,L4⟩;have N4:=HD2.out.n.lists_ C4 L4;have hfl4:=N4.fls s hs8;dsimp only at hfl4
      rw[HP.out,HF.out]at hfl4;obtain⟨v4,m1,m2⟩:=hfl4;have h2:=m1.1.cell 2;have hf2:=m1.1.free 2;simp only[List.getElem?_toArray,List.getElem?_cons_zero,List.getElem?_cons_succ]at h2;have g4p:=m1.2;have PU:=Put.set (u:= .int .u64 (now:Nat)) m1.1 2;have TU:=N4.turn (f':={ f with since:=now }) C4.tidy hs8 HP.out PU ⟨v4,m1.put PU,m2.set_other _ (by show g4 p≠T+1+2*s+1;omega)⟩;have D4:=zH (HD2.out.step hT0 ((C4.mono (by omega) (by omega)).trans (TU.1.mono (by omega) (by omega))) TU.2 (inv_flow_drop HD2.out.i HS.out HF.out (HFO.out.at_ hnow) hsg) HR2.out);clear C4 L4 N4 m1 m2 PU TU;go_wp2_with fail
      go_roundg k'
      case measure=>exact hk'
      case rel=>exact⟨_,_,_,D4.out⟩
    | cons x r=>
     have CT:Hid (∀ w',FlAt w' g' (T+1+2*s) (some p) (some f)→Calls Tryz.prog 86 #[.pointer (some ⟨p,0,none⟩)] w' fun e w''=>e= .returned (.int .u64 (timeF f))∧ ∃ n,w''=w'.drewN n):=zH (fun w'=>fqtime_any p f (by rw[hsg];simp) g' (T+1+2*s) w');by_cases ht:now<timeF f
     ·obtain⟨k',hk',hR'⟩:=deqN_inl (q2:={ q' with fresh:=delL q'.fresh s,old:=delL q'.old s,waits:=insK (timeF f,s) q'.waits }) (by
       rw[STEP.out,if_neg hc];split
       ·rename_i h;rw[hsg]at h;cases h
       ·exact if_pos ht) HDD.out.r
      have HR2:=zH hR';clear STEP hR';go_wp2_with fail
      refine CH.out.mono ?_;rintro e w2 ⟨rfl,hB⟩;have hD2:=HDD.out.below hB;have k1:=HK1.out.below hB;have k2:=HK2.out.below hB;have cs:=hD2.n.flow hs8;rw[HP.out]at cs;simp only[pval,Option.map_some]at cs;have e0:=k1.1.ce 0;obtain⟨sa,scap,rfl,_⟩:=k2.cap_;have e3:=k1.1.ce 3;rw[hsg]at e3;simp only[List.length_cons]at e3;have HD2:=zH hD2;have HL1:=zH k1;have HL2:=zH k2;clear hD2 hB k1 k2;go_wp2_with fail
      refine(CT.out _ ⟨_,HL1.out,HL2.out⟩).mono ?_;rintro e w3 ⟨rfl,n3,rfl⟩;have hD3:=HD2.out.below (Drn.below ⟨n3,rfl⟩);have d17:=hD3.n.own.1.ce 17;have HD3:=zH hD3;clear hD3;go_wp2_with fail
      refine(CDr.out g' _ HD3.out.c.tidy HD3.out.n.ls HH2.out).mono ?_;rintro e w4 ⟨rfl,g4,C4,L4⟩;have N4:=HD3.out.n.lists_ C4 L4;have hfl4:=N4.fls s hs8;dsimp only at hfl4
      rw[HP.out,HF.out]at hfl4;have d18:=N4.own.1.ce 18;have CK:=zH (fqkey_any p f (by rw[hsg];simp) s hs8 g4 (T+1+2*s) w4.drew (hfl4.below (Below.drew (Below.refl _ _))));have CI:=zH (fun w'=>rbinsert_any bt (timeF f,s) q'.waits (fun hm=>HD3.out.i.ok.apart HS.out (List.mem_map_of_mem (f:=(·.2)) hm)) (by have:=HD3.out.i.ok.len;have:=List.length_pos_of_mem HS.out;simp only[List.length_append]at this;omega) g4 (T+20) (by omega) w');have HC4:=zH C4;have HN4:=zH N4;clear C4 L4 N4 hfl4 e0 e3 cs d17;go_wp2_with fail
      refine wp_region_held_drew (S:=fun wq=>wq.cell? ⟨b,18,none⟩=some (.pointer (some ⟨bt,0,none⟩))) (by kernel_rfl) d18 (fun hHeld=> ?_);refine zt 0 ?_;refine zt 1 ?_;refine zt 2 ?_;refine zt 3 ?_;refine zt 4 ?_;refine zt 5 ?_;refine zc 6 (fun K hK=> ?_);go_simp;refine CK.out.mono ?_;rintro e w5 ⟨rfl,hB5⟩;have N5:=(HN4.out.drewN 1).below hB5;have C5:=(HC4.out.drew).below hB5;have q18:w5.cell? ⟨b,18,none⟩=some (.pointer (some ⟨bt,0,none⟩)):=N5.own.1.cell 18;refine hK.out _ _ ?_ (fun hHeld=> ?_);focus exact q18
      clear hK K;refine zl ?_;refine zc 7 (fun K hK=> ?_);go_simp;refine(CI.out w5 C5.tidy N5.tr).mono ?_;rintro e w6 ⟨g6,rfl,C6,T6⟩;have N6:=N5.tree_ C6 T6;have q18':w6.cell? ⟨b,18,none⟩=some (.pointer (some ⟨bt,0,none⟩)):=N6.own.1.cell 18;refine hK.out _ _ ?_ (fun hHeld=> ?_);focus exact q18'
      clear hK K;refine zl ?_;refine dnZ ?_;have D6:=zH (HD3.out.step hT0 ((C5.mono (by omega) (by omega)).trans (C6.mono (by omega) (by omega))) N6 (inv_wait HD3.out.i HS.out HF.out (by rw[hsg];simp)) HR2.out);clear C5 N5 C6 T6 N6 hB5 q18 q18' hHeld;go_wp2_with fail
      go_roundg k'
      case measure=>exact hk'
      case rel=>exact⟨_,_,_,D6.out⟩
     ·have HRR:=zH (deqN_inr (r:=(some x,sendQ q' s f x r now (rt s))) (by
       rw[STEP.out,if_neg hc];split
       ·rename_i h;rw[hsg]at h;cases h
       ·rename_i y r2 h;rw[hsg]at h;cases h;exact if_neg ht) HDD.out.r)
      clear STEP;go_wp2_with fail
      refine CH.out.mono ?_;rintro e w2 ⟨rfl,hB⟩;have hD2:=HDD.out.below hB;have k1:=HK1.out.below hB;have k2:=HK2.out.below hB;have cs:=hD2.n.flow hs8;rw[HP.out]at cs;simp only[pval,Option.map_some]at cs;have e0:=k1.1.ce 0;obtain⟨sa,scap,rfl,_⟩:=k2.cap_;have e3:=k1.1.ce 3;rw[hsg]at e3;simp only[List.length_cons]at e3;have HD2:=zH hD2;have HL1:=zH k1;have HL2:=zH k2;clear hD2 hB k1 k2;go_wp2_with fail
      refine(CT.out _ ⟨_,HL1.out,HL2.out⟩).mono ?_;rintro e w3 ⟨rfl,n3,rfl⟩;have hD3:=HD2.out.below (Drn.below ⟨n3,rfl⟩);have rt3:(w2.drewN n3).cell? ⟨rb,s,none⟩=some (.int .u64 (rt s:Nat)):=hD3.t.2.2 s hs8;have CS:=zH (fqsend_any b p s now (rt s) hs8 x r f hsg hnow (hrt s) (HFO.out.sg x (by rw[hsg];simp)).l2 ⟨by have:=HFO.out.c1;omega,by have:=HFO.out.c2;omega⟩ fp' bl bt q' hD3.i.cf.mr ⟨by have:=lens_le q'.fl hs8;rw[←hD3.i.tot]at this;have hl:lens q'.fl s=r.length+1:=(by unfold lens;rw[HF.out];simp[hsg]);omega,by have:=hD3.i.lim;omega⟩ HP.out HF.out g' T hT0 _ hD3.c.tidy hD3.n);have HD3:=zH hD3;clear hD3;unfold sgv at CS;go_wp2_with fail
      refine CS.out.mono ?_;rintro e w5 ⟨rfl,C5,N5⟩;have AR:=HD3.out.a.chg C5 (by have:=HD3.out.z;omega);have gN5:=HD3.out.z;have y0:=AR.cell 0;have y1:=AR.cell 1;have y2:=AR.cell 2;have y3:=AR.cell 3;have y4:=AR.cell 4;have v0:=AR.free 0;have v1:=AR.free 1;have v2:=AR.free 2;have v3:=AR.free 3;have v4:=AR.free 4;simp only[List.getElem?_toArray,List.getElem?_cons_zero,List.getElem?_cons_succ]at y0 y1 y2 y3 y4;have A5:=((((AR.set (u:= .int .i64 (x.sock:Nat)) 0).set (u:= .int .u64 (x.frm:Nat)) 1).set (u:= .int .i64 (x.len:Nat)) 2).set (u:= .int .u64 (x.stamp:Nat)) 3).set (u:= .bool x.again) 4;have d0:=A5.cell 0;have d1:=A5.cell 1;have d2:=A5.cell 2;have d3:=A5.cell 3;have d4:=A5.cell 4;simp only[List.setIfInBounds_toArray,List.set_cons_zero,List.set_cons_succ,List.getElem?_toArray,List.getElem?_cons_zero,List.getElem?_cons_succ]at d0 d1 d2 d3 d4;have G5:=((((grown_set w5 N0 0 (.int .i64 (x.sock:Nat))).trans (grown_set _ N0 1 (.int .u64 (x.frm:Nat)))).trans (grown_set _ N0 2 (.int .i64 (x.len:Nat)))).trans (grown_set _ N0 3 (.int .u64 (x.stamp:Nat)))).trans (grown_set _ N0 4 (.bool x.again));have HC:=zH ((HD3.out.c.trans C5).by G5 (fun k hk hlt=>by cases hk;omega));have HN:=zH (N5.other G5 (fun k hk=>by cases hk;left;omega));have HIV:=zH (inv_send HD3.out.i HS.out HF.out hsg (by omega) now (rt s));have D0:=zH d0;have D1:=zH d1;have D2:=zH d2;have D3:=zH d3
      have D4:=zH d4;clear C5 N5 AR A5 G5 d0 d1 d2 d3 d4;go_wp2_with fail
      (try rw[Exit.noGoto_ret])
      refine bodyPost_ret (v:=sgo (some x)) ?_ rfl ⟨by rw[HRR.out],g',fp',HC.out, ?_, ?_⟩
      ·simp[results,Tryz.f51,go_sem,D0.out,D1.out,D2.out,D3.out,D4.out,sgo,sgv]
      ·rw[HRR.out];exact HN.out
      ·rw[HRR.out];exact HIV.out
end
end Go.Proofs.YtojgokiobdpclaaGreat
