import Derived.Test.YtojgokiobdpclaaGreatP28
import Derived.Deep.Cut
import Derived.Deep.CutBlock
namespace Go.Proofs.YtojgokiobdpclaaGreat
set_option linter.unusedVariables false
set_option linter.unusedSimpArgs false
set_option maxRecDepth 8000
set_option maxHeartbeats 8000000
section
open Go.RowKit Go.Lib
theorem own_mono {w:World} {base base':Nat} {e:TypeId} {size:Nat} {v:Value} {n:Nat} {xs:List Value} (h:w.ownsRow base e size v n xs) (hb:base'≤base):w.ownsRow base' e size v n xs:=by
 refine⟨h.1, ?_⟩;rcases h.2 with hn | ⟨q,cap,cur,h1,h2,h3⟩
 ·exact .inl hn
 ·exact .inr ⟨q,cap,cur,h1,Nat.le_trans hb h2,h3⟩
theorem NsAt.other {w w':World} {g:Nat→Nat} {T b pa:Nat} {v:Value} {top size:Int} {ns:List ND} {row:Option Nat} (h:NsAt w g T b pa v top size ns) (hg:w.grownBy w' row) (hne: ∀ q,row=some q→g q≠T∧g q≠T+1):NsAt w' g T b pa v top size ns:=by
 obtain⟨h1,h2⟩:=h.ex;exact⟨h1.other hg (fun e=>(hne b e.symm).1 h1.2),h2.other hg fun q hq _=>(hne q hq).2⟩
theorem ArAt.other {w w':World} {g:Nat→Nat} {T b:Nat} {us:List Bool} {fr:List Nat} {row:Option Nat} (h:ArAt w g T b us fr) (hg:w.grownBy w' row) (hne: ∀ q,row=some q→g q≠T∧g q≠T+1∧g q≠T+2):ArAt w' g T b us fr:=by
 obtain⟨u,f,h1,h2,h3⟩:=h.ex;exact⟨u,f,h1.other hg (fun e=>(hne b e.symm).1 h1.2),h2.other hg fun q hq _=>(hne q hq).2.1,h3.other hg fun q hq _=>(hne q hq).2.2⟩
theorem rbdelete_any (b:Nat) (k:KY) (ks:List KY) (hk:k∈ks) (g:Nat→Nat) (T:Nat) (hT0:0<T) (w:World) (hT:Tidy w g) (h:TreeAt w g T b ks):
  Calls Tryz.prog 111 #[.pointer (some ⟨b,0,none⟩),kyv k] w fun e w'=> ∃ g',e= .returned (.int .i64 0)∧Chg w w' g g' T (T+5)∧TreeAt w' g' T b (ks.erase k):=by
 obtain⟨i0,HII⟩:=infoI;obtain⟨pa,v,top,ns,us,fr,t,hN,hA,hI⟩:=h.ex;have htl:=hI.rep.top hI.room;have hil:=idx_len t;rw[hI.keys]at hil;have hil8:t.idx.length≤8:=by
  have h3:t.idx ⊆ List.range ns.length:=fun i hi=>List.mem_range.2 (hI.rep.lt i hi)
  have:=nodup_len hI.nd h3;have:=hI.room;simp at*
  omega
 obtain⟨⟨fs,x,l,r⟩,hf⟩:=frD_some k t [] (by rw[hI.keys];exact hI.rise) (by rw[hI.keys];exact hk);obtain⟨g1,g2,g3,g4,g5,g6,g7,g8⟩:=frD_facts k t hf hI.rep trivial;have hws:wayT t k=(fs.map FR.up).reverse++[x]:=by
  have:=congrArg List.reverse g8;simpa using this
 have hwl:=wayT_len t k;have CW:Hid (∀ w',Below w.heap.size w w'→Calls Tryz.prog 115 #[.pointer (some ⟨b,0,none⟩),kyv k] w' fun e w''=> ∃ v',e= .returned v'∧w''.ownsRow w'.heap.size 3 1 v' (wayT t k).length (ints (wayT t k))∧Below w'.heap.size w' w''):=zH fun w' hB=>rbway_any b pa v top _ ns t k (by omega) hI.rep (by omega) g T w' (hN.below hB)
 have CF:Hid (∀ w' vw,Below w.heap.size w w'→Rd w' vw 1 (wayT t k).length (ints (wayT t k))→Calls Tryz.prog 116 #[.pointer (some ⟨b,0,none⟩),vw,kyv k] w' fun e w''=>e= .returned (.int .i64 x)∧Below w'.heap.size w' w''):=zH fun w' vw hB hr=>(rbfound_any b pa v vw _ _ ns (wayT t k) k (fun i hi=>(way_keys k t hI.rep i hi).1) (by omega) g T w' (hN.below hB) hr).mono fun e w'' ⟨q1,q2⟩=>⟨by rw[q1,hws,found_yes g3],q2⟩
 have hk0:t.keys.erase k=ks.erase k:=by rw[hI.keys]
 have hxt:x∈t.idx:=by
  have:=g7 x;simp only[cz,List.count_singleton_self]at this;exact List.count_pos_iff.1 (by omega)
 have hrise:t.keys.Pairwise klt:=by rw[hI.keys];exact hI.rise
 obtain⟨bb,off,cap,rfl⟩:=ns_form hN (by omega);have hbbs:bb<w.heap.size:=(ns_at hN).2.2.1.tag_.2;have gbb:g bb=T+1:=(ns_at hN).2.2.1.tag_.1;have hroom:=hI.room;have hk':=hk;obtain⟨k1,k2⟩:=k;unfold kyv at CW CF ⊢;have HN:=zH hN;have HA:=zH hA;have HI:=zH hI;have HT:=zH hT;obtain⟨s,es⟩: ∃ s,w.heap.size=s:=⟨_,rfl⟩;have hbs:=hN.lt;rw[es]at hbs hbbs;have G6:=zH g6;have G7:=zH g7;have HF:=zH hf;have HWL:=zH hws;obtain⟨ws,ews⟩: ∃ ws,wayT t (k1,k2)=ws:=⟨_,rfl⟩;rw[ews]at CW CF HWL hwl;have hwn:ws.length=fs.length+1:=by rw[HWL.out];simp
 clear hT h hN hA hI g6 g7 g8 hf hws g1 hk hk';go_enter Tryz.func111,Tryz.ntmps111
 go_wp2_with fail
 refine(CW.out _ ((Below.refl _ w).alloc (Nat.le_refl _) _)).mono ?_;rintro e w1 ⟨vw,rfl,hown,hB1⟩;have B0:Below s w (w.alloc (.cells #[.int .u64 k1, .int .u64 k2] 169)):=by rw[←es];exact(Below.refl _ w).alloc (Nat.le_refl _) _
 have B1:Below s w w1:=B0.trans (hB1.mono (by simp;omega));have A1:=(At.made w 169 #[.int .u64 k1, .int .u64 k2]).below hB1 (by simp);rw[es]at A1;have O1:=own_mono (base':=s) hown (by simp;omega);have y0:=A1.cell 0;have y1:=A1.cell 1;simp only[List.getElem?_toArray,List.getElem?_cons_zero,List.getElem?_cons_succ]at y0 y1;have HB1:=zH B1;have HA1:=zH A1;have HS1:=zH O1;have hs1:=A1.lt;clear hown hB1 B0 B1 A1 O1;go_wp2_with fail
 refine(CF.out _ _ (by rw[es];exact HB1.out) (Rd.own HS1.out)).mono ?_;rintro e w2 ⟨rfl,hB2⟩;have B2:Below s w w2:=HB1.out.trans (hB2.mono (by omega));have S2:=own_below HS1.out hB2;have N2:=HN.out.below (w':=w2) (by rw[es];exact B2);have R2:=HA.out.below (w':=w2) (by rw[es];exact B2);obtain⟨q1,qO,qS,qne,qc,qf⟩:=ns_at N2;have r0:=qc x _ (getD_some g2) 0 (by omega);have r1:=qc x _ (getD_some g2) 1 (by omega);have r2:=qc x _ (getD_some g2) 2 (by omega);have r3:=qc x _ (getD_some g2) 3 (by omega);simp only[ndl,List.getElem?_cons_zero,List.getElem?_cons_succ,Nat.add_zero]at r0 r1 r2 r3;obtain⟨bw,cw,evw,hcw⟩:=S2.form (by omega);subst evw;have hcw2:ws.length≤cw:=by
  obtain⟨_,_,ee,hh,_⟩:=(Rd.own S2).form;cases ee
  exact hh
 rw[hwn]at hcw2;have z0:=N2.ex.1.1.cell 0;simp only[List.getElem?_toArray,List.getElem?_cons_zero]at z0;have HB2:=zH B2;have HS2:=zH S2;have HN2:=zH N2;have HR2:=zH R2;have hs2:s<w2.heap.size:=by have:=hB2.size;omega
 have hx1:((x:Int)== -1)=false:=by rw[beq_eq_false_iff_ne];omega
 have D2:Chg w w2 g g T (T+5):=(Chg.refl HT.out T (T+5)).below (by rw[es];exact B2);have HD2:=zH D2;clear hB2 B2 S2 N2 R2 D2 y0 y1 HB1 HA1 HS1 qO qS;cases l with
 | nil=>
  have hz0:=delA HF.out HI.out.rep HI.out.good hrise HI.out.nd (.inl rfl);obtain⟨hz,hnd,hmem⟩:=hz0;have e4:(ns.getD x default).l= -1:=g4;rw[if_pos e4]at hz;rw[e4]at r2;obtain⟨ki,eki⟩: ∃ ki,(ns.getD x default).r=ki:=⟨_,rfl⟩;rw[eki]at r3 hz;simp only at hz hnd hmem
  have S5:=Sli.of_own (g':=g) (i:=0) HS2.out fun q hq=>HT.out q (by have:=(HS2.out.lt q hq).1;omega)
  have S6:=S5.clip (m:=fs.length) (by omega);have htk:(ints ws).take (fs.length*1)=ints (fs.map FR.up).reverse:=by rw[HWL.out];simp[ints]
  rw[htk]at S6;have hiz:(iz r.idx fs).length≤300:=by
   have:(iz r.idx fs).length≤t.idx.length:=nodup_len hnd fun y hy=>((hmem y).1 hy).1
   omega
  have CD:=zH (rbdrop_any b pa _ _ _ _ _ _ _ (by omega) hnd hiz fs x ki _ r hz (by omega) (by omega) g T hT0 w2 HD2.out.tidy HN2.out (by rw[List.length_map];exact S6));have hn2:((fs.length+1:Nat):Int)-1=(fs.length:Nat):=by omega
  have hN5:=zH HN2.out;have hR5:=zH HR2.out;have hD5:=zH HD2.out;clear S5 S6 htk hz qc qf;go_wp2_with fail
  refine CD.out.mono ?_;rintro e w6 ⟨i',ms6,t',⟨ve,rfl⟩,C6,N6,e1,e2,e3,e4,e5⟩;have R6:=hR5.out.chg C6 (.inr (by omega));have D6:=hD5.out.trans (C6.mono (Nat.le_refl _) (by omega));have z3:=N6.ex.1.1.cell 3;have fz3:=N6.ex.1.1.free 3;have z00:=N6.ex.1.1.cell 0;simp only[List.getElem?_toArray,List.getElem?_cons_zero,List.getElem?_cons_succ]at z3 z00;have NW3:=ns_size N6 ((ks.length:Nat)-1);have gb:=N6.lt.2;have RW3:=R6.other (grown_set w6 b 3 (.int .i64 ((ks.length:Nat)-1))) (fun q hq=>by cases hq;omega);have DW3:=D6.set (b:=b) (i:=3) (fun hb=>by omega) (.int .i64 ((ks.length:Nat)-1));have hI:=HI.out;have hus:=hI.used x hxt;have CZ:=zH (arfree_any pa us fr x hus (by have:=hI.same;omega) (by
   have h3:fr ⊆ List.range us.length:=fun i hi=>List.mem_range.2 (List.getElem?_eq_some_iff.1 (hI.free i hi)).1
   have:=nodup_len hI.ndf h3;have:=hI.same;simp at*
   omega) g (T+2) (by omega) _ DW3.tidy RW3)
  have HD3:=zH DW3;have HN3:=zH NW3;clear N6 R6 D6 NW3 RW3 DW3 C6 hus;go_wp2_with fail
  refine CZ.out.mono ?_;rintro e w7 ⟨g7',rfl,C7,R7⟩;have HF7:=zH (HD3.out.trans (C7.mono (by omega) (by omega)));have HN7:=zH (HN3.out.chg C7 (.inl (by omega)));have HR7:=zH R7;clear C7 R7;go_wp2_with fail
  go_ret
  have hlt8:=e1.top (by rw[e3];omega);obtain⟨top',et⟩: ∃ top':Nat,i'+1=(top':Int):=⟨(i'+1).toNat,by omega⟩;have N7:=HN7.out;have hl1:((ks.erase (k1,k2)).length:Int)=(ks.length:Nat)-1:=by
   have h1:(k1,k2)∈ks:=by rw[←hI.keys,←kz_nil t.keys,←G6.out];exact kz_mem _ [] (by simp)
   have:=List.length_erase_of_mem h1;have:=List.length_pos_of_mem h1;omega
  rw[et,←hl1]at N7;exact⟨_,rfl,HF7.out,⟨pa,_,top',ms6,us.set x false,fr++[x],t',N7,HR7.out,hI.del (k1,k2) x hxt (by rw[←et,Int.add_sub_cancel];exact e1) e2 (by rw[e4,hk0]) (by rw[e5];exact hnd) (by rw[e5];exact hmem) (by rw[e3];skip)⟩⟩
 | node j ja jb jl jr=>
  cases r with
  | nil=>
   have hz0:=delA HF.out HI.out.rep HI.out.good hrise HI.out.nd (.inr rfl);obtain⟨hz,hnd,hmem⟩:=hz0;have e4:=g4.1;rw[e4]at r2;rw[if_neg (by rw[e4];omega),e4]at hz;have e5:(ns.getD x default).r= -1:=g5;rw[e5]at r3;have hj1:((j:Int)== -1)=false:=by rw[beq_eq_false_iff_ne];omega
   simp only at hz hnd hmem
   obtain⟨kid,ekid⟩: ∃ kid,TT.node j ja jb jl jr=kid:=⟨_,rfl⟩;rw[ekid]at hz hnd hmem;have S5:=Sli.of_own (g':=g) (i:=0) HS2.out fun q hq=>HT.out q (by have:=(HS2.out.lt q hq).1;omega)
   have S6:=S5.clip (m:=fs.length) (by omega);have htk:(ints ws).take (fs.length*1)=ints (fs.map FR.up).reverse:=by rw[HWL.out];simp[ints]
   rw[htk]at S6;have hiz:(iz kid.idx fs).length≤300:=by
    have:(iz kid.idx fs).length≤t.idx.length:=nodup_len hnd fun y hy=>((hmem y).1 hy).1
    omega
   have CD:=zH (rbdrop_any b pa _ _ _ _ _ _ _ (by omega) hnd hiz fs x j _ kid hz (by omega) (by omega) g T hT0 w2 HD2.out.tidy HN2.out (by rw[List.length_map];exact S6));have hn2:((fs.length+1:Nat):Int)-1=(fs.length:Nat):=by omega
   have hN5:=zH HN2.out;have hR5:=zH HR2.out;have hD5:=zH HD2.out;clear S5 S6 htk hz qc qf;go_wp2_with fail
   refine CD.out.mono ?_;rintro e w6 ⟨i',ms6,t',⟨ve,rfl⟩,C6,N6,e1,e2,e3,e4,e5⟩;have R6:=hR5.out.chg C6 (.inr (by omega));have D6:=hD5.out.trans (C6.mono (Nat.le_refl _) (by omega));have z3:=N6.ex.1.1.cell 3;have fz3:=N6.ex.1.1.free 3;have z00:=N6.ex.1.1.cell 0;simp only[List.getElem?_toArray,List.getElem?_cons_zero,List.getElem?_cons_succ]at z3 z00;have NW3:=ns_size N6 ((ks.length:Nat)-1);have gb:=N6.lt.2;have RW3:=R6.other (grown_set w6 b 3 (.int .i64 ((ks.length:Nat)-1))) (fun q hq=>by cases hq;omega);have DW3:=D6.set (b:=b) (i:=3) (fun hb=>by omega) (.int .i64 ((ks.length:Nat)-1));have hI:=HI.out;have hus:=hI.used x hxt;have CZ:=zH (arfree_any pa us fr x hus (by have:=hI.same;omega) (by
    have h3:fr ⊆ List.range us.length:=fun i hi=>List.mem_range.2 (List.getElem?_eq_some_iff.1 (hI.free i hi)).1
    have:=nodup_len hI.ndf h3;have:=hI.same;simp at*
    omega) g (T+2) (by omega) _ DW3.tidy RW3)
   have HD3:=zH DW3;have HN3:=zH NW3;clear N6 R6 D6 NW3 RW3 DW3 C6 hus;go_wp2_with fail
   refine CZ.out.mono ?_;rintro e w7 ⟨g7',rfl,C7,R7⟩;have HF7:=zH (HD3.out.trans (C7.mono (by omega) (by omega)));have HN7:=zH (HN3.out.chg C7 (.inl (by omega)));have HR7:=zH R7;clear C7 R7;go_wp2_with fail
   go_ret
   have hlt8:=e1.top (by rw[e3];omega);obtain⟨top',et⟩: ∃ top':Nat,i'+1=(top':Int):=⟨(i'+1).toNat,by omega⟩;have N7:=HN7.out;have hl1:((ks.erase (k1,k2)).length:Int)=(ks.length:Nat)-1:=by
    have h1:(k1,k2)∈ks:=by rw[←hI.keys,←kz_nil t.keys,←G6.out];exact kz_mem _ [] (by simp)
    have:=List.length_erase_of_mem h1;have:=List.length_pos_of_mem h1;omega
   rw[et,←hl1]at N7;exact⟨_,rfl,HF7.out,⟨pa,_,top',ms6,us.set x false,fr++[x],t',N7,HR7.out,hI.del (k1,k2) x hxt (by rw[←et,Int.add_sub_cancel];exact e1) e2 (by rw[e4,hk0]) (by rw[e5];exact hnd) (by rw[e5];exact hmem) (by rw[e3];skip)⟩⟩
  | node j2 j2a j2b j2l j2r=>
   obtain⟨n,hle,hnl,hnt,hnx,ms,ems,hml,kid,fs2,hrev,hz,hnd,hmem⟩:=delB HF.out HI.out.rep HI.out.good hrise HI.out.nd (by simp);have e4:=g4.1;have e5:=g5.1;rw[e4]at r2;rw[e5]at r3;have hb1:((j:Int)!= -1)=true:=by rw[bne_iff_ne];omega
   have hb2:((j2:Int)!= -1)=true:=by rw[bne_iff_ne];omega
   have hRr:=g5;rw[e5]at hRr;have hszr:(TT.node j2 j2a j2b j2l j2r).idx.length≤300:=by
    have hnn:(TT.node j2 j2a j2b j2l j2r).idx ⊆ t.idx:=fun y hy=>by
     have:=G7.out y;have:=List.count_pos_iff.2 hy;simp only[cz]at*;exact List.count_pos_iff.1 (by omega)
    have hnr:(TT.node j2 j2a j2b j2l j2r).idx.Nodup:=List.nodup_iff_count.2 fun y=>by
     have:=G7.out y;have:=List.nodup_iff_count.1 HI.out.nd y;simp only[cz]at*;omega
    have:=nodup_len hnr hnn;omega
   have CL:=zH (fun w' (hB:Below w.heap.size w w')=>rbleast_any b pa _ _ _ ns _ j2 hRr hszr g T w' (HN.out.below hB));obtain⟨L,eL⟩: ∃ L,leastT (TT.node j2 j2a j2b j2l j2r)=L:=⟨_,rfl⟩;rw[eL]at hle hrev CL;obtain⟨m,em⟩: ∃ m,L.dropLast.length=m:=⟨_,rfl⟩;have hLm:L.length=m+1:=by rw[hle,List.length_append,em];rfl
   have hLn:(ints L)[m]? =some (.int .i64 (n:Nat)):=by rw[hle,←em];simp[ints]
   have hrev2:ws++L=(fs2.map FR.up).reverse++[n]:=by
    have:=congrArg List.reverse hrev;rw[ews]at this;simpa using this
   have hN1:fs.length+1+(m+1)=fs2.length+1:=by
    have:=congrArg List.length hrev2;simp only[List.length_append,List.length_reverse,List.length_map,List.length_singleton]at this;omega
   have hLL:L.length≤300:=by rw[←eL];have:=leastT_len (TT.node j2 j2a j2b j2l j2r);omega
   have HZ:=zH hz;clear hz hle hrev qc qf;go_wp2_with fail
   refine(CL.out _ (by rw[es];exact HB2.out)).mono ?_;rintro e w3 ⟨vm,rfl,hown3,hB3⟩;have B3:Below s w w3:=HB2.out.trans (hB3.mono (by omega));have OM:=own_mono (base':=s) hown3 (by omega);have OW:=own_below HS2.out hB3;have N3:=HN.out.below (w':=w3) (by rw[es];exact B3);have R3:=HA.out.below (w':=w3) (by rw[es];exact B3);have D3:Chg w w3 g g T (T+5):=(Chg.refl HT.out T (T+5)).below (by rw[es];exact B3);obtain⟨bm,cm,evm,hbm⟩:=OM.form (by omega);subst evm;have hmc:w3.cell? ⟨bm,m,none⟩=some (.int .i64 (n:Nat)):=by
    have:=OM.cells (g:=bm) rfl m _ hLn;rw[Addr.add_lit]at this;simpa using this
   obtain⟨p1,pO,pS,pne,pc,pf⟩:=ns_at N3;have u0:=pc n _ (getD_some hnl) 0 (by omega);have u1:=pc n _ (getD_some hnl) 1 (by omega);have v0:=pc x _ (getD_some g2) 0 (by omega);have v1:=pc x _ (getD_some g2) 1 (by omega);simp only[ndl,List.getElem?_cons_zero,List.getElem?_cons_succ,Nat.add_zero]at u0 u1 v0 v1;have f0:=pf (off+x*5);have f1:=pf (off+x*5+1);obtain⟨na,ena⟩: ∃ na,(ns.getD n default).ka=na:=⟨_,rfl⟩;obtain⟨nb,enb⟩: ∃ nb,(ns.getD n default).kb=nb:=⟨_,rfl⟩;rw[ena]at u0;rw[enb]at u1;rw[ena,enb]at ems;have Q1:=ns_set N3 (getD_some g2) 0 (by omega) (.int .u64 (na:Nat)) { ns.getD x default with ka:=na } rfl;have Q2:=ns_set (ns:=ns.set x { ns.getD x default with ka:=na }) (j:=x) (x:={ ns.getD x default with ka:=na }) (by rw[List.length_set];exact Q1) (by rw[List.getElem?_set_self g2]) 1 (by omega) (.int .u64 (nb:Nat)) { ns.getD x default with ka:=na,kb:=nb } rfl;rw[List.length_set,List.set_set,←ems]at Q2;have GP:=(grown_set w3 bb (off+x*5) (.int .u64 (na:Nat))).trans (grown_set (w3.setCell ⟨bb,off+x*5,none⟩ (.int .u64 (na:Nat))) bb (off+x*5+1) (.int .u64 (nb:Nat)));have RQ:=R3.other GP (fun q hq=>by cases hq;omega);have DQ:=D3.by GP (fun q hq _=>by cases hq;omega)
   have OMQ:=OM.kept GP (.inr (by simp only[Value.ownBlock,ne_eq,Option.some.injEq];omega));have OWQ:=OW.kept GP (.inr (by simp only[Value.ownBlock,ne_eq,Option.some.injEq];omega));have HQ:=zH (And.intro (Q2.drewN 1) (And.intro (RQ.below (Below.drew (Below.refl _ _))) (And.intro DQ.drew (And.intro OMQ.drew OWQ.drew))));have hm1:((L.length:Nat):Int)-1=(m:Nat):=by omega
   clear hB3 B3 OM OW N3 R3 D3 pO pS pc pf Q1 Q2 GP RQ DQ OMQ OWQ hown3;go_wp2_with fail
   go_region
   refine q_named (fun W=>NsAt W g T b pa (.slice (some ⟨bb,off,none⟩) ns.length cap) (top:Nat) (ks.length:Nat) ms∧ArAt W g (T+2) pa us fr∧Chg w W g g T (T+5)∧W.ownsRow s 3 1 (.slice (some ⟨bm,0,none⟩) L.length cm) L.length (ints L)∧W.ownsRow s 3 1 (.slice (some ⟨bw,0,none⟩) ws.length cw) ws.length (ints ws)) HQ.out (fun w4 h4=> ?_);obtain⟨N4,R4,D4,OM4,OW4⟩:=h4;rw[hwn]at OW4;rw[hLm]at OM4;have hnews:=OM4.cells (g:=bm) rfl;have hsz4:s≤w4.heap.size:=by have:=D4.size;omega
   have HN4:=zH N4;have HR4:=zH R4;have HD4:=zH D4;have HOW:=zH OW4;have HNW:=zH hnews;clear N4 R4 D4 OM4 OW4 hnews u0 u1 v0 v1 f0 f1 p1 HQ;go_wp2_with (at_builtin;refine wpList_append_lies _ rfl _ _ 39 rfl s 3 i0 (.int .i64 0) 1 8 Tryz.underlying39 HII.out.1 HII.out.2.1 HII.out.2.2.1 HII.out.2.2.2 rfl (by decide) _ (fs.length+1) (ints ws) rfl HOW.out ⟨bm,0,none⟩ (m+1) cm (ints L) rfl ?c5 HNW.out ?c1 ?c0 ?c2 ?c3 ?c4 _ rfl ?_)
   case c5=>rw[ints_len,hLm,Nat.mul_one]
   case c1=>intro u hu;simp only[ints,List.mem_map]at hu;obtain⟨q,_,rfl⟩:=hu;rfl
   case c0=>omega
   case c2=>unfold maxLen;omega
   case c3=>omega
   case c4=>omega
   intro bw2 cw3 w5 ho hg hat hlt;have N5:=HN4.out.other hg (fun q hq=>by have:=(HOW.out.lt q hq).1;have:=HT.out q (by omega);omega);have R5:=HR4.out.other hg (fun q hq=>by have:=(HOW.out.lt q hq).1;have:=HT.out q (by omega);omega);have D5:=HD4.out.by hg (fun q hq hq2=>by have:=(HOW.out.lt q hq).1;omega)
   have hia:ints ws++ints L=ints (ws++L):=by simp[ints]
   rw[hia]at ho;have hcw5:fs2.length+1≤cw3:=by
    obtain⟨_,_,ee,hh,_⟩:=(Rd.own ho).form;cases ee
    exact hh
   have hmsl:ms.length=ns.length:=by rw[ems,List.length_set]
   obtain⟨p1,pO,pS,pne,pc,pf⟩:=ns_at N5;have s2:=pc n _ (getD_some (by omega)) 2 (by omega);have s3:=pc n _ (getD_some (by omega)) 3 (by omega);simp only[ndl,List.getElem?_cons_zero,List.getElem?_cons_succ]at s2 s3;rw[hml]at s2;have hz:=HZ.out;obtain⟨ki,eki⟩: ∃ ki,(ms.getD n default).r=ki:=⟨_,rfl⟩;rw[eki]at s3 hz;have hO5:=zH ho;clear hat pO pS pc pf hia hlt hg ho;have S5:=Sli.of_own (g':=g) (i:=0) hO5.out fun q hq=>HT.out q (by have:=(hO5.out.lt q hq).1;omega)
   have S6:=S5.clip (m:=fs2.length) (by omega);have htk:(ints (ws++L)).take (fs2.length*1)=ints (fs2.map FR.up).reverse:=by rw[hrev2];simp[ints]
   rw[htk]at S6;have hiz:(iz kid.idx fs2).length≤300:=by
    have:(iz kid.idx fs2).length≤t.idx.length:=nodup_len hnd fun y hy=>((hmem y).1 hy).1
    omega
   have CD:=zH (rbdrop_any b pa _ _ _ _ _ _ _ (by omega) hnd hiz fs2 n ki _ kid hz (by omega) (by omega) g T hT0 w5 D5.tidy N5 (by rw[List.length_map];exact S6));have hn2:((fs2.length+1:Nat):Int)-1=(fs2.length:Nat):=by omega
   have hN5:=zH N5;have hR5:=zH R5;have hD5:=zH D5;clear S5 S6 htk hz N5 R5 D5;go_wp2_with fail
   refine CD.out.mono ?_;rintro e w6 ⟨i',ms6,t',⟨ve,rfl⟩,C6,N6,e1,e2,e3,e4,e5⟩;have R6:=hR5.out.chg C6 (.inr (by omega));have D6:=hD5.out.trans (C6.mono (Nat.le_refl _) (by omega));have z3:=N6.ex.1.1.cell 3;have fz3:=N6.ex.1.1.free 3;have z00:=N6.ex.1.1.cell 0;simp only[List.getElem?_toArray,List.getElem?_cons_zero,List.getElem?_cons_succ]at z3 z00;have NW3:=ns_size N6 ((ks.length:Nat)-1);have gb:=N6.lt.2;have RW3:=R6.other (grown_set w6 b 3 (.int .i64 ((ks.length:Nat)-1))) (fun q hq=>by cases hq;omega);have DW3:=D6.set (b:=b) (i:=3) (fun hb=>by omega) (.int .i64 ((ks.length:Nat)-1));have hI:=HI.out;have hus:=hI.used n hnt;have CZ:=zH (arfree_any pa us fr n hus (by have:=hI.same;omega) (by
    have h3:fr ⊆ List.range us.length:=fun i hi=>List.mem_range.2 (List.getElem?_eq_some_iff.1 (hI.free i hi)).1
    have:=nodup_len hI.ndf h3;have:=hI.same;simp at*
    omega) g (T+2) (by omega) _ DW3.tidy RW3)
   have HD3:=zH DW3;have HN3:=zH NW3;clear N6 R6 D6 NW3 RW3 DW3 C6 hus;go_wp2_with fail
   refine CZ.out.mono ?_;rintro e w7 ⟨g7',rfl,C7,R7⟩;have HF7:=zH (HD3.out.trans (C7.mono (by omega) (by omega)));have HN7:=zH (HN3.out.chg C7 (.inl (by omega)));have HR7:=zH R7;clear C7 R7;go_wp2_with fail
   go_ret
   have hlt8:=e1.top (by rw[e3];omega);obtain⟨top',et⟩: ∃ top':Nat,i'+1=(top':Int):=⟨(i'+1).toNat,by omega⟩;have N7:=HN7.out;have hl1:((ks.erase (k1,k2)).length:Int)=(ks.length:Nat)-1:=by
    have h1:(k1,k2)∈ks:=by rw[←hI.keys,←kz_nil t.keys,←G6.out];exact kz_mem _ [] (by simp)
    have:=List.length_erase_of_mem h1;have:=List.length_pos_of_mem h1;omega
   rw[et,←hl1]at N7;exact⟨_,rfl,HF7.out,⟨pa,_,top',ms6,us.set n false,fr++[n],t',N7,HR7.out,hI.del (k1,k2) n hnt (by rw[←et,Int.add_sub_cancel];exact e1) e2 (by rw[e4,hk0]) (by rw[e5];exact hnd) (by rw[e5];exact hmem) (by rw[e3];exact hmsl)⟩⟩
end
section
open Go.RowKit Go.Lib
theorem rbnew_any (g:Nat→Nat) (T:Nat) (w:World) (hT:Tidy w g):
  Calls Tryz.prog 47 #[.int .i64 8] w fun e w'=> ∃ g' b,e= .returned (.pointer (some ⟨b,0,none⟩))∧w.heap.size≤b∧Chg w w' g g' T (T+5)∧TreeAt w' g' T b []:=by
 have CN:Hid (∀ w',w=w'→Calls Tryz.prog 73 #[.int .i64 8] w' fun e w''=> ∃ g',e= .returned (.pointer (some ⟨w'.heap.size,0,none⟩))∧Chg w' w'' g g' (T+2) (T+2+3)∧ArAt w'' g' (T+2) w'.heap.size [] []∧w''.heap.size=w'.heap.size+1):=zH fun w' e=>by subst e;exact arnew_any g (T+2) w hT
 have HT:=zH hT;clear hT;go_enter Tryz.func47,Tryz.ntmps47
 go_wp2_with fail
 refine(CN.out _ rfl).mono ?_;rintro e w1 ⟨g1,rfl,C1,A1,hs⟩;have HC:=zH C1;have HA:=zH A1;clear C1 A1;go_wp2_with fail
 go_ret
 refine⟨tagAt g1 (w.heap.size+1) T,w.heap.size+1,rfl,by omega, ?_,⟨w.heap.size,_,0,[],[],[], .nil,⟨?_,Sli.nil _ _ _ _ _⟩, ?_,⟨rfl,fun j hj=>absurd hj (by simp),rfl,List.Pairwise.nil,List.nodup_nil,rfl,by simp,by simp,by simp[TT.idx],by simp,List.nodup_nil⟩⟩⟩
 ·have:=(HC.out.mono (lo':=T) (hi':=T+5) (by omega) (by omega)).tag (.cells #[.pointer (some ⟨w.heap.size,0,none⟩), .slice none 0 0, .int .i64 0, .int .i64 0, .int .i64 8] 155) T
  rw[hs]at this;exact this
 ·have:=Of.made w1 g1 T 155 #[.pointer (some ⟨w.heap.size,0,none⟩), .slice none 0 0, .int .i64 0, .int .i64 0, .int .i64 8]
  rw[hs]at this;exact this
 ·obtain⟨u,f,h1,h2,h3⟩:=HA.out.ex
  have q: ∀ o,Chg w1 (w1.alloc o) g1 (tagAt g1 w1.heap.size T) T (T+1):=fun o=>(Chg.refl HC.out.tidy _ _).tag o T
  rw[hs]at q;exact⟨u,f,h1.chg (q _) (by omega),h2.chg (q _) (by omega),h3.chg (q _) (by omega)⟩
end
section
open Go.RowKit Go.Lib Go.Shelf
def AbI (B:Nat) {β:Type} (J:β→World→Prop):Prop:=
 ∀(s:β) (X Y:World) (row:Option Nat),J s X→X.grownBy Y row→(∀ r,row=some r→B≤r∧ ∃ o,X.heap[r]? =some o∧(o.isCells=false∨ ∃ cs,∃ fz:Nat×Nat,o= .cells cs 3 fz))→J s Y
theorem AbI.put {B:Nat} {β:Type} {J:β→World→Prop} (h:AbI B J) {s:β} {W:World} {l:Nat} {o:Obj} (o':Obj) (hs:J s W) (hB:B≤l) (hl:W.heap[l]? =some o) (ho:o.isCells=false):J s (W.putObj l o'):=
 h s W _ (some l) hs (grownBy_putObj' W l o') fun r e=>by cases e;exact⟨hB,o,hl, .inl ho⟩
theorem AbI.new {B:Nat} {β:Type} {J:β→World→Prop} (h:AbI B J) {s:β} {W:World} (o:Obj) (hs:J s W):J s (W.alloc o):=
 h s W _ none hs (World.grownBy_alloc W o none) fun r e=>by cases e
def SeqI {α:Type} (F:Fence) (n:Nat) (P:Program) (gf:Nat) (lb:Array Value) (encs:α→Array Value) (Kp:World→World→Prop) (S Sp:List α→Prop) (N:Nat) (w:World):Prop:=
 ∀(l:Nat) (J Jx:List α→World→Prop) (W:World),Below w.heap.size w W→AbI W.heap.size J→AbI W.heap.size Jx→
  (∀ pre x V,J pre V→pre.length<N→YieldAt F (n-1) P l (encs x) V fun e V'=>(e= .returned (.bool true)∧J (pre++[x]) V'∧Kp V V')∨(e= .returned (.bool false)∧Jx (pre++[x]) V'))→
  J [] W→
  CallsIn F n P gf (#[.func (.yield l) #[] #[]]++lb) W fun e V=>(∃ v,e= .returned v)∧((∃ xs,S xs∧J xs V)∨(∃ pre,Sp pre∧Jx pre V))
def recd (fn:FuncId) (tmps:Array Value) (ps:Array Tmp) (assign body:Code) (d:Nat) (st:LoopState) (pe:Option Code):Loop:={ state:=st,pending:=pe,fn,tmps,params:=ps,assign,body,defers:=d }
section
variable {F:Fence} {n:Nat} {P:Program}
theorem stands {X Y:World} {row:Option Nat} {B k:Nat} {o:Obj} (hg:X.grownBy Y row) (hr: ∀ r,row=some r→B≤r∧ ∃ o,X.heap[r]? =some o∧(o.isCells=false∨ ∃ cs,∃ fz:Nat×Nat,o= .cells cs 3 fz)) (hk:X.heap[k]? =some o) (hkB:k<B):Y.heap[k]? =some o:=
 (hg.block k (lt_of_heap hk) fun e=>by have:=(hr k e.symm).1;omega).trans hk
theorem rng_own {α:Type} {g:Operand} {ps:Array Tmp} {assign body:Code} {Q:Exit→Act→World→Prop} {a:Act} {w:World}
  (hro:F.round=none) (h1:1≤n) {gf:Nat} {lb:Array Value} (hg:a.eval g= .func (.func gf) #[] lb) (hFg:F.fn gf) (eg: ∀ args w,(callFunc gf args).run P w= .ok (.enter gf args) w)
  {encs:α→Array Value} {Kp:World→World→Prop} {S Sp:List α→Prop} {N:Nat} (hseq:SeqI F (n-1) P gf lb encs Kp S Sp N w)
  (hKt: ∀ {A B C:World},Kp A B→Kp B C→Kp A C) (hKb: ∀(W:World) (l:Nat) (o o':Obj),w.heap.size≤l→W.heap[l]? =some o→o.isCells=false→o.isWalk=false→Kp W (W.putObj l o')) (hps: ∀ x,(encs x).size=ps.size)
  (I:List α→World→Prop) (Ix:Code→List α→World→Prop) (hI:AbI w.heap.size I) (hIx: ∀ c,AbI w.heap.size (Ix c)) (h0:I [] w) (Ax:α→Act→World→Prop) (hAx: ∀ x a',AbI w.heap.size (fun(_:Unit) W=>Ax x a' W))
  (hassign: ∀(l:Nat) (pre:List α) (x:α) (W:World) (K:Act→World→Prop),I pre W→(∀ a' W',KeepsFrom w.heap.size W W'→Kp W W'→I pre W'→Ax x a' W'→K a' W')→
   assign.wpIn (F.inRound l) (n-1-1) P (Exit.then K (fun _ _ _=>False)) { tmps:=(ps.zip (encs x)).foldl (fun t (p,v)=>t.setIfInBounds p v) a.tmps,defers:=[] } W)
  (hbody: ∀(l:Nat) (pre:List α) (x:α) (a':Act) (W:World),I pre W→Ax x a' W→pre.length<N→body.wpIn (F.inRound l) (n-1-1) P (ownPostG w.heap.size Kp I Ix (pre++[x]) W) a' W)
  (hdone: ∀(D:Nat) (xs:List α) (W:World),w.heap.size≤D→S xs→I xs W→W.heap[D]? =some (.deferred (some []))→Q .normal { a with defers:={ target:= .collected D,args:= #[] }::a.defers } W)
  (hstop: ∀(D:Nat) (c:Code) (pre:List α) (W:World),w.heap.size≤D→Sp pre→Ix c pre W→W.heap[D]? =some (.deferred (some []))→c.wpIn F n P Q { a with defers:={ target:= .collected D,args:= #[] }::a.defers } W):
  (Code.rangeFunc g ps assign body).wpIn F n P Q a w:=by
 refine wpIn_rangeFunc fun fn hfn=> ?_
 rw[hro];obtain⟨s,es⟩: ∃ s,w.heap.size=s:=⟨_,rfl⟩;have en:=run_enterLoop_outer (P:=P) (w:=w) fn a.tmps ps assign body;rw[es]at en;obtain⟨R,hR⟩: ∃ R:LoopState→Option Code→Loop,R=recd fn a.tmps ps assign body s:=⟨_,rfl⟩;have eR: ∀ st pe,(R st pe)={ state:=st,pending:=pe,fn,tmps:=a.tmps,params:=ps,assign,body,defers:=s }:=fun st pe=>by rw[hR];rfl
 rw[←eR]at en;obtain⟨V,hV⟩: ∃ V,(w.alloc (.deferred (some []))).alloc (.loop (R .ready none))=V:=⟨_,rfl⟩;rw[hV]at en;have sV:V.heap.size=s+2:=by rw[←hV];simp[es]
 have dV:V.heap[s]? =some (.deferred (some [])):=by
  rw[←hV,←es];exact(heap_alloc_old _ _ (by simp)).trans (heap_alloc_new w _)
 have lV:V.heap[s+1]? =some (.loop (R .ready none)):=by
  rw[←hV];have:=heap_alloc_new (w.alloc (.deferred (some []))) (.loop (R .ready none));rwa [show(w.alloc (.deferred (some []))).heap.size=s+1 by simp[es]]at this
 have iV:I [] V:=by rw[←hV];exact hI.new _ (hI.new _ h0)
 have bV:Below w.heap.size w V:=by rw[←hV];exact((Below.refl _ w).alloc (Nat.le_refl _) _).alloc (by simp) _
 refine⟨s+1,[{ target:= .collected s,args:= #[] }],V,{ target:= .fn (.func gf) lb,args:= #[.func (.yield (s+1)) #[] #[]] },V,gf, #[.func (.yield (s+1)) #[] #[]]++lb,V,en, ?_, ?_, ?_,fun _=>h1, ?_⟩
 ·simp only[resolve,hg]
  simp[go_sem]
 ·intro f' hf'
  simp[Target.leads]at hf'
  subst hf';exact hFg
 ·simp[invoke,go_sem,eg]
 rw[es]at hI hIx hAx hKb hassign hbody hdone hstop;refine(hseq (s+1) (fun pre W=>I pre W∧W.heap[s+1]? =some (.loop (R .ready none))∧W.heap[s]? =some (.deferred (some [])))
  (fun pre W=> ∃ c,Ix c pre W∧W.heap[s+1]? =some (.loop (R .done (some c)))∧W.heap[s]? =some (.deferred (some []))) V bV ?_ ?_ ?_ ⟨iV,lV,dV⟩).mono ?_
 ·rintro t X Y row ⟨k1,k2,k3⟩ hgr hrow
  rw[sV]at hrow;exact⟨hI t X Y row k1 hgr fun r e=>⟨by have:=(hrow r e).1;omega,(hrow r e).2⟩,stands hgr hrow k2 (by omega),stands hgr hrow k3 (by omega)⟩
 ·rintro t X Y row ⟨c,k1,k2,k3⟩ hgr hrow
  rw[sV]at hrow;exact⟨c,hIx c t X Y row k1 hgr fun r e=>⟨by have:=(hrow r e).1;omega,(hrow r e).2⟩,stands hgr hrow k2 (by omega),stands hgr hrow k3 (by omega)⟩
 ·rintro pre x W ⟨k1,k2,k3⟩ hlen
  have hy:=run_yield (P:=P) (args:=encs x) k2 (by rw[eR];exact hps x);rw[eR]at hy;refine⟨fn,_,assign,body,hy,roundIn_of_wpIn hfn (hassign _ pre x W _ k1 fun a' W2 kf kp i2 ax=> ?_)⟩;have l2:=kf.same _ _ (by omega) k2 rfl;have d2:=kf.same _ _ (Nat.le_refl _) k3 rfl;have z2:=lt_of_heap l2;refine⟨_,run_beginRound l2 (by rw[eR]), ?_⟩;have l3:(W2.putObj (s+1) (.loop { R .ready none with state:= .busy })).heap[s+1]? =some (.loop { R .ready none with state:= .busy }):=World.putObj_heap_same z2;have d3:(W2.putObj (s+1) (.loop { R .ready none with state:= .busy })).heap[s]? =some (.deferred (some [])):=(World.putObj_heap_other (by omega)).trans d2;have kp3:=hKb W2 (s+1) _ (.loop { R .ready none with state:= .busy }) (by omega) l2 rfl rfl;refine wpIn_mono (hbody _ pre x a' _ (hI.put _ i2 (by omega) l2 rfl) ((hAx x a').put (s:=()) _ ax (by omega) l2 rfl) hlen) ?_;have fin: ∀(j:Option Code) (W4:World),KeepsFrom s (W2.putObj (s+1) (.loop { R .ready none with state:= .busy })) W4→
    (Instr.endRound (s+1) j).run P W4= .ok (.bool j.isNone) (W4.putObj (s+1) (.loop (R (if j.isNone then .ready else .done) j)))∧W4.heap[s+1]? =some (.loop { R .ready none with state:= .busy })∧
    (W4.putObj (s+1) (.loop (R (if j.isNone then .ready else .done) j))).heap[s+1]? =some (.loop (R (if j.isNone then .ready else .done) j))∧
    (W4.putObj (s+1) (.loop (R (if j.isNone then .ready else .done) j))).heap[s]? =some (.deferred (some [])):=fun j W4 kf4=>by
   have l4:=kf4.same _ _ (by omega) l3 rfl;have d4:=kf4.same _ _ (Nat.le_refl _) d3 rfl;have r4:=run_endRound (P:=P) j l4;rw[eR]at r4;exact⟨by rw[eR];exact r4,l4,World.putObj_heap_same (lt_of_heap l4),(World.putObj_heap_other (by omega)).trans d4⟩
  rintro e a3 W4 hp;cases e with
  | normal=>
   obtain⟨kf4,kp4,i4⟩:=hp;obtain⟨r4,l4,l5,d5⟩:=fin none W4 kf4;exact⟨_,_,r4, .inl ⟨rfl,⟨hI.put _ i4 (by omega) l4 rfl,l5,d5⟩,hKt kp (hKt (hKt kp3 kp4) (hKb _ _ _ _ (by omega) l4 rfl rfl))⟩⟩
  | ret=>
   obtain⟨kf4,i4⟩:=hp;obtain⟨r4,l4,l5,d5⟩:=fin (some .ret) W4 kf4;exact⟨_,_,r4, .inr ⟨rfl, .ret,(hIx _).put _ i4 (by omega) l4 rfl,l5,d5⟩⟩
  | exit id=>
   obtain⟨kf4,i4⟩:=hp;obtain⟨r4,l4,l5,d5⟩:=fin (some (.exit id)) W4 kf4;exact⟨_,_,r4, .inr ⟨rfl, .exit id,(hIx _).put _ i4 (by omega) l4 rfl,l5,d5⟩⟩
  | goto t=>
   obtain⟨kf4,i4⟩:=hp;obtain⟨r4,l4,l5,d5⟩:=fin (some (.goto t)) W4 kf4;exact⟨_,_,r4, .inr ⟨rfl, .goto t,(hIx _).put _ i4 (by omega) l4 rfl,l5,d5⟩⟩
  | panic ch=>exact hp.elim
  | outgrown=>exact hp.elim
 ·rintro e W5 ⟨⟨v,rfl⟩,(⟨xs,hS,k1,k2,k3⟩ | ⟨pre,hSp,c,k1,k2,k3⟩)⟩
  ·have r5:=run_endLoop (P:=P) k2 (by rw[eR];simp)
   rw[eR]at r5;exact⟨none,_,r5,hdone _ xs _ (Nat.le_refl _) hS (hI.put _ k1 (by omega) k2 rfl) ((World.putObj_heap_other (by omega)).trans k3)⟩
  ·have r5:=run_endLoop (P:=P) k2 (by rw[eR];simp)
   rw[eR]at r5;exact⟨some c,_,r5,hstop _ c pre _ (Nat.le_refl _) hSp ((hIx c).put _ k1 (by omega) k2 rfl) ((World.putObj_heap_other (by omega)).trans k3)⟩
end
end
section
open Go.RowKit Go.Lib Go.Shelf
attribute [local go_sem] Oper.semAt_some
abbrev ST3:=List (Nat×KY×TT)
def rk:ST3→List KY
 | []=>[]
 | x::r=>x.2.1::x.2.2.keys++rk r
def spine:TT→ST3→ST3
 | .nil,st=>st
 | .node i a b l r,st=>spine l ((i,(a,b),r)::st)
def six (st:ST3):List Nat:=(st.map fun x=>x.1).reverse
theorem rk_spine (t:TT): ∀ st,rk (spine t st)=t.keys++rk st:=by
 induction t with
 | nil=>intro st;rfl
 | node i a b l r ihl ihr=>intro st;rw[spine,ihl,rk,TT.keys];simp
theorem six_spine (t:TT): ∀ st,six (spine t st)=six st++leastT t:=by
 induction t with
 | nil=>intro st;simp[spine,leastT]
 | node i a b l r ihl ihr=>intro st;rw[spine,ihl,leastT];simp[six]
def StOk (ns:List ND) (st:ST3):Prop:= ∀ x∈st,x.1<ns.length∧((ns.getD x.1 default).ka,(ns.getD x.1 default).kb)=x.2.1∧Rep ns (ns.getD x.1 default).r x.2.2
theorem StOk.spine {ns:List ND} (t:TT): ∀ {i:Int} {st:ST3},Rep ns i t→StOk ns st→StOk ns (spine t st):=by
 induction t with
 | nil=>intro i st _ h;exact h
 | node j a b l r ihl ihr=>
  intro i st h hs;obtain⟨rfl,h2,h3,h4,h5,h6,h7⟩:=h;rw[Go.Proofs.YtojgokiobdpclaaGreat.spine];refine ihl h6 fun x hx=> ?_
  rcases List.mem_cons.1 hx with rfl | hx
  ·exact⟨h2,by simp only[h3,h4],h7⟩
  ·exact hs x hx
theorem rk_len (t:TT) (st:ST3):(six st).length≤(rk st).length:=by
 induction st with
 | nil=>simp[six]
 | cons x r ih=>
  simp only[six,rk,List.length_reverse,List.length_map,List.length_cons,List.length_append]at*;omega
def KS (ty:TypeId):Prop:=ty=169∨ty=206
def KI (ty:TypeId):Prop:=KS ty∨ty=3
theorem KpT.wide {S S':TypeId→Prop} {A B:World} (h:KpT S A B) (hs: ∀ t,S t→S' t):KpT S' A B:=⟨h.size,fun k cs t fr hk ht=>h.kept k cs t fr hk fun h'=>ht (hs t h')⟩
theorem KpT.at_ {S:TypeId→Prop} {A B:World} (h:KpT S A B) {b:Nat} {t:TypeId} {cs:Array Value} (ha:At A b t cs) (hs: ¬ S t):At B b t cs:=h.kept b cs t _ ha hs
theorem KpT.sli {S:TypeId→Prop} {A B:World} (h:KpT S A B) {g:Nat→Nat} {i:Nat} {e:TypeId} {size:Nat} {v:Value} {n:Nat} {xs:List Value} (ha:Sli A g i e size v n xs) (hs: ¬ S e):Sli B g i e size v n xs:=by
 refine⟨ha.1, ?_⟩;rcases ha.2 with hn | ⟨b,off,cap,cur,h1,h2,h3,h4⟩
 ·exact .inl hn
 ·exact .inr ⟨b,off,cap,cur,h1,h2,h.kept b cur e _ h3 hs,h4⟩
theorem KpT.own {S:TypeId→Prop} {A B:World} (h:KpT S A B) {base:Nat} {e:TypeId} {size:Nat} {v:Value} {n:Nat} {xs:List Value} (ha:A.ownsRow base e size v n xs) (hs: ¬ S e):B.ownsRow base e size v n xs:=by
 refine⟨ha.1, ?_⟩;rcases ha.2 with hn | ⟨b,cap,cur,h1,h2,h3,h4⟩
 ·exact .inl hn
 ·exact .inr ⟨b,cap,cur,h1,h2,h.kept b cur e _ h3 hs,h4⟩
theorem KpT.ns {A B:World} (h:KpT KI A B) {g:Nat→Nat} {T b pa:Nat} {v:Value} {top size:Int} {ns:List ND} (hn:NsAt A g T b pa v top size ns):NsAt B g T b pa v top size ns:=by
 obtain⟨h1,h2⟩:=hn.ex;exact⟨⟨h.at_ h1.1 (by unfold KI KS;decide),h1.2⟩,h.sli h2 (by unfold KI KS;decide)⟩
theorem Below.gr {A B:World} (h:Below A.heap.size A B):A.grownBy B none:=⟨h.os,h.tape,h.output,h.size,fun k hk _=>h.block k hk⟩
theorem KpT.grown {A B:World} {row:Option Nat} (hg:A.grownBy B row) (hr: ∀ r,row=some r→ ∃ cs,∃ fz:Nat×Nat,A.heap[r]? =some (.cells cs 3 fz)):KpT KI A B:=
 ⟨hg.size,fun k cs t fr hk ht=>(hg.block k (lt_of_heap hk) fun e=>by
  obtain⟨cs',fz,h'⟩:=hr k e.symm;rw[hk]at h';cases h'
  exact ht (.inr rfl)).trans hk⟩
theorem own_int {A:World} {base:Nat} {v:Value} {n:Nat} {xs:List Value} (h:A.ownsRow base 3 1 v n xs): ∀ r,v.ownBlock=some r→base≤r∧ ∃ cs,A.heap[r]? =some (.cells cs 3 (0,0)):=by
 intro r hr;rcases h.2 with⟨rfl,_⟩ | ⟨b,cap,cur,rfl,h2,h3,_⟩
 ·cases hr
 ·cases hr
  exact⟨h2,cur,h3⟩
end
section
open Go.RowKit Go.Lib Go.Shelf
attribute [local go_sem] Oper.semAt_some
theorem step_append_two {w:World} {ops:Array Oper} {o:Oper} {a:Act} {K:Act→World→Prop} {Q:Exit→Act→World→Prop} {E:Prop} (hgd:o.guard=none) (s x:Operand)
  (ho:o.op= .call { callee:= .builtin .append,args:= #[s,x],argTypes:= #[39,39] })
  (base base2:Nat) (v:Value) (n:Nat) (xs:List Value) (hs:a.eval s=v) (hown:w.ownsRow base 3 1 v n xs)
  (vx:Value) (m:Nat) (l:List Nat) (hx:a.eval x=vx) (hownx:w.ownsRow base2 3 1 vx m (ints l)) (hnm:n+m≤100000) (hbase:base≤w.heap.size)
  (h: ∀ v' w',w'.ownsRow base 3 1 v' (n+m) (xs++ints l)→w.grownBy w' v.ownBlock→K (a.put o.dst v') w'):
  if Region.wanted o (yielded ops a.tmps)=true then Oper.wp Tryz.prog o a w K Q else E:=by
 obtain⟨i0,HI⟩:=infoI;rcases Nat.eq_zero_or_pos m with rfl | hm
 ·have hw:Region.wanted o (yielded ops a.tmps)=true:=by simp[Region.wanted,hgd]
  rw[if_pos hw];obtain⟨a1,c1,rfl,q1,_⟩:=(Rd.own hown).form;obtain⟨a2,c2,rfl,q2,_⟩:=(Rd.own hownx).form;have hr:=run_append_none (P:=Tryz.prog) (w:=w) 39 o.type 3 i0 Tryz.underlying39 HI.out.1 a1 a2 n c1 c2 q1;unfold Oper.wp execOp;simp only[ho,resolve,invoke,builtin,Sem.run_bind,Sem.run_pure,Result.andThen_ok,List.map_toArray,List.map_cons,List.map_nil,hs,hx,hr];have hl:ints l=[]:=List.eq_nil_of_length_eq_zero (by simpa using hownx.1);refine h _ _ ?_ (World.grownBy.refl w _);rw[hl,List.append_nil];exact hown
 ·obtain⟨g,c,rfl,_⟩:=hownx.form hm
  have hil:(ints l).length=m*1:=hownx.1;exact step_append_lies _ hgd s x 39 ho base 3 i0 (.int .i64 0) 1 8 Tryz.underlying39 HI.out.1 HI.out.2.1 HI.out.2.2.1 HI.out.2.2.2 rfl (by decide) v n xs hs hown ⟨g,0,none⟩ m c (ints l) hx hil (hownx.cells (g:=g) rfl)
   (fun u hu=>by simp only[ints,List.mem_map]at hu;obtain⟨q,_,rfl⟩:=hu;rfl) hm (by unfold maxLen;omega) (by omega) hbase _ rfl fun g' cap w' k1 k2 _ _=>h _ _ k1 k2
theorem least_ex {p:Nat→Prop} (h: ∃ k,p k): ∃ k,p k∧ ∀ j,p j→k≤j:=by
 obtain⟨k,hk⟩:=h;induction k using Nat.strongRecOn with
 | ind k ih=>
  by_cases hj: ∃ j,j<k∧p j
  ·obtain⟨j,h1,h2⟩:=hj
   exact ih j h1 h2
  ·exact⟨k,hk,fun j hp=>Nat.le_of_not_lt fun hlt=>hj ⟨j,hlt,hp⟩⟩
open Classical in
noncomputable def mz (p:Nat→Prop):Nat:=if h: ∃ k,p k then Classical.choose (least_ex h)else 0
theorem mz_spec {p:Nat→Prop} {k:Nat} (h:p k):p (mz p)∧mz p≤k:=by
 have hx: ∃ k,p k:=⟨k,h⟩;unfold mz;rw[dif_pos hx];have:=Classical.choose_spec (least_ex hx);exact⟨this.1,this.2 k h⟩
structure Mid (ns:List ND) (ks:List KY) (J:List KY→World→Prop) (W:World) (done:List KY) (st:ST3) (v:Value) (wr:World):Prop where
 ok:StOk ns st
 all:done++rk st=ks
 own:wr.ownsRow W.heap.size 3 1 v st.length (ints (six st))
 inv:J done wr
 kp:KpT KI W wr
theorem own_pop {w:World} {base g n cap:Nat} {e:TypeId} {xs:List Value} {y:Value} (h:w.ownsRow base e 1 (.slice (some ⟨g,0,none⟩) (n+1) cap) (n+1) (xs++[y])):w.ownsRow base e 1 (.slice (some ⟨g,0,none⟩) n cap) n xs:=by
 have hl:=h.1;simp only[List.length_append,List.length_singleton,Nat.mul_one]at hl;refine⟨by omega, ?_⟩;rcases h.2 with⟨h1,h2⟩ | ⟨b,c,cur,h1,h2,h3,h4,h5,h6,h7⟩
 ·omega
 ·cases h1
  refine .inr ⟨g,cap,cur,rfl,h2,h3,by omega,h5,h6, ?_⟩;rw[Nat.mul_one]at h7 ⊢;have:=congrArg (List.take n) h7;rw[List.take_take,Nat.min_eq_left (by omega)]at this;rw[this,List.take_append_of_le_length (by omega),List.take_of_length_le (by omega)]
theorem six_len (st:ST3):(six st).length=st.length:=by simp[six]
set_option maxRecDepth 100000 in
theorem rball1_in (n:Nat) (hn:1≤n) (l Bs b:Nat) (pa:Nat) (v:Value) (top:Nat) (size:Int) (ns:List ND) (t:TT) (htop:top≤100000) (hR:Rep ns ((top:Int)-1) t) (sz:t.idx.length≤300) (J Jx:List KY→World→Prop)
  (hY: ∀ pre x W,J pre W→pre.length<t.keys.length→YieldAt Fence.wide (n-1) Tryz.prog l #[kyv x] W fun e W'=>
   (e= .returned (.bool true)∧J (pre++[x]) W'∧KpT KS W W')∨(e= .returned (.bool false)∧Jx (pre++[x]) W'))
  (W:World) (hBs:At W Bs 103 #[.pointer (some ⟨b,0,none⟩)]) (g:Nat→Nat) (T:Nat) (hN:NsAt W g T b pa v top size ns) (hJ:AbI W.heap.size J) (h0:J [] W):
  CallsIn Fence.wide n Tryz.prog 144 #[.func (.yield l) #[] #[], .pointer (some ⟨Bs,0,none⟩)] W fun e W'=>(∃ v,e= .returned v)∧
   ((∃ ys,ys=t.keys∧J ys W')∨(∃ pre,pre<+:t.keys∧Jx pre W')):=by
 have CR:Hid (∀ w',KpT KI W w'→Calls Tryz.prog 145 #[.pointer (some ⟨b,0,none⟩)] w' fun e w''=>e= .returned (.int .i64 ((top:Int)-1))∧w'=w''):=zH fun w' hB=>rbroot_any b pa v top size ns (by omega) (by omega) g T w' (hB.ns hN)
 have CL:Hid (∀ w' i u,KpT KI W w'→Rep ns i u→u.idx.length≤300→Calls Tryz.prog 146 #[.pointer (some ⟨b,0,none⟩), .int .i64 i] w' fun e w''=> ∃ v',e= .returned v'∧w''.ownsRow w'.heap.size 3 1 v' (leastT u).length (ints (leastT u))∧Below w'.heap.size w' w''):=zH fun w' i u hB hr hs=>rbleast_any b pa v top size ns u i hr hs g T w' (hB.ns hN)
 have HN:=zH hN;have HY:=zH hY;have HJ:=zH hJ;have HH0:=zH h0;have HB:=zH hBs;have c0:=hBs.cell 0;simp only[List.getElem?_toArray,List.getElem?_cons_zero]at c0;refine callsIn_of_wp Tryz.func144 rfl trivial ?_ rfl;simp only[Tryz.ntmps144,List.size_toArray,List.length_cons,List.length_nil,Nat.reduceAdd,Nat.reduceSub,Array.replicate_succ,Array.replicate_zero,List.push_toArray,List.append_toArray,List.nil_append,List.cons_append];clear hN hY hJ h0 hBs;refine wpIn_wide.2 ?_;cases ht:t with
 | nil=>
  have hR0:(top:Int)-1= -1:=by rw[ht]at hR;exact hR
  have hb:((top:Int)-1== -1)=true:=by rw[beq_iff_eq];exact hR0
  go_wp2_with fail
  refine(CR.out _ (KpT.refl _ _)).mono ?_;rintro e w1 ⟨rfl,rfl⟩;go_wp2_with fail
  refine bodyPost_ret (results_none rfl _ _ _) rfl ?_;exact⟨⟨_,rfl⟩, .inl ⟨_,rfl,HH0.out⟩⟩
 | node ti ta tb tl tr=>
  rw[←ht];have hb:((top:Int)-1== -1)=false:=by
   rw[ht]at hR;obtain⟨h1,_⟩:=hR;rw[beq_eq_false_iff_ne];omega
  have HR:=zH hR;clear hR ht;obtain⟨tp,etp⟩: ∃ tp:Int,(top:Int)-1=tp:=⟨_,rfl⟩;rw[etp]at CR hb HR;go_wp2_with fail
  refine(CR.out _ (KpT.refl _ _)).mono ?_;rintro e w1 ⟨rfl,rfl⟩;go_wp2_with fail
  refine wp_region_held_drew (S:=fun wq=>wq.cell? ⟨Bs,0,none⟩=some (.pointer (some ⟨b,0,none⟩))) (by kernel_rfl) c0 (fun hHeld=> ?_);refine zt 0 ?_;refine zt 1 ?_;refine zc 2 (fun K hK=> ?_);go_simp;refine(CR.out _ (KpT.below (Below.drew (Below.refl _ _)))).mono ?_;rintro e4 w4 ⟨rfl,rfl⟩;refine hK.out _ _ ?_ (fun hHeld=> ?_);focus exact c0
  clear hK K;refine zl ?_;refine zc 3 (fun K hK=> ?_);go_simp;refine(CL.out _ _ t (KpT.below (Below.drew (Below.refl _ _))) HR.out sz).mono ?_;rintro e4 w4 ⟨v4,rfl,hO4,hB4⟩;refine hK.out _ _ ?_ (fun hHeld=> ?_);focus exact(hB4.cell (p:=⟨Bs,0,none⟩) HB.out.lt).trans c0
  clear hK K;refine zl ?_;refine zt 4 ?_;refine dnZ ?_;have hKd:KpT KI W w4:=(KpT.below (Below.drew (Below.refl W.heap.size W))).trans (KpT.below hB4);have hO5:w4.ownsRow W.heap.size 3 1 v4 (spine t []).length (ints (six (spine t []))):=by
   have e1:six (spine t [])=leastT t:=by rw[six_spine];simp[six]
   rw[←six_len,e1];exact hO4
  have h04:J [] w4:=HJ.out _ _ _ none (HJ.out _ _ _ none HH0.out (Below.gr (Below.drew (Below.refl W.heap.size W))) (fun r e=>by cases e)) (Below.gr hB4) (fun r e=>by cases e);have HM:=zH (show Mid ns t.keys J W [] (spine t []) v4 w4 from⟨StOk.spine t HR.out (fun _ h=>by cases h),by rw[rk_spine];simp[rk],hO5,h04,hKd⟩);clear hKd hO5 h04 hB4 hO4 hHeld;go_wp2_with fail
  go_loopw [3] (fun v3 wr=> ∃ done st,Mid ns t.keys J W done st v3 wr) (fun v3 wr=>mz (fun k=> ∃ done st,Mid ns t.keys J W done st v3 wr∧(rk st).length=k))
  case atStart=>exact⟨_,_,HM.out⟩
  case round=>
   obtain⟨done0,st0,hm0⟩:=hrel;obtain⟨⟨done,st,hm,hk⟩,_⟩:=mz_spec (p:=fun k=> ∃ done st,Mid ns t.keys J W done st u3 wr∧(rk st).length=k) ⟨done0,st0,hm0,rfl⟩;have hgoal: ∀ v' w' done' st',Mid ns t.keys J W done' st' v' w'→(rk st').length<(rk st).length→mz (fun k=> ∃ done st,Mid ns t.keys J W done st v' w'∧(rk st).length=k)<mz (fun k=> ∃ done st,Mid ns t.keys J W done st u3 wr∧(rk st).length=k):=fun v' w' done' st' h1 h2=>by
    have:=(mz_spec (p:=fun k=> ∃ done st,Mid ns t.keys J W done st v' w'∧(rk st).length=k) ⟨done',st',h1,rfl⟩).2;omega
   have HG:=zH hgoal;clear hm0 hk hgoal;obtain⟨a3,c3,rfl,m3⟩:=own_form hm.own;cases st with
   | nil=>
    have hJd:=hm.inv;have hal:=hm.all;simp only[rk,List.append_nil]at hal;rw[hal]at hJd;have HJd:=zH hJd;clear hm hJd;go_wp2_with fail
    go_end0
    exact⟨⟨_,rfl⟩, .inl ⟨_,rfl,HJd.out⟩⟩
   | cons x rest=>
    obtain⟨i,k,r⟩:=x;obtain⟨bt,ct,et,hbt⟩:=hm.own.form (by simp);cases et
    have hsix:six ((i,k,r)::rest)=six rest++[i]:=by simp[six]
    have hO:=hm.own;rw[hsix,show ints (six rest++[i])=ints (six rest)++[.int .i64 (i:Nat)]from by simp[ints]]at hO;have hti:wr.cell? ⟨bt,rest.length,none⟩=some (.int .i64 (i:Nat)):=by
     have:=hO.cells (g:=bt) rfl rest.length (.int .i64 (i:Nat)) (by rw[←six_len rest,←ints_len];simp);rw[Addr.add_lit]at this;simpa using this
    have hP:=own_pop hO;obtain⟨hin,hik,hir⟩:=hm.ok (i,k,r) (List.mem_cons_self ..);have hNr:=hm.kp.ns HN.out;obtain⟨bb,off,cap,rfl⟩:=ns_form hNr (by omega);obtain⟨q1,qO,qS,qne,qc,qf⟩:=ns_at hNr;have r0:=qc i _ (getD_some hin) 0 (by omega);have r1:=qc i _ (getD_some hin) 1 (by omega);simp only[ndl,List.getElem?_cons_zero,List.getElem?_cons_succ,Nat.add_zero]at r0 r1;have cB:=(hm.kp.at_ HB.out (by unfold KI KS;decide)).cell 0;simp only[List.getElem?_toArray,List.getElem?_cons_zero]at cB;have HM1:=zH hm;have HP:=zH hP;have hplen:done.length<t.keys.length:=by rw[←hm.all];simp[rk]
    obtain⟨k1,k2⟩:=k;simp only[Prod.mk.injEq]at hik;rw[hik.1]at r0;rw[hik.2]at r1;obtain⟨fn,tmps,assign,body,hy,hRd⟩:=HY.out done (k1,k2) wr hm.inv hplen;dsimp only[kyv]at hy
    have hcl:rest.length+1≤c3:=m3;have hr300:rest.length≤300:=by
     have h1:=rk_len t ((i,(k1,k2),r)::rest);have h2:=congrArg List.length hm.all;rw[List.length_append]at h2;rw[six_len]at h1;simp only[List.length_cons]at h1;have h3:=idx_len t;omega
    clear hm hO hP hNr qO qS qc qf;go_upto_region 5 with fail
    refine(wpIn_wide (n:=n)).1 ?_;gi_wp2
    refine hRd.mono ?_;rintro e W3 (⟨rfl,hJ3,hk3⟩ | ⟨rfl,hJx3⟩)
    ·have hK3:KpT KI W W3:=HM1.out.kp.trans (hk3.wide fun ty h=> .inl h)
     have hP3:=hk3.own HP.out (by unfold KS;decide);have hN3:=hK3.ns HN.out;obtain⟨p1,pO,pS,pne,pc,pf⟩:=ns_at hN3;have s3:=pc i _ (getD_some hin) 3 (by omega);simp only[ndl,List.getElem?_cons_zero,List.getElem?_cons_succ]at s3;obtain⟨ri,eri⟩: ∃ ri,(ns.getD i default).r=ri:=⟨_,rfl⟩;rw[eri]at s3 hir;have cB3:=(hK3.at_ HB.out (by unfold KI KS;decide)).cell 0;simp only[List.getElem?_toArray,List.getElem?_cons_zero]at cB3;have hbt3:b<W3.heap.size:=hN3.lt.1;have hbb3:bb<W3.heap.size:=pS.tag_.2;have hBs3:Bs<W3.heap.size:=(hK3.at_ HB.out (by unfold KI KS;decide)).lt;have HP3:=zH hP3;have HK3:=zH hK3;have HJ3:=zH hJ3;have hrs:r.idx.length≤300:=by
      have h2:=congrArg List.length HM1.out.all;simp only[List.length_append,rk,List.length_cons]at h2;have h3:=idx_len t;have h4:=idx_len r;omega
     clear hP3 hK3 hJ3 hk3 hN3 pO pS pc pf r0 r1 q1 cB hti hy hRd;gi_wp2
     go_wp2_with fail
     refine wp_region_held_drew (S:=fun wq=>wq.cell? ⟨Bs,0,none⟩=some (.pointer (some ⟨b,0,none⟩))∧wq.cell? ⟨b,1,none⟩=some (.slice (some ⟨bb,off,none⟩) ns.length cap)∧wq.cell? ⟨bb,off+i*5+3,none⟩=some (.int .i64 ri)) (by kernel_rfl) ⟨cB3,p1,s3⟩ (fun hHeld=> ?_);refine zt 0 ?_;refine zt 1 ?_;refine zt 2 ?_;refine zt 3 ?_;refine zt 4 ?_;refine zt 5 ?_;refine zt 6 ?_;refine zt 7 ?_;refine zt 8 ?_;refine zt 9 ?_;refine zc 10 (fun K hK=> ?_);go_simp;refine(CL.out _ ri r (HK3.out.trans (KpT.below (Below.drew (Below.refl _ _)))) hir hrs).mono ?_;rintro e4 w4 ⟨v4b,rfl,hO4,hB4⟩;have hOT:=own_below (w:=W3.drew) HP3.out hB4;have hsz4:W.heap.size≤w4.heap.size:=Nat.le_trans HK3.out.size hB4.size;refine hK.out _ _ ?_ (fun hHeld=> ?_);focus exact⟨(hB4.cell (p:=⟨Bs,0,none⟩) hBs3).trans cB3,(hB4.cell (p:=⟨b,1,none⟩) hbt3).trans p1,(hB4.cell (p:=⟨bb,off+i*5+3,none⟩) hbb3).trans s3⟩
     clear hK K;refine zl ?_;refine zc 11 (fun K hK=> ?_);refine step_append_two rfl _ _ rfl W.heap.size _ _ _ _ rfl hOT _ _ (leastT r) rfl hO4 (by have:=leastT_len r;omega) hsz4 ?_;intro v5 w5 hO5 hg5;have hK5:=(show KpT KI W w5 from((HK3.out.trans (KpT.below (Below.drew (Below.refl _ _)))).trans (KpT.below hB4)).trans (KpT.grown hg5 (fun q hq=>(by obtain⟨h1,cs,h2⟩:=own_int hOT q hq;exact⟨cs,_,h2⟩))));have hN5:=ns_at (hK5.ns HN.out);have e5:=hN5.2.2.2.2.1 i _ (getD_some hin) 3 (by omega);simp only[ndl,List.getElem?_cons_zero,List.getElem?_cons_succ,eri]at e5;refine hK.out _ _ ?_ (fun hHeld=> ?_);focus exact⟨(hK5.at_ HB.out (by unfold KI KS;decide)).cell 0,hN5.1,e5⟩
     clear hK K;refine zl ?_;refine zt 12 ?_;refine dnZ ?_;have hJ5:J (done++[(k1,k2)]) w5:=HJ.out _ _ _ _ (HJ.out _ _ _ none (HJ.out _ _ _ none HJ3.out (Below.gr (Below.drew (Below.refl W3.heap.size W3))) (fun r e=>by cases e)) (Below.gr hB4) (fun r e=>by cases e)) hg5 (fun q hq=>by obtain⟨h1,cs,h2⟩:=own_int hOT q hq;exact⟨h1,_,h2, .inr ⟨cs,_,rfl⟩⟩);have hO6:w5.ownsRow W.heap.size 3 1 v5 (spine r rest).length (ints (six (spine r rest))):=by
      rw[←six_len,six_spine,List.length_append,six_len,show ints (six rest++leastT r)=ints (six rest)++ints (leastT r)from by simp[ints]];exact hO5
     have hM5:=zH (show Mid ns t.keys J W (done++[(k1,k2)]) (spine r rest) v5 w5 from⟨StOk.spine r hir (fun x hx=>HM1.out.ok x (List.mem_cons_of_mem _ hx)),by rw[rk_spine,←HM1.out.all];simp[rk],hO6,hJ5,hK5⟩);clear hJ5 hK5 hN5 e5 hO6 hO5 hg5 hOT hO4 hB4 hHeld;go_wp2_with fail
     go_roundw
     case rel=>exact⟨_,_,hM5.out⟩
     case measure=>
      refine HG.out _ _ _ _ hM5.out ?_;rw[rk_spine];simp[rk]
    ·gi_wp2
     go_wp2_with fail
     refine bodyPost_ret (results_none rfl _ _ _) rfl ?_;refine⟨⟨_,rfl⟩, .inr ⟨done++[(k1,k2)],⟨r.keys++rk rest, ?_⟩,hJx3⟩⟩;rw[←HM1.out.all];simp[rk]
end
section
open Go.RowKit Go.Lib Go.Shelf
attribute [local go_sem] Oper.semAt_some
theorem rball_any (b:Nat) (w:World):
  Calls Tryz.prog 110 #[.pointer (some ⟨b,0,none⟩)] w fun e w'=>e= .returned (.func (.func 144) #[] #[.pointer (some ⟨w.heap.size,0,none⟩)])∧w'=w.alloc (.cells #[.pointer (some ⟨b,0,none⟩)] 103):=by
 go_enter Tryz.func110,Tryz.ntmps110
 go_wp2;go_ret
 exact⟨rfl,rfl⟩
def kenc (x:KY):Array Value:= #[kyv x]
theorem rball_seq (n:Nat) (hn:1≤n) (Bs b:Nat) (g:Nat→Nat) (T:Nat) (ks:List KY) (w:World) (hBs:At w Bs 103 #[.pointer (some ⟨b,0,none⟩)]) (hT:TreeAt w g T b ks):
  SeqI Fence.wide n Tryz.prog 144 #[.pointer (some ⟨Bs,0,none⟩)] kenc (KpT KS) (fun xs=>xs=ks) (fun pre=>pre<+:ks) ks.length w:=by
 intro l J Jx W hB hJ hJx hY h0;obtain⟨pa,v,top,ns,us,fr,t,h1,h2,h3⟩:=hT.ex;have htl:=h3.rep.top h3.room;have hil:t.idx.length≤300:=by
  have hs:t.idx ⊆ List.range ns.length:=fun i hi=>List.mem_range.2 (h3.rep.lt i hi)
  have q1:=nodup_len h3.nd hs;have q2:=h3.room;rw[List.length_range]at q1;omega
 have hk:=h3.keys;subst hk;exact rball1_in n hn l Bs b pa v top _ ns t (by omega) h3.rep hil J Jx hY W (hBs.below hB hBs.lt) g T (h1.below hB) hJ h0
def minV:List KY→Value
 | []=> .tuple #[.agg #[.int .u64 0, .int .u64 0], .bool false]
 | k::_=> .tuple #[kyv k, .bool true]
theorem at_keepI {W W':World} {row:Option Nat} {B B0:Nat} {t:TypeId} {cs:Array Value} (h:At W B t cs) (ht:t≠3) (hg:W.grownBy W' row) (hr: ∀ r,row=some r→B0≤r∧ ∃ o,W.heap[r]? =some o∧(o.isCells=false∨ ∃ cs,∃ fz:Nat×Nat,o= .cells cs 3 fz)):At W' B t cs:=
 h.kept hg fun e=>by
  obtain⟨_,o,ho,hc⟩:=hr B e.symm;unfold At at h;rw[h]at ho;cases ho
  rcases hc with hc | ⟨cs',fz,hc⟩
  ·cases hc
  ·cases hc;exact ht rfl
end
section
open Go.RowKit Go.Lib Go.Shelf
attribute [local go_sem] Oper.semAt_some
set_option maxRecDepth 100000 in
theorem rbmin_any (b:Nat) (ks:List KY) (g:Nat→Nat) (T:Nat) (w:World) (hT:TreeAt w g T b ks):
  Calls Tryz.prog 91 #[.pointer (some ⟨b,0,none⟩)] w fun e W'=>e= .returned (minV ks)∧Below w.heap.size w W':=by
 refine(callsIn_wide (n:=10)).1 ?_;refine callsIn_of_wp_marks Tryz.func91 rfl trivial ?_ rfl;simp only[Tryz.ntmps91,List.size_toArray,List.length_cons,List.length_nil,Nat.reduceAdd,Nat.reduceSub,Array.replicate_succ,Array.replicate_zero,List.push_toArray,List.append_toArray,List.nil_append,List.cons_append];have C:Hid (∀ w',Calls Tryz.prog 110 #[.pointer (some ⟨b,0,none⟩)] w' fun e w''=>e= .returned (.func (.func 144) #[] #[.pointer (some ⟨w'.heap.size,0,none⟩)])∧w''=w'.alloc (.cells #[.pointer (some ⟨b,0,none⟩)] 103)):=zH (rball_any b);have HT:=zH hT;clear hT;gi_wp2_with (refine⟨trivial, ?_⟩;gi_at_call 110;refine(callsIn_wide.2 (C.out _)).mono ?_;rintro e w' ⟨rfl,rfl⟩)
 obtain⟨s,es⟩: ∃ s,w.heap.size=s:=⟨_,rfl⟩;refine wpIn_named (fun W=>At W s 169 #[.int .u64 0, .int .u64 0]∧Boxed W (s+1) 4 (.bool false)∧At W (s+2) 103 #[.pointer (some ⟨b,0,none⟩)]∧W.heap.size=s+3∧Below s w W)
  ?nm ?_
 case nm=>
   subst es;refine⟨((At.made w _ _).al _).al _, ?_, ?_,by simp,(((Below.refl _ w).alloc (Nat.le_refl _) _).alloc (by simp) _).alloc (by simp;omega) _⟩
   ·have:=Boxed.new (w.alloc (.cells #[.int .u64 0, .int .u64 0] 169)) 4 (.bool false)
    simp only[World.size_alloc]at this;exact this.alloc _
   ·exact At.mk1 _ _ (by simp)
 rintro W ⟨A0,B1,A2,hsz,hBW⟩;simp only[es,Nat.add_assoc,Nat.reduceAdd];have hTW:TreeAt W g T b ks:=HT.out.below (by rw[es];exact hBW);refine rng_own (F:=Fence.wide) rfl (by omega) (gf:=144) (lb:= #[.pointer (some ⟨s+2,0,none⟩)]) rfl trivial (enters_of Tryz.func144 (by kernel_rfl) rfl)
  (rball_seq 9 (by omega) (s+2) b g T ks W A2 hTW) (fun h k=>h.trans k) (fun V l o o' _ h1 h2 _=>KpT.put V l o o' h1 h2) (fun _=>rfl)
  (fun pre V=>pre=[]∧At V s 169 #[.int .u64 0, .int .u64 0]∧Boxed V (s+1) 4 (.bool false)∧Below s w V)
  (fun c pre V=>c= .ret∧ ∃ x:KY,pre=[x]∧At V s 169 #[.int .u64 (x.1:Nat), .int .u64 (x.2:Nat)]∧Boxed V (s+1) 4 (.bool true)∧Below s w V)
  ?hI ?hIx ⟨rfl,A0,B1,hBW⟩
  (fun x a' V=> ∃ Bx,s+1<Bx∧At V Bx 169 #[.int .u64 (x.1:Nat), .int .u64 (x.2:Nat)]∧a'={ tmps:= #[.pointer (some ⟨b,0,none⟩),undef, .pointer (some ⟨s,0,none⟩), .pointer (some ⟨s+1,0,none⟩), .pointer (some ⟨Bx,0,none⟩), .pointer (some ⟨b,0,none⟩), .func (.func 144) #[] #[.pointer (some ⟨s+2,0,none⟩)],kyv x,undef,undef],defers:=[] }) ?hAx ?assign ?body ?done ?stop
 case hI=>
  rintro pre A B row ⟨h1,h2,h3,h5⟩ hg hr;exact⟨h1,at_keepI h2 (by decide) hg hr,at_keepI (cs:= #[.bool false]) h3 (by decide) hg hr,h5.grown hg (by rw[←es];rw[←es]at h5;exact h5.size) (fun k e=>by have:=(hr k e).1;omega)⟩
 case hIx=>
  rintro c pre A B row ⟨h0,x,h1,h2,h3,h5⟩ hg hr;exact⟨h0,x,h1,at_keepI h2 (by decide) hg hr,at_keepI (cs:= #[.bool true]) h3 (by decide) hg hr,h5.grown hg (by rw[←es];rw[←es]at h5;exact h5.size) (fun k e=>by have:=(hr k e).1;omega)⟩
 case hAx=>
  rintro x a' _ A B row ⟨Bx,h1,h2,h3⟩ hg hr;exact⟨Bx,h1,at_keepI h2 (by decide) hg hr,h3⟩
 case assign=>
  rintro lp pre x V K ⟨h0,h1,h2,h5⟩ hK;have hV:s+1<V.heap.size:=h2.lt;simp only[kenc];unfold kyv;gi_wp2
  exact hK _ _ ((KeepsOthers.alloc _ _).from _) (KpT.below ((Below.refl _ V).alloc (Nat.le_refl _) _)) ⟨h0,h1.al _,h2.alloc _,h5.alloc (by omega) _⟩ ⟨V.heap.size,hV,At.made V _ _,rfl⟩
 case body=>
  rintro lp pre x a' V ⟨rfl,h1,h2,h5⟩ ⟨Bx,hBx,hAt,rfl⟩ hpl;have c0:=h1.cell 0;have c1:=h1.cell 1;have f0:=h1.free 0;have f1:=h1.free 1;have d0:=h2.cell;have e0:=h2.frozen;have r0:=hAt.cell 0;have r1:=hAt.cell 1;simp only[List.getElem?_toArray,List.getElem?_cons_zero,List.getElem?_cons_succ]at r0 r1 c0 c1;gi_wp2
  have g0:At (((V.setCell ⟨s,0,none⟩ (.int .u64 (x.1:Nat))).setCell ⟨s,1,none⟩ (.int .u64 (x.2:Nat))).setCell ⟨s+1,0,none⟩ (.bool true)) s 169 #[.int .u64 (x.1:Nat), .int .u64 (x.2:Nat)]:=
   ((h1.set 0).set 1).far (by show s≠s+1;omega)
  have g1:Boxed (((V.setCell ⟨s,0,none⟩ (.int .u64 (x.1:Nat))).setCell ⟨s,1,none⟩ (.int .u64 (x.2:Nat))).setCell ⟨s+1,0,none⟩ (.bool true)) (s+1) 4 (.bool true):=
   ((h2.kept (grown_set V s 0 (.int .u64 (x.1:Nat))) (by simp)).kept (grown_set _ s 1 (.int .u64 (x.2:Nat))) (by simp)).set (.bool true)
  exact⟨(((KeepsOthers.setCell _ _ _).trans (KeepsOthers.setCell _ _ _)).trans (KeepsOthers.setCell _ _ _)).from _,rfl,x,rfl,g0,g1,
   ((h5.setCell (p:=⟨s,0,none⟩) (Nat.le_refl _) _).setCell (p:=⟨s,1,none⟩) (Nat.le_refl _) _).setCell (p:=⟨s+1,0,none⟩) (Nat.le_succ _) _⟩
 case done=>
  rintro D ys V hD rfl ⟨he,h1,h2,h5⟩ hK;have c0:=h1.cell 0;have c1:=h1.cell 1;have f0:=h1.free 0;have f1:=h1.free 1;have d0:=h2.cell;have e0:=h2.frozen;simp only[List.getElem?_toArray,List.getElem?_cons_zero,List.getElem?_cons_succ]at c0 c1;rw[hsz]at hD;gi_wp2
  have hK':=(((KeepsOthers.setCell V ⟨s,0,none⟩ (.int .u64 0)).trans (KeepsOthers.setCell _ ⟨s,1,none⟩ (.int .u64 0))).trans (KeepsOthers.setCell _ ⟨s+1,0,none⟩ (.bool false))).same D _ hK rfl;have g0:At (((V.setCell ⟨s,0,none⟩ (.int .u64 0)).setCell ⟨s,1,none⟩ (.int .u64 0)).setCell ⟨s+1,0,none⟩ (.bool false)) s 169 #[.int .u64 0, .int .u64 0]:=
   ((h1.set 0).set 1).far (by show s≠s+1;omega)
  have g1:Boxed (((V.setCell ⟨s,0,none⟩ (.int .u64 0)).setCell ⟨s,1,none⟩ (.int .u64 0)).setCell ⟨s+1,0,none⟩ (.bool false)) (s+1) 4 (.bool false):=
   ((h2.kept (grown_set V s 0 (.int .u64 0)) (by simp)).kept (grown_set _ s 1 (.int .u64 0)) (by simp)).set (.bool false)
  refine⟨by simp, .inl ⟨_,_,rfl,run_takeDeferred hK', ?_⟩⟩;have q0:=(at_keep (B0:=s) g0 (grownBy_putObj' _ D (.deferred none)) (fun r e=>by cases e;exact⟨by omega,_,hK',rfl⟩)).cell 0;have q1:=(at_keep (B0:=s) g0 (grownBy_putObj' _ D (.deferred none)) (fun r e=>by cases e;exact⟨by omega,_,hK',rfl⟩)).cell 1;have q2:=(boxed_kept (B0:=s) g1 (grownBy_putObj' _ D (.deferred none)) (fun r e=>by cases e;exact⟨by omega,_,hK',rfl⟩)).cell;simp only[List.getElem?_toArray,List.getElem?_cons_zero,List.getElem?_cons_succ]at q0 q1;refine⟨minV ys, ?_,rfl, ?_⟩
  ·rw[he]
   simp[results,Tryz.f91,go_sem,q0,q1,q2,minV]
  ·rw[es]
   exact(((h5.setCell (p:=⟨s,0,none⟩) (Nat.le_refl _) _).setCell (p:=⟨s,1,none⟩) (Nat.le_refl _) _).setCell (p:=⟨s+1,0,none⟩) (Nat.le_succ _) _).trans (belowK_b (w:=w) (by omega) _ D _ _ (by omega) hK' rfl rfl)
 case stop=>
  rintro D c pre V hD hp ⟨rfl,x,rfl,h1,h2,h5⟩ hK;rw[hsz]at hD;gi_wp2
  refine⟨by simp, .inl ⟨_,_,rfl,run_takeDeferred hK, ?_⟩⟩;have q0:=(at_keep (B0:=s) h1 (grownBy_putObj' _ D (.deferred none)) (fun r e=>by cases e;exact⟨by omega,_,hK,rfl⟩)).cell 0;have q1:=(at_keep (B0:=s) h1 (grownBy_putObj' _ D (.deferred none)) (fun r e=>by cases e;exact⟨by omega,_,hK,rfl⟩)).cell 1;have q2:=(boxed_kept (B0:=s) h2 (grownBy_putObj' _ D (.deferred none)) (fun r e=>by cases e;exact⟨by omega,_,hK,rfl⟩)).cell;simp only[List.getElem?_toArray,List.getElem?_cons_zero,List.getElem?_cons_succ]at q0 q1;obtain⟨r,hr⟩:=hp;refine⟨minV ks, ?_,rfl, ?_⟩
  ·rw[←hr]
   simp[results,Tryz.f91,go_sem,q0,q1,q2,minV,kyv]
  ·rw[es]
   exact h5.trans (belowK_b (w:=w) (by omega) _ D _ _ (by omega) hK rfl rfl)
end
section
open Go.RowKit Go.Lib
structure SG where
 sock:Nat
 frm:Nat
 len:Nat
 stamp:Nat
 again:Bool
def sgl (x:SG):List Value:=[.int .i64 x.sock, .int .u64 x.frm, .int .i64 x.len, .int .u64 x.stamp, .bool x.again]
def sgv (x:SG):Value:= .agg #[.int .i64 x.sock, .int .u64 x.frm, .int .i64 x.len, .int .u64 x.stamp, .bool x.again]
theorem sgl_len (x:SG):(sgl x).length=5:=rfl
theorem sgl_one (x:SG): ∀ u∈sgl x,u.oneCell'=true:=by
 intro u hu;simp only[sgl,List.mem_cons,List.not_mem_nil,or_false]at hu;rcases hu with rfl | rfl | rfl | rfl | rfl<;>rfl
structure CF where
 quantum:Nat
 first:Nat
 limit:Nat
 flowLimit:Nat
 horizon:Nat
 maxRate:Nat
 drop:Bool
 cap:Nat
 mss:Nat
def cfl (c:CF):List Value:=[.int .i64 c.quantum, .int .i64 c.first, .int .i64 c.limit, .int .i64 c.flowLimit, .int .u64 c.horizon, .int .u64 c.maxRate, .bool c.drop, .int .i64 c.cap, .int .i64 c.mss]
structure FL where
 credit:Int
 next:Nat
 since:Nat
 segs:List SG
def FlAt (w:World) (g:Nat→Nat) (T:Nat):Option Nat→Option FL→Prop
 | none,none=>True
 | some p,some f=> ∃ v,Of w g T p 144 #[.int .i64 f.credit, .int .u64 f.next, .int .u64 f.since,v]∧Sli w g (T+1) 48 5 v f.segs.length (f.segs.flatMap sgl)
 | _,_=>False
section
variable {w w':World} {g g':Nat→Nat} {T lo hi:Nat} {p:Option Nat} {f:Option FL}
theorem FlAt.below (h:FlAt w g T p f) (hb:Below w.heap.size w w'):FlAt w' g T p f:=by
 cases p<;>cases f<;>try exact h
 obtain⟨v,h1,h2⟩:=h;exact⟨v,h1.below hb,h2.below hb⟩
theorem FlAt.chg (h:FlAt w g T p f) (c:Chg w w' g g' lo hi) (h1:T+2≤lo∨hi≤T):FlAt w' g' T p f:=by
 cases p<;>cases f<;>try exact h
 obtain⟨v,k1,k2⟩:=h;exact⟨v,k1.chg c (by omega),k2.chg c (by omega)⟩
end
def pval (p:Option Nat):Value:= .pointer (p.map fun b=>⟨b,0,none⟩)
structure FQ where
 c:CF
 fl:Nat→Option FL
 fresh:List Nat
 old:List Nat
 waits:List KY
 n:Nat
def fqa (c:CF) (fp:Nat→Option Nat) (bl bt n:Nat):Array Value:=
 #[.int .i64 c.quantum, .int .i64 c.first, .int .i64 c.limit, .int .i64 c.flowLimit, .int .u64 c.horizon, .int .u64 c.maxRate, .bool c.drop, .int .i64 c.cap, .int .i64 c.mss,
  pval (fp 0),pval (fp 1),pval (fp 2),pval (fp 3),pval (fp 4),pval (fp 5),pval (fp 6),pval (fp 7), .pointer (some ⟨bl,0,none⟩), .pointer (some ⟨bt,0,none⟩), .int .i64 n]
structure FqIn (w:World) (g:Nat→Nat) (T b:Nat) (fp:Nat→Option Nat) (bl bt:Nat) (q:FQ):Prop where
 own:Of w g T b 108 (fqa q.c fp bl bt q.n)
 fls: ∀ s,s<8→FlAt w g (T+1+2*s) (fp s) (q.fl s)
 ls:LsAt w g (T+17) bl q.fresh q.old
 tr:TreeAt w g (T+20) bt q.waits
theorem fqa_flow (c:CF) (fp:Nat→Option Nat) (bl bt n s:Nat) (hs:s<8):(fqa c fp bl bt n)[9+s]? =some (pval (fp s)):=by
 match s,hs with
 | 0,_=>rfl
 | 1,_=>rfl
 | 2,_=>rfl
 | 3,_=>rfl
 | 4,_=>rfl
 | 5,_=>rfl
 | 6,_=>rfl
 | 7,_=>rfl
section
variable {w w':World} {g g':Nat→Nat} {T b lo hi bl bt:Nat} {fp:Nat→Option Nat} {q:FQ}
theorem FqIn.below (h:FqIn w g T b fp bl bt q) (hb:Below w.heap.size w w'):FqIn w' g T b fp bl bt q:=
 ⟨h.own.below hb,fun s hs=>(h.fls s hs).below hb,h.ls.below hb,h.tr.below hb⟩
theorem FqIn.chg (h:FqIn w g T b fp bl bt q) (c:Chg w w' g g' lo hi) (h1:T+25≤lo∨hi≤T):FqIn w' g' T b fp bl bt q:=
 ⟨h.own.chg c (by omega),fun s hs=>(h.fls s hs).chg c (by omega),h.ls.chg c (by omega),h.tr.chg c (by omega)⟩
end
def timeF (f:FL):Nat:=match f.segs with
 | []=>0
 | x::_=>max f.next x.stamp
theorem fqtime_any (p:Nat) (f:FL) (hs:f.segs≠[]) (g:Nat→Nat) (T:Nat) (w:World) (h:FlAt w g T (some p) (some f)):
  Calls Tryz.prog 86 #[.pointer (some ⟨p,0,none⟩)] w fun e w'=>e= .returned (.int .u64 (timeF f))∧ ∃ q,w'=w.drewN q:=by
 obtain⟨v,h1,h2⟩:=h;obtain⟨c,nx,si,segs⟩:=f;cases segs with
 | nil=>exact absurd rfl hs
 | cons x r=>
  rcases h2.form with⟨k1,k2,k3⟩ | ⟨bb,off,cap,rfl,k2,k3,k4,k5⟩
  ·cases k2
  ·have c1:=h1.1.ce 1
   have c3:=h1.1.ce 3;have r3:w.cell? ⟨bb,off+3,none⟩=some (.int .u64 x.stamp):=h2.cells 3 (by simp;omega);unfold timeF;have em:max (nx:Int) (x.stamp:Int)=((max nx x.stamp:Nat):Int):=max_cast _ _;obtain⟨m,hm⟩: ∃ m,max nx x.stamp=m:=⟨_,rfl⟩;simp only
   rw[hm]at em ⊢;clear h1 h2 hs hm;go_enter Tryz.func86,Tryz.ntmps86
   go_wp2;go_quiet (fail)
   go_wp2;go_ret
   exact⟨rfl,_,rfl⟩
end
section
open Go.RowKit Go.Lib
theorem fqkey_any (p:Nat) (f:FL) (hs:f.segs≠[]) (s:Nat) (hs8:s<8) (g:Nat→Nat) (T:Nat) (w:World) (h:FlAt w g T (some p) (some f)):
  Calls Tryz.prog 88 #[.pointer (some ⟨p,0,none⟩), .int .i64 s] w fun e w'=>e= .returned (kyv (timeF f,s))∧Below w.heap.size w w':=by
 have CT:Hid (∀ w',Below w.heap.size w w'→Calls Tryz.prog 86 #[.pointer (some ⟨p,0,none⟩)] w' fun e w''=>e= .returned (.int .u64 (timeF f))∧ ∃ q,w''=w'.drewN q):=zH fun w' hB=>fqtime_any p f hs g T w' (h.below hB)
 obtain⟨m,em⟩: ∃ m,timeF f=m:=⟨_,rfl⟩;rw[em]at CT ⊢;have hw:IntKind.u64.wrap (s:Int)=s:=by rw[IntKind.wrap_u64];omega
 clear h hs;unfold kyv;go_enter Tryz.func88,Tryz.ntmps88
 go_wp2_with fail
 refine(CT.out _ ((Below.refl _ w).alloc (Nat.le_refl _) _)).mono ?_;rintro e w1 ⟨rfl,q,rfl⟩;have A0:At ((w.alloc (.cells #[.int .u64 0, .int .u64 0] 169)).drewN q) w.heap.size 169 #[.int .u64 0, .int .u64 0]:=At.made w _ _;have c0:=A0.cell 0;have c1:=A0.cell 1;have f0:=A0.free 0;have f1:=A0.free 1;simp only[List.getElem?_toArray,List.getElem?_cons_zero,List.getElem?_cons_succ]at c0 c1;go_wp2_with fail
 have A1:=(A0.set (u:= .int .u64 (m:Nat)) 0).set (u:= .int .u64 (s:Nat)) 1;have d0:=A1.cell 0;have d1:=A1.cell 1;simp only[List.setIfInBounds_toArray,List.set_cons_zero,List.set_cons_succ,List.getElem?_toArray,List.getElem?_cons_zero,List.getElem?_cons_succ]at d0 d1;refine bodyPost_ret (v:= .agg #[.int .u64 (m:Nat), .int .u64 (s:Nat)]) ?_ rfl ⟨rfl, ?_⟩
 ·simp[results,Tryz.f88,go_sem,d0,d1]
 ·have B1:Below w.heap.size w ((w.alloc (.cells #[.int .u64 0, .int .u64 0] 169)).drewN q):=((Below.refl _ w).alloc (Nat.le_refl _) _).trans (Drn.below ⟨q,rfl⟩ |>.mono (by simp))
  exact(B1.setCell (p:=⟨w.heap.size,0,none⟩) (Nat.le_refl _) _).setCell (p:=⟨w.heap.size,1,none⟩) (Nat.le_refl _) _
theorem fqwithin_any (v lo hi:Int) (w:World):Calls Tryz.prog 72 #[.int .i64 v, .int .i64 lo, .int .i64 hi] w fun e w'=>e= .returned (.bool (decide (lo≤v)&&decide (v≤hi)))∧w=w':=by
 by_cases h1:lo≤v
 ·have h1':decide (lo≤v)=true:=decide_eq_true h1
  rw[h1',Bool.true_and];go_enter Tryz.func72,Tryz.ntmps72
  go_wp2;go_ret
  exact⟨rfl,rfl⟩
 ·have h1':decide (lo≤v)=false:=decide_eq_false h1
  rw[h1',Bool.false_and];clear h1;go_enter Tryz.func72,Tryz.ntmps72
  go_wp2;go_ret
  exact⟨rfl,rfl⟩
end
end Go.Proofs.YtojgokiobdpclaaGreat
