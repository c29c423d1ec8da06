import Derived.Test.YtojgokiobdpclaaGreatP32
import Derived.RangeFuncBox
import Derived.OwnWalkIn
namespace Go.Proofs.YtojgokiobdpclaaGreat
set_option linter.unusedVariables false
set_option linter.unusedSimpArgs false
set_option maxRecDepth 8000
set_option maxHeartbeats 8000000
section
open Go.RowKit Go.Lib
section
variable {w w':World} {g g':Nat→Nat} {T b bl bt:Nat} {fp:Nat→Option Nat} {q:FQ}
theorem FqIn.lists_ (h:FqIn w g T b fp bl bt q) (c:Chg w w' g g' (T+17) (T+20)) {fr od:List Nat} (L:LsAt w' g' (T+17) bl fr od):FqIn w' g' T b fp bl bt { q with fresh:=fr,old:=od }:=
 ⟨h.own.chg c (by omega),fun s hs=>(h.fls s hs).chg c (by omega),L,h.tr.chg c (by omega)⟩
theorem FqIn.tree_ (h:FqIn w g T b fp bl bt q) (c:Chg w w' g g' (T+20) (T+25)) {ks:List KY} (L:TreeAt w' g' (T+20) bt ks):FqIn w' g' T b fp bl bt { q with waits:=ks }:=
 ⟨h.own.chg c (by omega),fun s hs=>(h.fls s hs).chg c (by omega),h.ls.chg c (by omega),L⟩
theorem FqIn.flow_ (h:FqIn w g T b fp bl bt q) {s:Nat} (hs:s<8) (c:Chg w w' g g' (T+1+2*s) (T+3+2*s)) {x:Option FL} (L:FlAt w' g' (T+1+2*s) (fp s) x):FqIn w' g' T b fp bl bt { q with fl:=putF q.fl s x }:=
 ⟨h.own.chg c (by omega),fun k hk=>by
  by_cases e:k=s
  ·subst e
   simp only[putF,if_true];exact L
  ·simp only[putF,if_neg e]
   exact(h.fls k hk).chg c (by omega),h.ls.chg c (by omega),h.tr.chg c (by omega)⟩
theorem FqIn.n_ (h:FqIn w g T b fp bl bt q) (hT0:0<T) (n:Nat) (z:Int) (hz:z=n):FqIn (w.setCell ⟨b,19,none⟩ (.int .i64 z)) g T b fp bl bt { q with n:=n }:=by
 subst hz;have gb:=h.own.2;have gr:=grown_set w b 19 (.int .i64 (n:Nat));refine⟨h.own.put (Put.set h.own.1 19),fun s hs=>(h.fls s hs).other gr (fun q hq=>by cases hq;omega),h.ls.other gr (fun q hq=>by cases hq;omega),h.tr.other gr (fun q hq=>by cases hq;omega)⟩
theorem FqIn.turn (h:FqIn w g T b fp bl bt q) (hT:Tidy w g) {s p:Nat} (hs:s<8) (hp:fp s=some p) {f':FL} {cs:Array Value} (pu:Put w w' p 144 cs) (hl:FlAt w' g (T+1+2*s) (some p) (some f')):
  Chg w w' g g (T+1+2*s) (T+3+2*s)∧FqIn w' g T b fp bl bt { q with fl:=putF q.fl s (some f') }:=by
 have gp:g p=T+1+2*s:=by
  obtain⟨v,k1,k2⟩:=hl;exact k1.2
 have c:Chg w w' g g (T+1+2*s) (T+3+2*s):=(Chg.refl hT _ _).put pu (fun _=>by omega);exact⟨c,h.flow_ hs c (by rw[hp];exact hl)⟩
end
theorem putF_same {α:Type} (f:Nat→α) (s:Nat) (x:α) (h:f s=x):putF f s x=f:=funext fun k=>by
 unfold putF;by_cases e:k=s
 ·rw[if_pos e,e,h]
 ·rw[if_neg e]
theorem putF_at {α:Type} (f:Nat→α) (s:Nat) (x:α):putF f s x s=x:=by unfold putF;rw[if_pos rfl]
theorem putF_ne {α:Type} (f:Nat→α) {s k:Nat} (x:α) (h:k≠s):putF f s x k=f k:=by unfold putF;rw[if_neg h]
def wakeQ (q:FQ) (s now:Nat):FQ:=match q.fl s with
 | none=>{ q with fl:=putF q.fl s (some ⟨q.c.first,0,0,[]⟩),fresh:=q.fresh++[s] }
 | some f=>if placeQ q s≠0 then q else { q with fl:=putF q.fl s (some { f with credit:=if idleQ q s 40000000 now=true then max f.credit q.c.quantum else f.credit,since:=0 }),fresh:=q.fresh++[s] }
end
section
open Go.RowKit Go.Lib
theorem FqIn.drewN {w:World} {g:Nat→Nat} {T b bl bt:Nat} {fp:Nat→Option Nat} {q:FQ} (h:FqIn w g T b fp bl bt q) (n:Nat):FqIn (w.drewN n) g T b fp bl bt q:=h.below (Drn.below ⟨n,rfl⟩)
theorem FqIn.tag_ {w:World} {g:Nat→Nat} {T b bl bt:Nat} {fp:Nat→Option Nat} {q:FQ} (h:FqIn w g T b fp bl bt q) (hT:Tidy w g) (o:Obj) (i:Nat):FqIn (w.alloc o) (tagAt g w.heap.size i) T b fp bl bt q:=
 h.chg ((Chg.refl hT 0 0).tag o i) (.inr (Nat.zero_le _))
theorem putF_twice {α:Type} (f:Nat→α) (s:Nat) (x y:α):putF (putF f s x) s y=putF f s y:=funext fun k=>by
 unfold putF;by_cases e:k=s
 ·rw[if_pos e,if_pos e]
 ·rw[if_neg e,if_neg e,if_neg e]
theorem FqIn.newflow {w:World} {g:Nat→Nat} {T b bl bt:Nat} {fp:Nat→Option Nat} {q:FQ} (h:FqIn w g T b fp bl bt q) (hT0:0<T) (hT:Tidy w g) {s:Nat} (hs:s<8):
  FqIn ((w.setCell ⟨b,9+s,none⟩ (.pointer (some ⟨w.heap.size,0,none⟩))).alloc (.cells #[.int .i64 q.c.first, .int .u64 0, .int .u64 0, .slice none 0 0] 144)) (tagAt g w.heap.size (T+1+2*s)) T b (putF fp s (some w.heap.size)) bl bt { q with fl:=putF q.fl s (some ⟨q.c.first,0,0,[]⟩) }∧
  Chg w ((w.setCell ⟨b,9+s,none⟩ (.pointer (some ⟨w.heap.size,0,none⟩))).alloc (.cells #[.int .i64 q.c.first, .int .u64 0, .int .u64 0, .slice none 0 0] 144)) g (tagAt g w.heap.size (T+1+2*s)) T (T+20):=by
 have hb:=h.own.1.lt;have gb:=h.own.2;rw[←World.setCell_alloc_past _ _ _ _ hb];refine⟨?_, ?_⟩
 ·have h1:=h.tag_ hT (.cells #[.int .i64 q.c.first, .int .u64 0, .int .u64 0, .slice none 0 0] 144) (T+1+2*s)
  exact h1.put_ hT0 hs (some w.heap.size) (some ⟨q.c.first,0,0,[]⟩) _ rfl ⟨.slice none 0 0,Of.made _ _ _ _ _,Sli.nil _ _ _ _ _⟩
 ·exact((Chg.refl hT _ _).tag _ _).set (b:=b) (i:=9+s) (fun _=>by omega) _
theorem fqwake_any (b s now:Nat) (hs:s<8) (fp:Nat→Option Nat) (bl bt:Nat) (q:FQ) (hsi: ∀ f,q.fl s=some f→f.since<18446744073709551616) (hf8:q.fresh.length≤8) (ho8:q.old.length≤8) (hnl:q.fl s=none→placeL q.fresh q.old s=0) (g:Nat→Nat) (T:Nat) (hT0:0<T) (w:World) (hT:Tidy w g) (h:FqIn w g T b fp bl bt q):
  Calls Tryz.prog 142 #[.pointer (some ⟨b,0,none⟩), .int .i64 s, .int .u64 now] w fun e w'=>(∃ v,e= .returned v)∧ ∃ g' fp',Chg w w' g g' T (T+20)∧FqIn w' g' T b fp' bl bt (wakeQ q s now):=by
 have cs:=h.flow hs;have fs:=h.own.1.free (9+s);have hs8:(s:Int)<8:=by omega
 have c1:=h.own.1.ce 1;have c17:=h.own.1.ce 17;have hlt:=h.own.1.lt;have HH:=zH h;have HT:=zH hT;unfold wakeQ;rcases h.one hs with⟨hp,hf⟩ | ⟨p,f,hp,hf,hfl⟩
 ·rw[hp]at cs
  rw[hf];simp only[pval,Option.map_none]at cs;have hpl:=hnl hf;have NF:=zH (h.newflow hT0 hT hs);clear h hT hp;go_enter Tryz.func142,Tryz.ntmps142
  go_wp2_with fail
  go_region
  refine q_named (fun W=> ∃(N:Nat) (gg:Nat→Nat),Chg w W g gg T (T+20)∧FqIn W gg T b (putF fp s (some N)) bl bt { q with fl:=putF q.fl s (some ⟨q.c.first,0,0,[]⟩) }) ⟨_,_,NF.out.2.drewN _,NF.out.1.drewN _⟩ (fun W hW=> ?_);obtain⟨N,gg,CW,NW⟩:=hW;have hp2:=putF_at fp s (some N);have hf2:=putF_at q.fl s (some (⟨q.c.first,0,0,[]⟩:FL));have cs2:=NW.flow hs;rw[hp2]at cs2;simp only[pval,Option.map_some]at cs2;have hfl2:=NW.fls s hs;(try dsimp only at hfl2)
  rw[hp2,hf2]at hfl2;obtain⟨v2,k1,k2⟩:=hfl2;have fr2:=k1.1.free 2;have e2:=k1.1.cell 2;simp only[List.getElem?_toArray,List.getElem?_cons_zero,List.getElem?_cons_succ]at e2;have hbp:b≠N:=by
   intro e;have t1:=NW.own.2;have t2:=k1.2;rw[e]at t1;omega
  have hpb:N≠b:=fun e=>hbp e.symm
  have d17:=NW.own.1.ce 17;have PU:=Put.set (u:= .int .u64 0) k1.1 2;have TU:=NW.turn (f':=⟨q.c.first,0,0,[]⟩) CW.tidy hs hp2 PU ⟨v2,k1.put PU,k2.set_other _ (by show gg N≠T+1+2*s+1;have:=k1.2;omega)⟩;have CX:=CW.trans (TU.1.mono (by omega) (by omega));have CP:=zH (lspush_new bl s true hs q.fresh q.old hf8 ho8 gg (T+17) _ CX.tidy TU.2.ls hpl);have HU:=zH TU.2;have HX:=zH CX;clear hp2 hf2 CW NW k1 k2 PU TU CX;go_wp2_with fail
  refine CP.out.mono ?_;rintro e w3 ⟨rfl,g3,C3,L3⟩;have FIN:=HU.out.lists_ C3 L3;have CF:=HX.out.trans (C3.mono (by omega) (by omega));rw[putF_twice]at FIN;have HF:=zH FIN;have HC:=zH CF;clear FIN CF C3 L3;go_wp2_with fail
  go_end0
  first | exact⟨⟨_,rfl⟩,g3,_,HC.out,HF.out⟩ | exact⟨⟨_,rfl⟩,g3,HC.out,_,HF.out⟩
 ·rw[hp]at cs
  rw[hf];simp only[pval,Option.map_some]at cs;simp only
  have CL:=zH (fun w' hB=>fqplace_any b s hs fp bl bt q hf8 ho8 g T w' (h.below (w':=w') hB));have CI:=zH (fun w' hB=>fqidle_any b s hs 40000000 now (by decide) fp bl bt q hsi hf8 ho8 g T w' (h.below (w':=w') hB));have hpl0:placeQ q s=0→placeL q.fresh q.old s=0:=by
   intro h0;unfold placeQ at h0;split at h0
   ·rename_i hne;exact absurd h0 hne
   ·rename_i hne;exact Decidable.not_not.1 hne
  obtain⟨m,em⟩: ∃ m,placeQ q s=m:=⟨_,rfl⟩;rw[em]at CL hpl0 ⊢;have HFL:=zH hfl;clear em h hT hfl;by_cases hm:m=0
  ·subst hm
   have hpl:=hpl0 rfl;rw[if_neg (by simp)];obtain⟨id,eid⟩: ∃ id,idleQ q s 40000000 now=id:=⟨_,rfl⟩;rw[eid]at CI ⊢;cases id with
   | true=>
    go_enter Tryz.func142,Tryz.ntmps142
    go_wp2_with fail
    refine(CL.out _ (Below.refl _ _)).mono ?_;rintro e w1 ⟨rfl,hB⟩;have HB1:=zH hB;clear hB;go_wp2_with fail
    refine(CI.out _ HB1.out).mono ?_;rintro e w2 ⟨rfl,hB⟩;have HB2:=zH (HB1.out.trans (hB.mono HB1.out.size));have N2:=HH.out.below HB2.out;obtain⟨v2,k1,k2⟩:=HFL.out.below HB2.out;have e0:=k1.1.ce 0;have f0:=k1.1.free 0;have d0:=N2.own.1.ce 0;have PU:=Put.set (u:= .int .i64 (max f.credit q.c.quantum)) k1.1 0;have C2:=(Chg.refl HT.out T (T+20)).below HB2.out;have TU:=N2.turn (f':={ f with credit:=max f.credit q.c.quantum }) C2.tidy hs hp PU ⟨v2,k1.put PU,k2.set_other _ (by show g p≠T+1+2*s+1;have:=k1.2;omega)⟩;have HX:=zH (C2.trans (TU.1.mono (by omega) (by omega)));have HU:=zH TU.2;clear hB N2 k1 k2 PU C2 TU;go_wp2_with fail
    go_region
    refine q_named (fun W=>Chg w W g g T (T+20)∧FqIn W g T b fp bl bt { q with fl:=putF q.fl s (some { f with credit:=max f.credit q.c.quantum }) }) ⟨HX.out.drewN _,HU.out.drewN _⟩ (fun W hW=> ?_);obtain⟨CW,NW⟩:=hW;have hp2:=hp;have hf2:=putF_at q.fl s (some { f with credit:=max f.credit q.c.quantum });have cs2:=NW.flow hs;rw[hp2]at cs2;simp only[pval,Option.map_some]at cs2;have hfl2:=NW.fls s hs;(try dsimp only at hfl2)
    rw[hp2,hf2]at hfl2;obtain⟨v2,k1,k2⟩:=hfl2;have fr2:=k1.1.free 2;have e2:=k1.1.cell 2;simp only[List.getElem?_toArray,List.getElem?_cons_zero,List.getElem?_cons_succ]at e2;have hbp:b≠p:=by
     intro e;have t1:=NW.own.2;have t2:=k1.2;rw[e]at t1;omega
    have hpb:p≠b:=fun e=>hbp e.symm
    have d17:=NW.own.1.ce 17;have PU:=Put.set (u:= .int .u64 0) k1.1 2;have TU:=NW.turn (f':={ f with credit:=max f.credit q.c.quantum,since:=0 }) CW.tidy hs hp2 PU ⟨v2,k1.put PU,k2.set_other _ (by show g p≠T+1+2*s+1;have:=k1.2;omega)⟩;have CX:=CW.trans (TU.1.mono (by omega) (by omega));have CP:=zH (lspush_new bl s true hs q.fresh q.old hf8 ho8 g (T+17) _ CX.tidy TU.2.ls hpl);have HU:=zH TU.2;have HX:=zH CX;clear hp2 hf2 CW NW k1 k2 PU TU CX;go_wp2_with fail
    refine CP.out.mono ?_;rintro e w3 ⟨rfl,g3,C3,L3⟩;have FIN:=HU.out.lists_ C3 L3;have CF:=HX.out.trans (C3.mono (by omega) (by omega));rw[putF_twice]at FIN;have HF:=zH FIN;have HC:=zH CF;clear FIN CF C3 L3;go_wp2_with fail
    go_end0
    first | exact⟨⟨_,rfl⟩,g3,_,HC.out,HF.out⟩ | exact⟨⟨_,rfl⟩,g3,HC.out,_,HF.out⟩
   | false=>
    go_enter Tryz.func142,Tryz.ntmps142
    go_wp2_with fail
    refine(CL.out _ (Below.refl _ _)).mono ?_;rintro e w1 ⟨rfl,hB⟩;have HB1:=zH hB;clear hB;go_wp2_with fail
    refine(CI.out _ HB1.out).mono ?_;rintro e W ⟨rfl,hB⟩;have HB2:=zH (HB1.out.trans (hB.mono HB1.out.size));have CW:=(Chg.refl HT.out T (T+20)).below HB2.out;have NW:=HH.out.below HB2.out;have hp2:=hp;have hf2:=hf;have cs2:=NW.flow hs;rw[hp2]at cs2;simp only[pval,Option.map_some]at cs2;have hfl2:=NW.fls s hs;(try dsimp only at hfl2)
    rw[hp2,hf2]at hfl2;obtain⟨v2,k1,k2⟩:=hfl2;have fr2:=k1.1.free 2;have e2:=k1.1.cell 2;simp only[List.getElem?_toArray,List.getElem?_cons_zero,List.getElem?_cons_succ]at e2;have hbp:b≠p:=by
     intro e;have t1:=NW.own.2;have t2:=k1.2;rw[e]at t1;omega
    have hpb:p≠b:=fun e=>hbp e.symm
    have d17:=NW.own.1.ce 17;have PU:=Put.set (u:= .int .u64 0) k1.1 2;have TU:=NW.turn (f':={ f with since:=0 }) CW.tidy hs hp2 PU ⟨v2,k1.put PU,k2.set_other _ (by show g p≠T+1+2*s+1;have:=k1.2;omega)⟩;have CX:=CW.trans (TU.1.mono (by omega) (by omega));have CP:=zH (lspush_new bl s true hs q.fresh q.old hf8 ho8 g (T+17) _ CX.tidy TU.2.ls hpl);have HU:=zH TU.2;have HX:=zH CX;clear hp2 hf2 CW NW k1 k2 PU TU CX;go_wp2_with fail
    refine CP.out.mono ?_;rintro e w3 ⟨rfl,g3,C3,L3⟩;have FIN:=HU.out.lists_ C3 L3;have CF:=HX.out.trans (C3.mono (by omega) (by omega));have HF:=zH FIN;have HC:=zH CF;clear FIN CF C3 L3;go_wp2_with fail
    go_end0
    first | exact⟨⟨_,rfl⟩,g3,_,HC.out,HF.out⟩ | exact⟨⟨_,rfl⟩,g3,HC.out,_,HF.out⟩
  ·rw[if_pos hm]
   have hne:((m:Int)!=0)=true:=by rw[bne_iff_ne];omega
   clear hm hpl0;go_enter Tryz.func142,Tryz.ntmps142
   go_wp2_with fail
   refine(CL.out _ (Below.refl _ _)).mono ?_;rintro e w1 ⟨rfl,hB⟩;have HB1:=zH hB;clear hB;go_wp2_with fail
   refine bodyPost_ret (results_none rfl _ _ _) rfl ?_;exact⟨⟨_,rfl⟩,g,fp,(Chg.refl HT.out _ _).below HB1.out,HH.out.below HB1.out⟩
end
section
open Go.RowKit Go.Lib
theorem infoSG: ∃ i0:TypeInfo,Hid (Tryz.prog.info? 48=some i0∧i0.zero=some (.agg #[.int .i64 0, .int .u64 0, .int .i64 0, .int .u64 0, .bool false])∧i0.size=5∧i0.bytes=40):=by
 obtain⟨i0,h1,h2,h3,h4⟩:=info_parts (show(Tryz.prog.info? 48).map (fun i=>(i.zero,i.size,i.bytes))=some (some (.agg #[.int .i64 0, .int .u64 0, .int .i64 0, .int .u64 0, .bool false]),5,40) by kernel_rfl);exact⟨i0,zH ⟨h1,h2,h3,h4⟩⟩
def appQ (q:FQ) (x:SG):FQ:=match q.fl x.sock with
 | none=>q
 | some f=>{ q with fl:=putF q.fl x.sock (some { f with segs:=f.segs++[x] }),n:=q.n+1 }
def enqF (q:FQ) (x:SG) (now:Nat):Nat×FQ:=
 if(fateF (colQ q now 8) x now).1=0 then(0,appQ (wakeQ (colQ q now 8) x.sock now) (fateF (colQ q now 8) x now).2)else((fateF (colQ q now 8) x now).1,colQ q now 8)
theorem wakeQ_fl (q:FQ) (s now:Nat): ∃ f,(wakeQ q s now).fl s=some f∧f.segs=match q.fl s with | none=>[] | some f0=>f0.segs:=by
 unfold wakeQ;cases hf:q.fl s with
 | none=>exact⟨_,putF_at _ _ _,rfl⟩
 | some f=>
  simp only
  split
  ·exact⟨f,hf,rfl⟩
  ·exact⟨_,putF_at _ _ _,rfl⟩
theorem wakeQ_n (q:FQ) (s now:Nat):(wakeQ q s now).n=q.n:=by
 unfold wakeQ;cases hf:q.fl s with
 | none=>rfl
 | some f=>
  simp only
  split<;>rfl
theorem fate_sock (q:FQ) (x:SG) (now:Nat):(fateF q x now).2.sock=x.sock:=by
 unfold fateF;(repeat' split)<;>rfl
theorem colQ_some {q:FQ} {now i s:Nat} {f:FL} (h:(colQ q now i).fl s=some f):q.fl s=some f:=by
 have:(if s<i∧idleQ q s 3000000000 now=true then none else q.fl s)=some f:=h;split at this
 ·cases this
 ·exact this
theorem colQ_none {q:FQ} {now i s:Nat} (h0:q.fl s=none→placeL q.fresh q.old s=0) (h:(colQ q now i).fl s=none):placeL q.fresh q.old s=0:=by
 have:(if s<i∧idleQ q s 3000000000 now=true then none else q.fl s)=none:=h;split at this
 ·rename_i hh
  have h2:=hh.2;unfold idleQ at h2;split at h2
  ·cases h2
  ·rw[Bool.and_eq_true]at h2
   have h3:=of_decide_eq_true h2.1;unfold placeQ at h3;split at h3
   ·rename_i hne;exact absurd h3 hne
   ·rename_i hne;exact Decidable.not_not.1 hne
 ·exact h0 this
theorem fate_le (q:FQ) (x:SG) (now:Nat):(fateF q x now).1≤4:=by
 unfold fateF;(repeat' split)<;>simp
theorem flat_segs (l:List SG) (x:SG):(l++[x]).flatMap sgl=l.flatMap sgl++sgl x:=by simp
theorem fqenq_any (b now:Nat) (x:SG) (hs:x.sock<8) (hl1:1≤x.len) (hl2:x.len≤65536) (hnow:now<18446744073709551616) (fp:Nat→Option Nat) (bl bt:Nat) (q:FQ) (hh:q.c.horizon<18446744073709551616) (hsi: ∀ s f,q.fl s=some f→f.since<18446744073709551616) (hf8:q.fresh.length≤8) (ho8:q.old.length≤8) (hnl:q.fl x.sock=none→placeL q.fresh q.old x.sock=0) (hsg: ∀ f,q.fl x.sock=some f→f.segs.length≤100000) (hn:q.n≤100000) (g:Nat→Nat) (T:Nat) (hT0:0<T) (w:World) (hT:Tidy w g) (h:FqIn w g T b fp bl bt q):
  Calls Tryz.prog 103 #[.pointer (some ⟨b,0,none⟩),sgv x, .int .u64 now] w fun e w'=>e= .returned (.tuple #[.int .i64 ((enqF q x now).1:Nat), .int .i64 0])∧ ∃ g' fp',Chg w w' g g' T (T+25)∧FqIn w' g' T b fp' bl bt (enqF q x now).2:=by
 have HSG:=zH hsg;have CW1:Hid (∀ w',Calls Tryz.prog 72 #[.int .i64 x.sock, .int .i64 0, .int .i64 7] w' fun e w''=>e= .returned (.bool true)∧w'=w''):=zH fun w'=>(fqwithin_any x.sock 0 7 w').mono fun e w'' ⟨h1,h2⟩=>⟨by rw[h1];simp;omega,h2⟩
 have CW2:Hid (∀ w',Calls Tryz.prog 72 #[.int .i64 x.len, .int .i64 1, .int .i64 65536] w' fun e w''=>e= .returned (.bool true)∧w'=w''):=zH fun w'=>(fqwithin_any x.len 1 65536 w').mono fun e w'' ⟨h1,h2⟩=>⟨by rw[h1];simp;omega,h2⟩
 have CC:=zH (fun w'=>fqcollect_any b now fp bl bt q hsi hf8 ho8 g T hT0 w');have CF:=zH (fun w' fp' B hB=>fqfate_any b B now x hs hnow fp' bl bt (colQ q now 8) hh g T hT0 w' hB);have CK:=zH (fun w' fp'=>fqwake_any b x.sock now hs fp' bl bt (colQ q now 8) (fun f hf=>hsi _ f (colQ_some hf)) hf8 ho8 (colQ_none hnl) g T hT0 w');obtain⟨s,es⟩: ∃ s,w.heap.size=s:=⟨_,rfl⟩;have gs:g s=0:=hT _ (by omega);have hb:=h.own.1.lt;have HH:=zH h;have HT:=zH hT;obtain⟨f0,hf0,hf0s⟩:=wakeQ_fl (colQ q now 8) x.sock now;have hlen:f0.segs.length≤100000:=by
  rw[hf0s];cases hc:(colQ q now 8).fl x.sock with
  | none=>simp
  | some f=>exact hsg f (colQ_some hc)
 have hn2:(wakeQ (colQ q now 8) x.sock now).n=q.n:=wakeQ_n _ _ _;have hx2:=fate_sock (colQ q now 8) x now;have hfle:=fate_le (colQ q now 8) x now;unfold enqF sgv;obtain⟨⟨ft,x2⟩,efx⟩: ∃ y,fateF (colQ q now 8) x now=y:=⟨_,rfl⟩;rw[efx]at CF hx2 hfle ⊢;simp only at CF hx2 hfle ⊢
 obtain⟨q2,eq2⟩: ∃ y,wakeQ (colQ q now 8) x.sock now=y:=⟨_,rfl⟩;rw[eq2]at CK hf0 hn2 ⊢;obtain⟨q1,eq1⟩: ∃ y,colQ q now 8=y:=⟨_,rfl⟩;rw[eq1]at CC CF CK ⊢;have hs8:(x.sock:Int)<8:=by omega
 clear h hT hsi hsg hh hf0s eq1 eq2 efx hnl hf8 ho8 HSG;by_cases h0:ft=0
 ·subst h0
  rw[if_pos rfl];go_enter Tryz.func103,Tryz.ntmps103
  go_wp2_with fail
  refine(CW1.out _).mono ?_;rintro e w1 ⟨rfl,rfl⟩;go_wp2_with fail
  refine(CW2.out _).mono ?_;rintro e w1 ⟨rfl,rfl⟩;go_wp2_with fail
  refine(CC.out _ (HT.out.alloc _) (HH.out.below ((Below.refl _ w).alloc (Nat.le_refl _) _))).mono ?_;rintro e w1 ⟨⟨v,rfl⟩,C1,fp1,N1⟩;have A1:At w1 s 48 (sga x):=by
   rw[←es];exact(At.made w _ _).chg C1 (by rw[es,gs];omega)
  have C1':=((Chg.refl HT.out T (T+25)).alloc (.cells (sga x) 48)).trans (C1.mono (Nat.le_refl _) (by omega));have HA1:=zH A1;have HN1:=zH N1;have HC1:=zH C1';clear A1 N1 C1 C1';go_wp2_with fail
  refine(CF.out _ fp1 s gs HA1.out HN1.out).mono ?_;rintro e w2 ⟨rfl,A2,G2⟩;have N2:=HN1.out.other G2 (fun p hp=>by cases hp;left;omega);have C2:=HC1.out.by G2 (fun b hb hlt=>by cases hb;omega)
  have y0:=A2.cell 0;simp only[sga,hx2,List.getElem?_toArray,List.getElem?_cons_zero]at y0;have HA2:=zH A2;have HN2:=zH N2;have HC2:=zH C2;clear A2 N2 C2 G2;go_wp2_with fail
  refine(CK.out _ fp1 HC2.out.tidy HN2.out).mono ?_;rintro e w3 ⟨⟨v3,rfl⟩,g3,fp3,C3,N3⟩;have A3:=HA2.out.chg C3 (by omega);have gs3:g3 s=0:=(C3.old s HA2.out.lt).trans gs;have z0:=A3.cell 0;simp only[sga,hx2,List.getElem?_toArray,List.getElem?_cons_zero]at z0;rcases N3.one hs with⟨_,e2⟩ | ⟨p3,f3,hp3,hf3,hfl3⟩
  ·rw[hf0]at e2;cases e2
  rw[hf0]at hf3;cases hf3
  have cs3:=N3.flow hs;rw[hp3]at cs3;simp only[pval,Option.map_some]at cs3;have HA3:=zH A3;have HN3:=zH N3;have HC3:=zH (HC2.out.trans (C3.mono (Nat.le_refl _) (by omega)));clear A3 N3 C3 hfl3 HA2 HN2 HC2 y0;go_wp2_with fail
  go_quiet (fail)
  go_wp2_with fail
  refine wp_named (fun W=>At W s 48 (sga x2)∧FqIn W g3 T b fp3 bl bt q2∧Chg w W g g3 T (T+25)) ⟨HA3.out,HN3.out.drewN _,HC3.out.drewN _⟩ (fun W hW=> ?_);obtain⟨AW,NW,CW⟩:=hW;have hfl:=NW.fls x.sock hs;rw[hp3,hf0]at hfl;obtain⟨v,k1,k2⟩:=hfl;obtain⟨a,cap,rfl,_,_⟩:=k2.cap_;have m3:=k1.1.ce 3;have y0:=AW.cell 0;have y1:=AW.cell 1;have y2:=AW.cell 2;have y3:=AW.cell 3;have y4:=AW.cell 4;simp only[sga,List.getElem?_toArray,List.getElem?_cons_zero,List.getElem?_cons_succ]at y0 y1 y2 y3 y4;have hps:p3≠s:=by rintro rfl;have:=k1.2;omega
  have hsp:s≠p3:=fun e=>hps e.symm
  obtain⟨i0,HI⟩:=infoSG;have HAW:=zH AW;have HNW:=zH NW;have HCW:=zH CW;have HK1:=zH k1;have HK2:=zH k2;have HX2:=zH hx2;have hp3lt:=k1.1.lt;have hslt:=AW.lt;clear AW NW CW k1 k2 HA3 HN3 HC3 z0 cs3 hx2;refine wp_region_held_drew (S:=fun wq=>wq.cell? ⟨s,0,none⟩=some (.int .i64 x2.sock)∧wq.cell? ⟨s,1,none⟩=some (.int .u64 x2.frm)∧wq.cell? ⟨s,2,none⟩=some (.int .i64 x2.len)∧wq.cell? ⟨s,3,none⟩=some (.int .u64 x2.stamp)∧wq.cell? ⟨s,4,none⟩=some (.bool x2.again)) (by kernel_rfl) ⟨y0,y1,y2,y3,y4⟩ (fun hHeld=> ?_);refine zt 0 ?_;refine zt 1 ?_;refine zt 2 ?_;refine zt 3 ?_;refine zt 5 ?_;refine rdZ [4,6] ?_;refine(cnZ 4 rfl (fun K hK=> ?_) (cnZ 6 rfl (fun K hK=> ?_) AllReadyH.nil))
  ·go_simp
   refine hK.out _ _ ?_ (fun hHeld=> ?_);focus exact hHeld
   clear hK K;refine zl ?_;refine zc 6 (fun K hK=> ?_);go_simp;refine hK.out _ _ ?_ (fun hHeld=> ?_);focus have Bq:=HAW.out.drew.kept (World.grownBy_alloc W.drew (.cells (sga x2) 48) none) (by simp);exact⟨Bq.cell 0,Bq.cell 1,Bq.cell 2,Bq.cell 3,Bq.cell 4⟩
   clear hK K;refine zl ?_;refine zc 7 (fun K hK=> ?_);refine step_append_sli _ rfl _ _ 38 rfl g3 (T+1+2*x.sock+1) 48 i0 _ 5 40 Tryz.underlying38 HI.out.1 HI.out.2.1 HI.out.2.2.1 HI.out.2.2.2 rfl (by decide) _ f0.segs.length (f0.segs.flatMap sgl) rfl (HK2.out.drew.alloc _) ((HCW.out.drew.tidy).alloc _) ⟨W.heap.size,0,none⟩ 1 1 (sgl x2) rfl rfl (World.news_of_block (At.made W.drew 48 (sga x2))) (sgl_one _) (by decide) (by unfold maxLen;omega) (by omega) ?_;intro b2 o2 cap2 w4 g4 hS hC;have B0:=(HAW.out.drew.kept (World.grownBy_alloc W.drew (.cells (sga x2) 48) none) (by simp)).chg hC (by omega);have B1:=(show Of (W.drew.alloc (.cells (sga x2) 48)) g3 (T+1+2*x.sock) p3 144 #[.int .i64 f0.credit, .int .u64 f0.next, .int .u64 f0.since, .slice a f0.segs.length cap]from⟨HK1.out.1.drew.kept (World.grownBy_alloc W.drew _ none) (by simp),HK1.out.2⟩).chg hC (by omega);have r3:=B1.1.cell 3;have t3:=B1.1.free 3;simp only[List.getElem?_toArray,List.getElem?_cons_zero,List.getElem?_cons_succ]at r3;refine hK.out _ _ ?_ (fun hHeld=> ?_);focus exact⟨B0.cell 0,B0.cell 1,B0.cell 2,B0.cell 3,B0.cell 4⟩
   clear hK K;refine zl ?_;refine zt 8 ?_;refine zt 9 ?_;refine zc 10 (fun K hK=> ?_);go_simp;refine hK.out _ _ ?_ (fun hHeld=> ?_);focus have Bq:=B0.far (p:=⟨p3,3,none⟩) (u:= .slice (some ⟨b2,o2,none⟩) (f0.segs.length+1) cap2) (by show s≠p3;exact hsp);exact⟨Bq.cell 0,Bq.cell 1,Bq.cell 2,Bq.cell 3,Bq.cell 4⟩
   clear hK K;refine zl ?_;refine dnZ ?_;have X1:=B1.put (Put.set B1.1 3 (u:= .slice (some ⟨b2,o2,none⟩) (f0.segs.length+1) cap2));have XS:=hS.set_other (p:=⟨p3,3,none⟩) (.slice (some ⟨b2,o2,none⟩) (f0.segs.length+1) cap2) (by show g4 p3≠T+1+2*x.sock+1;have:=B1.2;omega);have hC2:=(((Chg.refl HCW.out.tidy (T+1+2*x.sock) (T+3+2*x.sock)).drew.alloc (.cells (sga x2) 48)).trans (hC.mono (by omega) (by omega))).set (b:=p3) (i:=3) (fun _=>by have:=HK1.out.2;omega) (.slice (some ⟨b2,o2,none⟩) (f0.segs.length+1) cap2);have N4:=HNW.out.flow_ hs hC2 (x:=some { f0 with segs:=f0.segs++[x2] }) (by
    rw[hp3];refine⟨.slice (some ⟨b2,o2,none⟩) (f0.segs.length+1) cap2,X1, ?_⟩;rw[flat_segs,List.length_append];exact XS)
   have HN4:=zH N4;have HC4:=zH (HCW.out.trans (hC2.mono (by omega) (by omega)));clear X1 XS hC2 N4 hHeld B0 hC hS B1 r3 t3;refine q_named (fun W5=>FqIn W5 g4 T b fp3 bl bt { q2 with fl:=putF q2.fl x.sock (some { f0 with segs:=f0.segs++[x2] }) }∧Chg w W5 g g4 T (T+25)) ⟨HN4.out,HC4.out⟩ (fun W5 hW5=> ?_);obtain⟨N5,C5⟩:=hW5;have n19:=N5.own.1.cell 19;have f19:=N5.own.1.free 19;have HN5:=zH N5;have HC5:=zH C5;have HF0:=zH hf0;clear N5 C5 HN4 HC4 m3 y0 y1 y2 y3 y4 hp3lt hslt hps hsp HK1 HK2 HAW HNW HCW hf0 hp3 hlen hfle CC CF CK CW1 CW2 HI;simp only[fqa,List.getElem?_toArray,List.getElem?_cons_zero,List.getElem?_cons_succ]at n19;rw[hn2]at n19;obtain⟨n1,en1⟩: ∃ n1:Nat,q.n+1=n1:=⟨_,rfl⟩;have ew:wrap64 ((q.n:Int)+1)=(n1:Int):=by unfold wrap64;omega
   have HE1:=zH en1;clear en1;have HN2:=zH hn2;clear hn2;go_wp2_with fail
   go_ret2
   refine⟨rfl,g4,fp3,HC5.out.set (b:=b) (i:=19) (fun _=>by have:=HH.out.own.2;omega) _, ?_⟩;have N6:=HN5.out.n_ hT0 (q2.n+1) ((q.n:Int)+1) (by rw[HN2.out];simp);unfold appQ;rw[HX2.out,HF0.out];exact N6
  ·go_simp
   refine hK.out _ _ ?_ (fun hHeld=> ?_);focus have Bq:=HAW.out.drew.kept (World.grownBy_alloc W.drew (.cells (sga x2) 48) none) (by simp);exact⟨Bq.cell 0,Bq.cell 1,Bq.cell 2,Bq.cell 3,Bq.cell 4⟩
   clear hK K;refine zl ?_;refine zc 4 (fun K hK=> ?_);go_simp;refine hK.out _ _ ?_ (fun hHeld=> ?_);focus exact hHeld
   clear hK K;refine zl ?_;refine zc 7 (fun K hK=> ?_);refine step_append_sli _ rfl _ _ 38 rfl g3 (T+1+2*x.sock+1) 48 i0 _ 5 40 Tryz.underlying38 HI.out.1 HI.out.2.1 HI.out.2.2.1 HI.out.2.2.2 rfl (by decide) _ f0.segs.length (f0.segs.flatMap sgl) rfl (HK2.out.drew.alloc _) ((HCW.out.drew.tidy).alloc _) ⟨W.heap.size,0,none⟩ 1 1 (sgl x2) rfl rfl (World.news_of_block (At.made W.drew 48 (sga x2))) (sgl_one _) (by decide) (by unfold maxLen;omega) (by omega) ?_;intro b2 o2 cap2 w4 g4 hS hC;have B0:=(HAW.out.drew.kept (World.grownBy_alloc W.drew (.cells (sga x2) 48) none) (by simp)).chg hC (by omega);have B1:=(show Of (W.drew.alloc (.cells (sga x2) 48)) g3 (T+1+2*x.sock) p3 144 #[.int .i64 f0.credit, .int .u64 f0.next, .int .u64 f0.since, .slice a f0.segs.length cap]from⟨HK1.out.1.drew.kept (World.grownBy_alloc W.drew _ none) (by simp),HK1.out.2⟩).chg hC (by omega);have r3:=B1.1.cell 3;have t3:=B1.1.free 3;simp only[List.getElem?_toArray,List.getElem?_cons_zero,List.getElem?_cons_succ]at r3;refine hK.out _ _ ?_ (fun hHeld=> ?_);focus exact⟨B0.cell 0,B0.cell 1,B0.cell 2,B0.cell 3,B0.cell 4⟩
   clear hK K;refine zl ?_;refine zt 8 ?_;refine zt 9 ?_;refine zc 10 (fun K hK=> ?_);go_simp;refine hK.out _ _ ?_ (fun hHeld=> ?_);focus have Bq:=B0.far (p:=⟨p3,3,none⟩) (u:= .slice (some ⟨b2,o2,none⟩) (f0.segs.length+1) cap2) (by show s≠p3;exact hsp);exact⟨Bq.cell 0,Bq.cell 1,Bq.cell 2,Bq.cell 3,Bq.cell 4⟩
   clear hK K;refine zl ?_;refine dnZ ?_;have X1:=B1.put (Put.set B1.1 3 (u:= .slice (some ⟨b2,o2,none⟩) (f0.segs.length+1) cap2));have XS:=hS.set_other (p:=⟨p3,3,none⟩) (.slice (some ⟨b2,o2,none⟩) (f0.segs.length+1) cap2) (by show g4 p3≠T+1+2*x.sock+1;have:=B1.2;omega);have hC2:=(((Chg.refl HCW.out.tidy (T+1+2*x.sock) (T+3+2*x.sock)).drew.alloc (.cells (sga x2) 48)).trans (hC.mono (by omega) (by omega))).set (b:=p3) (i:=3) (fun _=>by have:=HK1.out.2;omega) (.slice (some ⟨b2,o2,none⟩) (f0.segs.length+1) cap2);have N4:=HNW.out.flow_ hs hC2 (x:=some { f0 with segs:=f0.segs++[x2] }) (by
    rw[hp3];refine⟨.slice (some ⟨b2,o2,none⟩) (f0.segs.length+1) cap2,X1, ?_⟩;rw[flat_segs,List.length_append];exact XS)
   have HN4:=zH N4;have HC4:=zH (HCW.out.trans (hC2.mono (by omega) (by omega)));clear X1 XS hC2 N4 hHeld B0 hC hS B1 r3 t3;refine q_named (fun W5=>FqIn W5 g4 T b fp3 bl bt { q2 with fl:=putF q2.fl x.sock (some { f0 with segs:=f0.segs++[x2] }) }∧Chg w W5 g g4 T (T+25)) ⟨HN4.out,HC4.out⟩ (fun W5 hW5=> ?_);obtain⟨N5,C5⟩:=hW5;have n19:=N5.own.1.cell 19;have f19:=N5.own.1.free 19;have HN5:=zH N5;have HC5:=zH C5;have HF0:=zH hf0;clear N5 C5 HN4 HC4 m3 y0 y1 y2 y3 y4 hp3lt hslt hps hsp HK1 HK2 HAW HNW HCW hf0 hp3 hlen hfle CC CF CK CW1 CW2 HI;simp only[fqa,List.getElem?_toArray,List.getElem?_cons_zero,List.getElem?_cons_succ]at n19;rw[hn2]at n19;obtain⟨n1,en1⟩: ∃ n1:Nat,q.n+1=n1:=⟨_,rfl⟩;have ew:wrap64 ((q.n:Int)+1)=(n1:Int):=by unfold wrap64;omega
   have HE1:=zH en1;clear en1;have HN2:=zH hn2;clear hn2;go_wp2_with fail
   go_ret2
   refine⟨rfl,g4,fp3,HC5.out.set (b:=b) (i:=19) (fun _=>by have:=HH.out.own.2;omega) _, ?_⟩;have N6:=HN5.out.n_ hT0 (q2.n+1) ((q.n:Int)+1) (by rw[HN2.out];simp);unfold appQ;rw[HX2.out,HF0.out];exact N6
 ·rw[if_neg h0]
  have hne:((ft:Int)==0)=false:=by rw[beq_eq_false_iff_ne];omega
  go_enter Tryz.func103,Tryz.ntmps103
  go_wp2_with fail
  refine(CW1.out _).mono ?_;rintro e w1 ⟨rfl,rfl⟩;go_wp2_with fail
  refine(CW2.out _).mono ?_;rintro e w1 ⟨rfl,rfl⟩;go_wp2_with fail
  refine(CC.out _ (HT.out.alloc _) (HH.out.below ((Below.refl _ w).alloc (Nat.le_refl _) _))).mono ?_;rintro e w1 ⟨⟨v,rfl⟩,C1,fp1,N1⟩;have A1:At w1 s 48 (sga x):=by
   rw[←es];exact(At.made w _ _).chg C1 (by rw[es,gs];omega)
  have C1':=((Chg.refl HT.out T (T+25)).alloc (.cells (sga x) 48)).trans (C1.mono (Nat.le_refl _) (by omega));have HA1:=zH A1;have HN1:=zH N1;have HC1:=zH C1';clear A1 N1 C1 C1' h0;go_wp2_with fail
  refine(CF.out _ fp1 s gs HA1.out HN1.out).mono ?_;rintro e w2 ⟨rfl,A2,G2⟩;have HN2:=zH (HN1.out.other G2 (fun p hp=>by cases hp;left;omega));have HC2:=zH (HC1.out.by G2 (fun b hb hlt=>by cases hb;omega));clear A2 G2;go_wp2_with fail
  go_ret2
  exact⟨rfl,g,fp1,HC2.out,HN2.out⟩
end
section
open Go.RowKit Go.Lib Go.Shelf
attribute [local go_sem] Oper.semAt_some
theorem fqdog_any (b:Nat) (fp:Nat→Option Nat) (bl bt:Nat) (q:FQ) (g:Nat→Nat) (T:Nat) (w:World) (h:FqIn w g T b fp bl bt q):
  Calls Tryz.prog 54 #[.pointer (some ⟨b,0,none⟩)] w fun e w'=>e= .returned (match q.waits with | []=> .tuple #[.int .u64 0, .bool false] | k::_=> .tuple #[.int .u64 (k.1:Nat), .bool true])∧Below w.heap.size w w':=by
 have c18:=h.own.1.ce 18;have CM:=zH (rbmin_any bt q.waits g (T+20) w h.tr);cases hw:q.waits with
 | nil=>
  rw[hw]at CM;unfold minV at CM;clear h hw;go_enter Tryz.func54,Tryz.ntmps54
  go_wp2_with fail
  refine CM.out.mono ?_;rintro e w1 ⟨rfl,hB⟩;have HB:=zH hB;have hsz:=hB.size;clear hB;go_wp2_with fail
  go_ret2
  exact⟨rfl,HB.out.alloc hsz _⟩
 | cons k r=>
  rw[hw]at CM;unfold minV kyv at CM;clear h hw;go_enter Tryz.func54,Tryz.ntmps54
  go_wp2_with fail
  refine CM.out.mono ?_;rintro e w1 ⟨rfl,hB⟩;have HB:=zH hB;have hsz:=hB.size;clear hB;go_wp2_with fail
  go_ret2
  exact⟨rfl,HB.out.alloc hsz _⟩
set_option maxRecDepth 100000 in
theorem fqold_any (b:Nat) (fp:Nat→Option Nat) (bl bt:Nat) (q:FQ) (hf:q.fresh.length≤8) (ho:q.old.length≤8) (g:Nat→Nat) (T:Nat) (w:World) (h:FqIn w g T b fp bl bt q):
  Calls Tryz.prog 84 #[.pointer (some ⟨b,0,none⟩)] w fun e W'=>e= .returned (.bool ((lall q.fresh q.old).any (fun x=> !x.2)))∧Below w.heap.size w W':=by
 have cl:=h.own.1.ce 17;have hbq:=h.own.1.lt;have hL:=h.ls;obtain⟨fr,efr⟩: ∃ l,q.fresh=l:=⟨_,rfl⟩;obtain⟨od,eod⟩: ∃ l,q.old=l:=⟨_,rfl⟩;rw[efr,eod]at hL ⊢;rw[efr]at hf;rw[eod]at ho;clear h;refine(callsIn_wide (n:=10)).1 ?_;refine callsIn_of_wp_marks Tryz.func84 rfl trivial ?_ rfl;simp only[Tryz.ntmps84,List.size_toArray,List.length_cons,List.length_nil,Nat.reduceAdd,Nat.reduceSub,Array.replicate_succ,Array.replicate_zero,List.push_toArray,List.append_toArray,List.nil_append,List.cons_append];have C:Hid (∀ w',Calls Tryz.prog 113 #[.pointer (some ⟨bl,0,none⟩)] w' fun e w''=>e= .returned (.func (.func 149) #[] #[.pointer (some ⟨w'.heap.size,0,none⟩)])∧w''=w'.alloc (.cells #[.pointer (some ⟨bl,0,none⟩)] 101)):=zH (lsall_any bl);have hblt:bl<w.heap.size:=by obtain⟨vf,vo,h1,h2,h3⟩:=hL.ex;exact h1.1.lt
 have HL:=zH hL;clear hL;gi_wp2_with (refine⟨trivial, ?_⟩;gi_at_call 113;refine(callsIn_wide.2 (C.out _)).mono ?_;rintro e w' ⟨rfl,rfl⟩)
 obtain⟨s,es⟩: ∃ s,w.heap.size=s:=⟨_,rfl⟩;refine wpIn_named (fun W=>Boxed W s 4 (.bool false)∧W.cell? ⟨s+1,0,none⟩=some (.pointer (some ⟨bl,0,none⟩))∧W.heap.size=s+2∧Below s w W)
  ?nm ?_
 case nm=>
   subst es;refine⟨(Boxed.new w _ _).alloc _, ?_,by simp,((Below.refl _ w).alloc (Nat.le_refl _) _).alloc (by simp) _⟩;have:=Boxed.new (w.alloc (.cells #[.bool false] 4)) 101 (.pointer (some ⟨bl,0,none⟩));simp only[World.size_alloc]at this;exact this.cell
 rintro W ⟨B0,hc3,hsz,hBW⟩;simp only[es];have hLW:LsAt W g (T+17) bl fr od:=HL.out.below (by rw[es];exact hBW);refine wpIn_rangeFunc_ownF (F:=Fence.wide) rfl (by omega) (gf:=149) (lb:= #[.pointer (some ⟨s+1,0,none⟩)]) rfl trivial (enters_of Tryz.func149 (by kernel_rfl) rfl)
  (ls_stops 9 (by omega) (s+1) bl fr od hf ho g (T+17) W hc3 hLW) (fun h k=>h.trans k) (fun V l o o' _ h1 h2 _=>KpT.put V l o o' h1 h2) (Below.refl _ _) (fun _=>rfl)
  (fun pre V=>(∀ p∈pre,p.2=true)∧Boxed V s 4 (.bool false)∧Below s w V)
  (fun c pre V=>c= .ret∧ ∃(ini:List (Nat×Bool)) (x:Nat×Bool),pre=ini++[x]∧x.2=false∧Boxed V s 4 (.bool true)∧Below s w V)
  ?hI ?hIx ⟨by simp,B0,hBW⟩
  (fun x=>{ tmps:= #[.pointer (some ⟨b,0,none⟩),undef, .pointer (some ⟨s,0,none⟩),undef, .bool x.2, .pointer (some ⟨b,0,none⟩), .pointer (some ⟨b,0,none⟩), .pointer (some ⟨b,17,none⟩), .pointer (some ⟨bl,0,none⟩), .func (.func 149) #[] #[.pointer (some ⟨s+1,0,none⟩)], .int .i64 (x.1:Nat), .bool x.2,undef,undef],defers:=[] }) ?assign ?body ?done ?stop
 case hI=>
  rintro pre A B row ⟨h1,h2,h5⟩ hg hr;exact⟨h1,boxed_kept h2 hg hr,h5.grown hg (by rw[←es];rw[←es]at h5;exact h5.size) (fun k e=>by have:=(hr k e).1;omega)⟩
 case hIx=>
  rintro c pre A B row ⟨h0,ini,x,h1,h2,h4,h5⟩ hg hr;exact⟨h0,ini,x,h1,h2,boxed_kept h4 hg hr,h5.grown hg (by rw[←es];rw[←es]at h5;exact h5.size) (fun k e=>by have:=(hr k e).1;omega)⟩
 case assign=>
  intro l x V K hK;simp only[lenc];gi_wp2
  exact hK
 case body=>
  rintro l pre x V ⟨h1,h2,h5⟩ _;have c0:=h2.cell;have f0:=h2.frozen;obtain⟨x1,x2⟩:=x;cases x2
  ·gi_wp2
   exact⟨KeepsOthers.setCell _ _ _,rfl,pre,_,rfl,rfl,h2.set _,h5.setCell (p:=⟨s,0,none⟩) (Nat.le_refl _) _⟩
  ·gi_wp2
   exact⟨KeepsOthers.refl _,KpT.refl _ _,fun p hp=>(List.mem_append.1 hp).elim (h1 p) (fun e=>by simp at e;subst e;rfl),h2,h5⟩
 case done=>
  rintro D ys V hD rfl ⟨he,h2,h5⟩ hK;have c0:=h2.cell;have f0:=h2.frozen;rw[hsz]at hD;gi_wp2
  have hK':=(KeepsOthers.setCell V ⟨s,0,none⟩ (.bool false)).same D _ hK rfl;have g1:=h2.set (.bool false);refine⟨by simp, .inl ⟨_,_,rfl,run_takeDeferred hK', ?_⟩⟩;have d1:=(boxed_kept (B0:=s) g1 (grownBy_putObj' _ D (.deferred none)) (fun r e=>by cases e;exact⟨by omega,_,hK',rfl⟩)).cell;refine⟨.bool false, ?_, ?_, ?_⟩
  ·simp[results,Tryz.f84,go_sem,d1]
  ·rw[show(lall fr od).any (fun x=> !x.2)=false from by rw[List.any_eq_false];intro x hx;simp[he x hx]]
  ·rw[es]
   exact(h5.setCell (p:=⟨s,0,none⟩) (Nat.le_refl _) _).trans (belowK_b (w:=w) (by omega) _ D _ _ (by omega) hK' rfl rfl)
 case stop=>
  rintro D c pre V hD hp ⟨rfl,ini,x,rfl,h2,h4,h5⟩ hK;rw[hsz]at hD;have c1:=h4.cell;gi_wp2
  refine⟨by simp, .inl ⟨_,_,rfl,run_takeDeferred hK, ?_⟩⟩;have d1:=(boxed_kept (B0:=s) h4 (grownBy_putObj' _ D (.deferred none)) (fun r e=>by cases e;exact⟨by omega,_,hK,rfl⟩)).cell;refine⟨.bool true, ?_, ?_, ?_⟩
  ·simp[results,Tryz.f84,go_sem,d1]
  ·rw[show(lall fr od).any (fun x=> !x.2)=true from by
    rw[List.any_eq_true];obtain⟨r,hr⟩:=hp;exact⟨x,by rw[←hr];simp,by rw[h2];rfl⟩]
  ·rw[es]
   exact h5.trans (belowK_b (w:=w) (by omega) _ D _ _ (by omega) hK rfl rfl)
end
section
open Go.RowKit Go.Lib Go.Shelf
attribute [local go_sem] Oper.semAt_some
structure FQ.ok (q:FQ):Prop where
 nd:(q.fresh++q.old++q.waits.map (·.2)).Nodup
 lt: ∀ s∈q.fresh++q.old++q.waits.map (·.2),s<8
theorem place_zero {fr od:List Nat} {k:Nat}:placeL fr od k=0↔k ∉ fr∧k ∉ od:=by
 unfold placeL;constructor
 ·intro h
  cases hf:(lall fr od).find? (fun x=>decide (x.1=k))with
  | none=>
   rw[List.find?_eq_none]at hf;refine⟨fun hm=> ?_,fun hm=> ?_⟩
   ·exact absurd (hf (k,true) (by simp[lall,hm])) (by simp)
   ·exact absurd (hf (k,false) (by simp[lall,hm])) (by simp)
  | some x=>
   rw[hf]at h;simp only at h
   split at h<;>omega
 ·rintro⟨h1,h2⟩
  rw[find_none_of];rintro⟨a,c⟩ hm;simp only[lall,List.mem_append,List.mem_map,Prod.mk.injEq]at hm;rcases hm with⟨y,hy,rfl,_⟩ | ⟨y,hy,rfl,_⟩
  ·rintro rfl;exact h1 hy
  ·rintro rfl;exact h2 hy
theorem FQ.ok.len {q:FQ} (h:q.ok):q.fresh.length+q.old.length+q.waits.length≤8:=by
 have:=nodup_len (l:=q.fresh++q.old++q.waits.map (·.2)) (m:=List.range 8) h.nd (fun s hs=>List.mem_range.2 (h.lt s hs));simp at this
 omega
def dueI (q:FQ) (i:Nat):FQ:={ q with waits:=q.waits.drop i,old:=q.old++(q.waits.take i).map (·.2) }
theorem dueI_ok {q:FQ} (h:q.ok) (i:Nat):(dueI q i).ok:=by
 have e:q.fresh++(q.old++(q.waits.take i).map (·.2))++(q.waits.drop i).map (·.2)=q.fresh++q.old++q.waits.map (·.2):=by
  simp only[List.append_assoc,←List.map_append,List.take_append_drop]
 exact⟨by rw[show(dueI q i).fresh++(dueI q i).old++(dueI q i).waits.map (·.2)=_ from e];exact h.nd,by rw[show(dueI q i).fresh++(dueI q i).old++(dueI q i).waits.map (·.2)=_ from e];exact h.lt⟩
def kel (k:KY):List Value:=[.int .u64 (k.1:Nat), .int .u64 (k.2:Nat)]
theorem own_keepI {W W':World} {row:Option Nat} {base B0:Nat} {e:TypeId} {size:Nat} {v:Value} {n:Nat} {xs:List Value} (h:W.ownsRow base e size v n xs) (ht:e≠3) (hg:W.grownBy W' row) (hr: ∀ r,row=some r→B0≤r∧ ∃ o,W.heap[r]? =some o∧(o.isCells=false∨ ∃ cs,∃ fz:Nat×Nat,o= .cells cs 3 fz)):W'.ownsRow base e size v n xs:=by
 refine⟨h.1, ?_⟩;rcases h.2 with hn | ⟨b,cap,cur,h1,h2,h3,h4⟩
 ·exact .inl hn
 ·refine .inr ⟨b,cap,cur,h1,h2,(hg.block b (lt_of_heap h3) fun e'=> ?_).trans h3,h4⟩
  obtain⟨_,o,ho,hc⟩:=hr b e'.symm;rw[h3]at ho;cases ho
  rcases hc with hc | ⟨cs',fz,hc⟩
  ·cases hc
  ·cases hc
   exact ht rfl
theorem infoKY: ∃ i0:TypeInfo,Hid (Tryz.prog.info? 169=some i0∧i0.zero=some (.agg #[.int .u64 0, .int .u64 0])∧i0.size=2∧i0.bytes=16):=by
 obtain⟨i0,h1,h2,h3,h4⟩:=info_parts (show(Tryz.prog.info? 169).map (fun i=>(i.zero,i.size,i.bytes))=some (some (.agg #[.int .u64 0, .int .u64 0]),2,16) by kernel_rfl);exact⟨i0,zH ⟨h1,h2,h3,h4⟩⟩
theorem takeWhile_all {l:List KY} {p:KY→Bool} (h: ∀ k∈l,p k=true):l.takeWhile p=l:=by
 induction l with
 | nil=>rfl
 | cons x r ih=>rw[List.takeWhile_cons,h x (by simp),if_pos rfl,ih (fun k hk=>h k (by simp[hk]))]
theorem takeWhile_pre {ini:List KY} {x:KY} {r:List KY} {p:KY→Bool} (h: ∀ k∈ini,p k=true) (hx:p x=false):(ini++[x]++r).takeWhile p=ini:=by
 induction ini with
 | nil=>simp[hx]
 | cons y i ih=>
  rw[List.cons_append,List.cons_append,List.takeWhile_cons,h y (by simp),if_pos rfl,ih (fun k hk=>h k (by simp[hk]))]
theorem KpT.grownS {S:TypeId→Prop} {A B:World} {row:Option Nat} (hg:A.grownBy B row) (hr: ∀ r,row=some r→ ∃ cs t,∃ fz:Nat×Nat,A.heap[r]? =some (.cells cs t fz)∧S t):KpT S A B:=
 ⟨hg.size,fun k cs t fr hk ht=>(hg.block k (lt_of_heap hk) fun e=>by
  obtain⟨cs',t',fz,h',hS⟩:=hr k e.symm;rw[hk]at h';cases h'
  exact ht hS).trans hk⟩
theorem kel_at {l:List KY} {i:Nat} {x:KY} (h:l[i]? =some x):(l.flatMap kel)[i*2]? =some (.int .u64 (x.1:Nat))∧(l.flatMap kel)[i*2+1]? =some (.int .u64 (x.2:Nat)):=by
 obtain⟨A,B,s1,s2,_⟩:=flat_split (f:=kel) (m:=2) (fun _=>rfl) h;rw[s1,←s2];simp[kel]
theorem lt_of_ownB {w:World} {base:Nat} {e:TypeId} {size b n c:Nat} {xs:List Value} (h:w.ownsRow base e size (.slice (some ⟨b,0,none⟩) n c) n xs):b<w.heap.size:=by
 rcases h.2 with⟨hn,_⟩ | ⟨b',cap,cur,h1,h2,h3,h4⟩
 ·cases hn
 ·cases h1
  exact lt_of_heap h3
def dueN (q:FQ) (now:Nat):Nat:=(q.waits.takeWhile (fun k=>decide (k.1≤now))).length
def dueQ (q:FQ) (now:Nat):FQ:=dueI q (dueN q now)
set_option maxRecDepth 100000 in
theorem fqdue_any (b now:Nat) (fp:Nat→Option Nat) (bl bt:Nat) (q:FQ) (hok:q.ok) (g:Nat→Nat) (T:Nat) (hT0:0<T) (w:World) (hT:Tidy w g) (h:FqIn w g T b fp bl bt q):
  Calls Tryz.prog 81 #[.pointer (some ⟨b,0,none⟩), .int .u64 now] w fun e W'=>(∃ v,e= .returned v)∧ ∃ g',Chg w W' g g' T (T+25)∧FqIn W' g' T b fp bl bt (dueQ q now):=by
 have c18:=h.own.1.ce 18;have hblt:=h.own.1.lt;unfold dueQ;obtain⟨n,hn⟩: ∃ n,dueN q now=n:=⟨_,rfl⟩;rw[hn];have HN:=zH hn;clear hn;refine(callsIn_wide (n:=10)).1 ?_;refine callsIn_of_wp_marks Tryz.func81 rfl trivial ?_ rfl;simp only[Tryz.ntmps81,List.size_toArray,List.length_cons,List.length_nil,Nat.reduceAdd,Nat.reduceSub,Array.replicate_succ,Array.replicate_zero,List.push_toArray,List.append_toArray,List.nil_append,List.cons_append];have C:Hid (∀ w',Calls Tryz.prog 110 #[.pointer (some ⟨bt,0,none⟩)] w' fun e w''=>e= .returned (.func (.func 144) #[] #[.pointer (some ⟨w'.heap.size,0,none⟩)])∧w''=w'.alloc (.cells #[.pointer (some ⟨bt,0,none⟩)] 103)):=zH (rball_any bt);obtain⟨i0,HI⟩:=infoKY;have HH:=zH h;have HT:=zH hT;have hbtl:bt<w.heap.size:=by
  obtain⟨pa,vt,top,ns,us,fr,t,t1,t2,t3⟩:=h.tr.ex;exact t1.lt.1
 clear h hT;gi_wp2_with (refine⟨trivial, ?_⟩;gi_at_call 110;refine(callsIn_wide.2 (C.out _)).mono ?_;rintro e w' ⟨rfl,rfl⟩)
 obtain⟨s,es⟩: ∃ s,w.heap.size=s:=⟨_,rfl⟩;refine wpIn_named (fun W=>Boxed W s 22 (.int .u64 now)∧Boxed W (s+1) 206 (.slice none 0 0)∧At W (s+2) 103 #[.pointer (some ⟨bt,0,none⟩)]∧W.heap.size=s+3∧Below s w W)
  ?nm ?_
 case nm=>
   subst es;refine⟨((Boxed.new w _ _).alloc _).alloc _, ?_, ?_,by simp,(((Below.refl _ w).alloc (Nat.le_refl _) _).alloc (by simp) _).alloc (by simp;omega) _⟩
   ·have:=Boxed.new (w.alloc (.cells #[.int .u64 now] 22)) 206 (.slice none 0 0)
    simp only[World.size_alloc]at this;exact this.alloc _
   ·exact At.mk1 _ _ (by simp)
 rintro W ⟨A0,B1,A2,hsz,hBW⟩;simp only[es,Nat.add_assoc,Nat.reduceAdd];have hTW:TreeAt W g (T+20) bt q.waits:=HH.out.tr.below (by rw[es];exact hBW);refine rng_own (F:=Fence.wide) rfl (by omega) (gf:=144) (lb:= #[.pointer (some ⟨s+2,0,none⟩)]) rfl trivial (enters_of Tryz.func144 (by kernel_rfl) rfl)
  (rball_seq 9 (by omega) (s+2) bt g (T+20) q.waits W A2 hTW) (fun h k=>h.trans k) (fun V l o o' _ h1 h2 _=>KpT.put V l o o' h1 h2) (fun _=>rfl)
  (fun pre V=>(∀ k∈pre,decide (k.1≤now)=true)∧Boxed V s 22 (.int .u64 now)∧(∃ v,Boxed V (s+1) 206 v∧V.ownsRow s 169 2 v pre.length (pre.flatMap kel))∧Below s w V)
  (fun c pre V=>c= .exit 0∧ ∃(ini:List KY) (x:KY),pre=ini++[x]∧(∀ k∈ini,decide (k.1≤now)=true)∧decide (x.1≤now)=false∧(∃ v,Boxed V (s+1) 206 v∧V.ownsRow s 169 2 v ini.length (ini.flatMap kel))∧Below s w V)
  ?hI ?hIx ⟨by simp,A0,⟨_,B1,World.ownsRow_nil _ _ _ _⟩,hBW⟩
  (fun x a' V=> ∃ Bx,s+1<Bx∧At V Bx 169 #[.int .u64 (x.1:Nat), .int .u64 (x.2:Nat)]∧a'={ tmps:= #[.pointer (some ⟨b,0,none⟩), .int .u64 now,undef, .pointer (some ⟨s,0,none⟩), .pointer (some ⟨s+1,0,none⟩), .pointer (some ⟨Bx,0,none⟩),undef,undef, .pointer (some ⟨b,0,none⟩), .pointer (some ⟨b,0,none⟩), .pointer (some ⟨b,18,none⟩), .pointer (some ⟨bt,0,none⟩), .func (.func 144) #[] #[.pointer (some ⟨s+2,0,none⟩)],kyv x,undef,undef,undef,undef,undef,undef,undef,undef,undef,undef,undef,undef,undef,undef,undef,undef,undef,undef,undef,undef,undef,undef,undef,undef,undef,undef,undef,undef,undef],defers:=[] }) ?hAx ?assign ?body ?done ?stop
 case hI=>
  rintro pre A B row ⟨h1,h2,⟨v,h3,h4⟩,h5⟩ hg hr;exact⟨h1,at_keepI (cs:= #[_]) h2 (by decide) hg hr,⟨v,at_keepI (cs:= #[_]) h3 (by decide) hg hr,own_keepI h4 (by decide) hg hr⟩,h5.grown hg (by rw[←es];rw[←es]at h5;exact h5.size) (fun k e=>by have:=(hr k e).1;omega)⟩
 case hIx=>
  rintro c pre A B row ⟨h0,ini,x,h1,h2,hx,⟨v,h3,h4⟩,h5⟩ hg hr;exact⟨h0,ini,x,h1,h2,hx,⟨v,at_keepI (cs:= #[_]) h3 (by decide) hg hr,own_keepI h4 (by decide) hg hr⟩,h5.grown hg (by rw[←es];rw[←es]at h5;exact h5.size) (fun k e=>by have:=(hr k e).1;omega)⟩
 case hAx=>
  rintro x a' _ A B row ⟨Bx,h1,h2,h3⟩ hg hr;exact⟨Bx,h1,at_keepI h2 (by decide) hg hr,h3⟩
 case assign=>
  rintro lp pre x V K ⟨h0,h1,⟨v,h2,h4⟩,h5⟩ hK;have hV:s+1<V.heap.size:=h2.lt;simp only[kenc];unfold kyv;gi_wp2
  exact hK _ _ ((KeepsOthers.alloc _ _).from _) (KpT.below ((Below.refl _ V).alloc (Nat.le_refl _) _)) ⟨h0,h1.alloc _,⟨v,h2.alloc _,h4.alloc _⟩,h5.alloc (by omega) _⟩ ⟨V.heap.size,hV,At.made V _ _,rfl⟩
 case body=>
  rintro lp pre x a' V ⟨h0,h1,⟨v,h2,h4⟩,h5⟩ ⟨Bx,hBx,hAt,rfl⟩ hpl;have d0:=h1.cell;have e0:=h2.cell;have r0:=hAt.cell 0;have r1:=hAt.cell 1;simp only[List.getElem?_toArray,List.getElem?_cons_zero,List.getElem?_cons_succ]at r0 r1;by_cases hx:x.1≤now
  ·have hx': ¬ now<x.1:=by omega
   have hV1:s+1<V.heap.size:=h2.lt;have AP:Hid (∀ v' w1,w1.ownsRow s 169 2 v' (pre.length+1) (pre.flatMap kel++kel x)→(V.alloc (.cells #[.int .u64 (x.1:Nat), .int .u64 (x.2:Nat)] 169)).grownBy w1 v.ownBlock→_):=zH fun v' w1 ho hg=>Boxed.appended h2 (by decide) h4 (by omega) (Nat.le_succ s) ho hg
   gi_wp2_with (gi_at_builtin;refine wpListIn_append_own _ rfl _ _ 206 rfl s 169 i0 (.agg #[.int .u64 0, .int .u64 0]) 2 16 Tryz.underlying206 HI.out.1 HI.out.2.1 HI.out.2.2.1 HI.out.2.2.2 rfl (by decide) v pre.length (pre.flatMap kel) rfl (h4.alloc _) ⟨V.heap.size,0,none⟩ 1 1 (kel x) rfl rfl ?c1 ?c2 ?c3 ?c4 ?c5 ?_)
   case c1=>exact World.news_of_block (At.made V 169 #[.int .u64 (x.1:Nat), .int .u64 (x.2:Nat)])
   case c2=>simp[kel,Value.oneCell']
   case c3=>unfold maxLen;have:=hok.len;omega
   case c4=>have:=hok.len;omega
   case c5=>simp;omega
   intro v' w1 hO hG _;have AQ:=AP.out v' w1 hO hG;obtain⟨a1,c1,rfl,_⟩:=(Rd.own hO).form;have g0:=AQ.1.cell;have gf:=AQ.1.frozen;have b0:=((h1.alloc _).kept hG (h1.not_row (by decide) h4)).kept (grown_set w1 (s+1) 0 (.slice a1 (pre.length+1) c1)) (by simp);have kp:KpT KS V (w1.setCell ⟨s+1,0,none⟩ (.slice a1 (pre.length+1) c1)):=by
    refine((KpT.below ((Below.refl _ V).alloc (Nat.le_refl _) (.cells #[.int .u64 (x.1:Nat), .int .u64 (x.2:Nat)] 169))).trans (KpT.grownS hG fun r hr=> ?_)).trans (KpT.grownS (grown_set w1 (s+1) 0 _) fun r hr=> ?_)
    ·rcases(h4.alloc (.cells #[.int .u64 (x.1:Nat), .int .u64 (x.2:Nat)] 169)).2 with⟨rfl,_⟩ | ⟨gg,cap,cur,rfl,_,hgb,_⟩
     ·simp[Value.ownBlock]at hr
     ·obtain rfl:gg=r:=by simpa [Value.ownBlock]using hr
      exact⟨_,_,_,hgb, .inl rfl⟩
    ·cases hr
     exact⟨_,_,_,AQ.1, .inr rfl⟩
   gi_wp2
   refine⟨AQ.2.2.2.1.from _,kp,fun k hk=> ?_,b0,⟨_,AQ.2.1, ?_⟩,h5.trans AQ.2.2.2.2⟩
   ·rcases List.mem_append.1 hk with h | h
    ·exact h0 k h
    ·simp only[List.mem_singleton]at h
     subst h;exact decide_eq_true hx
   ·have:=AQ.2.2.1
    simpa using this
  ·have hx':now<x.1:=by omega
   gi_wp2
   exact⟨(KeepsOthers.refl _).from _,rfl,pre,x,rfl,h0,decide_eq_false hx,⟨v,h2,h4⟩,h5⟩
 case done=>
  rintro D ys V hD rfl ⟨he,h2,⟨v,h3,h4⟩,h5⟩ hK;have hn:=HN.out;have hnl:n=q.waits.length:=by rw[←hn];unfold dueN;rw[takeWhile_all he]
  have htk:q.waits.take n=q.waits:=by rw[hnl,List.take_length]
  rw[←hnl]at h4;rw[show q.waits.flatMap kel=(q.waits.take n).flatMap kel from by rw[htk]]at h4;have hnle:n≤q.waits.length:=by omega
  clear hn hnl htk he;obtain⟨a1,c1,rfl,_⟩:=(Rd.own h4).form;have l0:=h3.cell;rw[hsz]at hD;have NV:=HH.out.below (w':=V) (by rw[es];exact h5);have hVs:s≤V.heap.size:=by rw[←es];rw[←es]at h5;exact h5.size
  have TV:Tidy V g:=fun k hk=>HT.out k (by omega)
  have h4':=h4;have HNV:=zH NV;have HTV:=zH TV;have HK:=zH hK;have H4:=zH h4;have H5:=zH h5;clear h2 h3 h5 hK NV TV h4;gi_wp2
  refine(wpIn_wide (n:=10)).2 ?_;go_loopw [24] (fun v24 wr=> ∃(i:Nat) (g':Nat→Nat),v24= .int .i64 i∧i≤n∧Chg V wr g g' T (T+25)∧FqIn wr g' T b fp bl bt (dueI q i)) (fun v24 _=>match v24 with | .int _ z=>n-z.toNat | _=>0)
  case atStart=>exact⟨0,g,rfl,Nat.zero_le _,Chg.refl HTV.out _ _,by unfold dueI;simpa using HNV.out⟩
  case round=>
   obtain⟨i,g',rfl,hi,hC,hN⟩:=hrel;by_cases hin:i<n
   ·obtain⟨x,hx⟩: ∃ x,q.waits[i]? =some x:=⟨_,List.getElem?_eq_getElem (by omega)⟩
    obtain⟨rb,c2,hv,hrb⟩:=H4.out.form (by omega);cases hv
    have hgrb:g rb=0:=HT.out rb (by omega);have K0:=H4.out.cells (g:=rb) rfl;obtain⟨kA,kB⟩:=kel_at (l:=q.waits.take n) (i:=i) (x:=x) (by rw[List.getElem?_take_of_lt hin];exact hx);have hrV:=lt_of_ownB H4.out;have hrk:wr.heap[rb]? =V.heap[rb]? :=hC.kept rb hrV (by omega);have m0:wr.cell? ⟨rb,i*2,none⟩=some (.int .u64 (x.1:Nat)):=by
     have:=K0 _ _ kA;rw[Addr.add_lit,Nat.zero_add]at this;unfold World.cell? at this ⊢;rw[show wr.heap[(⟨rb,i*2,none⟩:Addr).block]? =V.heap[(⟨rb,i*2,none⟩:Addr).block]? from hrk];exact this
    have m1:wr.cell? ⟨rb,i*2+1,none⟩=some (.int .u64 (x.2:Nat)):=by
     have:=K0 _ _ kB;rw[Addr.add_lit,Nat.zero_add]at this;unfold World.cell? at this ⊢;rw[show wr.heap[(⟨rb,i*2+1,none⟩:Addr).block]? =V.heap[(⟨rb,i*2+1,none⟩:Addr).block]? from hrk];exact this
    have hdr:q.waits.drop i=x::q.waits.drop (i+1):=by rw[List.drop_eq_getElem?_toList_append,hx];rfl
    have hxm:x∈(dueI q i).waits:=by show x∈q.waits.drop i;rw[hdr];simp
    have hok2:=dueI_ok hok i;have hx8:x.2<8:=hok2.lt _ (by simp only[List.mem_append,List.mem_map];exact .inr ⟨x,hxm,rfl⟩);have hpl:placeL (dueI q i).fresh (dueI q i).old x.2=0:=by
     rw[place_zero];have hnd:=hok2.nd;rw[List.append_assoc,List.nodup_append]at hnd;obtain⟨_,n2,n3⟩:=hnd;rw[List.nodup_append]at n2;have hm:x.2∈(dueI q i).waits.map (·.2):=List.mem_map_of_mem hxm;exact⟨fun h=>n3 _ h _ (List.mem_append_right _ hm) rfl,fun h=>n2.2.2 _ h _ hm rfl⟩
    have hlen:=hok2.len;have her:(dueI q i).waits.erase x=(dueI q (i+1)).waits:=by show(q.waits.drop i).erase x=q.waits.drop (i+1);rw[hdr];simp
    have hol:pushL (dueI q i).fresh (dueI q i).old x.2 false=((dueI q (i+1)).fresh,(dueI q (i+1)).old):=by
     have e:q.waits.take (i+1)=q.waits.take i++[x]:=by rw[List.take_add_one,hx];rfl
     unfold pushL dueI;simp[e]
    have CD:=zH (fun w'=>rbdelete_any bt x (dueI q i).waits hxm g' (T+20) (by omega) w');have CP:=zH (fun g2 w'=>lspush_new bl x.2 false hx8 (dueI q i).fresh (dueI q i).old (by omega) (by omega) g2 (T+17) w');rw[her]at CD;unfold kyv at CD;have d18:=hN.own.1.ce 18;have gb:=hN.own.2;have h100:i<100:=by have:=hok.len;omega
    have hbl2:=hN.own.1.lt;have hwx:wrap64 (x.2:Int)=x.2:=by unfold wrap64;omega
    have hN1:=zH hN;have hC1:=zH hC;have HPL:=zH hpl;have HOL:=zH hol;clear hN hC K0 kA kB hrk hdr hxm hok2 hpl her hol hlen;go_wp2_with fail
    obtain⟨z,ez⟩: ∃ z,wr.heap.size=z:=⟨_,rfl⟩;have gz:g' z=0:=hC1.out.tidy _ (by omega);rw[ez];refine wp_named (fun W1=>At W1 z 169 #[.int .u64 (x.1:Nat), .int .u64 (x.2:Nat)]∧FqIn W1 g' T b fp bl bt (dueI q i)∧Chg V W1 g g' T (T+25)) ⟨by rw[←ez];exact At.made _ _ _,hN1.out.below ((Below.refl _ wr).alloc (Nat.le_refl _) _),hC1.out.alloc _⟩ (fun W1 hW=> ?_);obtain⟨A1,N1,C1⟩:=hW;have a0:=A1.cell 0;have a1':=A1.cell 1;simp only[List.getElem?_toArray,List.getElem?_cons_zero,List.getElem?_cons_succ]at a0 a1';have b18:=N1.own.1.ce 18;have HA1:=zH A1;have HN1:=zH N1;have HC1:=zH C1;clear A1 N1 C1 hN1 hC1 m0 m1 d18;go_still_tail 5,(by kernel_rfl)
    change wpList _ _ _ _ _ W1.drew
    go_wp2_with fail
    refine(CD.out _ HC1.out.drew.tidy (HN1.out.drewN 1).tr).mono ?_;rintro e w2 ⟨g2,rfl,C2,TR⟩;have N2:=(HN1.out.drewN 1).tree_ C2 TR;have A2:=(show At W1.drew z 169 _ from HA1.out).chg C2 (by omega);have CC2:=HC1.out.drew.trans (C2.mono (by omega) (by omega));have a1:=A2.cell 1;simp only[List.getElem?_toArray,List.getElem?_cons_zero,List.getElem?_cons_succ]at a1;have b17:=N2.own.1.ce 17;have HN2:=zH N2;have HC2:=zH CC2;clear N2 A2 CC2 C2 TR HA1 HN1 HC1 a0 a1' b18;go_wp2_with fail
    go_still_tail 7,(by kernel_rfl)
    change wpList _ _ _ _ _ w2.drew
    clear hwx;go_wp2_with fail
    refine(CP.out g2 _ HC2.out.drew.tidy (HN2.out.drewN 1).ls HPL.out).mono ?_;rintro e w3 ⟨rfl,g3,C3,L3⟩;have N3:=(HN2.out.drewN 1).lists_ C3 L3;rw[HOL.out]at N3;have HN3:=zH N3;have HC3:=zH (HC2.out.drew.trans (C3.mono (by omega) (by omega)));clear N3 C3 L3;go_wp2_with fail
    go_roundw
    case rel=>
     refine⟨i+1,g3, ?_,by omega,HC3.out,HN3.out⟩;simp
    case measure=>
     simp
     omega
   ·obtain rfl:i=n:=by omega
    have hNN:=zH hN;have hCC:=zH hC;clear hN hC;go_wp2_with fail
    have gD:g D=0:=HT.out D (by omega);have hDV:=lt_of_heap HK.out;have hKD:wr.heap[D]? =some (.deferred (some [])):=(hCC.out.kept D hDV (by omega)).trans HK.out;have g'D:g' D=0:=(hCC.out.old D hDV).trans gD;refine⟨by simp, .inl ⟨_,_,rfl,run_takeDeferred hKD, ?_⟩⟩;refine⟨.tuple #[], ?_,⟨_,rfl⟩,g', ?_, ?_⟩
    ·simp[results,Tryz.f81,go_sem]
    ·have cV:Chg w V g g T (T+25):=(Chg.refl HT.out _ _).below (by rw[es];exact H5.out)
     exact(cV.trans hCC.out).by (grownBy_putObj' _ D (.deferred none)) (fun k hk hlt=>by cases hk;omega)
    ·exact hNN.out.other (grownBy_putObj' _ D (.deferred none)) (fun k hk=>by cases hk;left;omega)
 case stop=>
  rintro D c pre V hD hp ⟨rfl,ini,x,rfl,h2,hx,⟨v,h3,h4⟩,h5⟩ hK;have hn:=HN.out;obtain⟨r,hr⟩:=hp;have hnl:n=ini.length:=by rw[←hn];unfold dueN;rw[←hr,takeWhile_pre h2 hx]
  have htk:q.waits.take n=ini:=by rw[hnl,←hr,List.append_assoc,List.take_left]
  rw[←hnl]at h4;rw[show ini.flatMap kel=(q.waits.take n).flatMap kel from by rw[htk]]at h4;have hnle:n≤q.waits.length:=by rw[←hr];simp;omega
  clear hn hnl htk hr hx;obtain⟨a1,c1,rfl,_⟩:=(Rd.own h4).form;have l0:=h3.cell;rw[hsz]at hD;have NV:=HH.out.below (w':=V) (by rw[es];exact h5);have hVs:s≤V.heap.size:=by rw[←es];rw[←es]at h5;exact h5.size
  have TV:Tidy V g:=fun k hk=>HT.out k (by omega)
  have h4':=h4;have HNV:=zH NV;have HTV:=zH TV;have HK:=zH hK;have H4:=zH h4;have H5:=zH h5;clear h2 h3 h5 hK NV TV h4;gi_wp2
  refine(wpIn_wide (n:=10)).2 ?_;go_loopw [24] (fun v24 wr=> ∃(i:Nat) (g':Nat→Nat),v24= .int .i64 i∧i≤n∧Chg V wr g g' T (T+25)∧FqIn wr g' T b fp bl bt (dueI q i)) (fun v24 _=>match v24 with | .int _ z=>n-z.toNat | _=>0)
  case atStart=>exact⟨0,g,rfl,Nat.zero_le _,Chg.refl HTV.out _ _,by unfold dueI;simpa using HNV.out⟩
  case round=>
   obtain⟨i,g',rfl,hi,hC,hN⟩:=hrel;by_cases hin:i<n
   ·obtain⟨x,hx⟩: ∃ x,q.waits[i]? =some x:=⟨_,List.getElem?_eq_getElem (by omega)⟩
    obtain⟨rb,c2,hv,hrb⟩:=H4.out.form (by omega);cases hv
    have hgrb:g rb=0:=HT.out rb (by omega);have K0:=H4.out.cells (g:=rb) rfl;obtain⟨kA,kB⟩:=kel_at (l:=q.waits.take n) (i:=i) (x:=x) (by rw[List.getElem?_take_of_lt hin];exact hx);have hrV:=lt_of_ownB H4.out;have hrk:wr.heap[rb]? =V.heap[rb]? :=hC.kept rb hrV (by omega);have m0:wr.cell? ⟨rb,i*2,none⟩=some (.int .u64 (x.1:Nat)):=by
     have:=K0 _ _ kA;rw[Addr.add_lit,Nat.zero_add]at this;unfold World.cell? at this ⊢;rw[show wr.heap[(⟨rb,i*2,none⟩:Addr).block]? =V.heap[(⟨rb,i*2,none⟩:Addr).block]? from hrk];exact this
    have m1:wr.cell? ⟨rb,i*2+1,none⟩=some (.int .u64 (x.2:Nat)):=by
     have:=K0 _ _ kB;rw[Addr.add_lit,Nat.zero_add]at this;unfold World.cell? at this ⊢;rw[show wr.heap[(⟨rb,i*2+1,none⟩:Addr).block]? =V.heap[(⟨rb,i*2+1,none⟩:Addr).block]? from hrk];exact this
    have hdr:q.waits.drop i=x::q.waits.drop (i+1):=by rw[List.drop_eq_getElem?_toList_append,hx];rfl
    have hxm:x∈(dueI q i).waits:=by show x∈q.waits.drop i;rw[hdr];simp
    have hok2:=dueI_ok hok i;have hx8:x.2<8:=hok2.lt _ (by simp only[List.mem_append,List.mem_map];exact .inr ⟨x,hxm,rfl⟩);have hpl:placeL (dueI q i).fresh (dueI q i).old x.2=0:=by
     rw[place_zero];have hnd:=hok2.nd;rw[List.append_assoc,List.nodup_append]at hnd;obtain⟨_,n2,n3⟩:=hnd;rw[List.nodup_append]at n2;have hm:x.2∈(dueI q i).waits.map (·.2):=List.mem_map_of_mem hxm;exact⟨fun h=>n3 _ h _ (List.mem_append_right _ hm) rfl,fun h=>n2.2.2 _ h _ hm rfl⟩
    have hlen:=hok2.len;have her:(dueI q i).waits.erase x=(dueI q (i+1)).waits:=by show(q.waits.drop i).erase x=q.waits.drop (i+1);rw[hdr];simp
    have hol:pushL (dueI q i).fresh (dueI q i).old x.2 false=((dueI q (i+1)).fresh,(dueI q (i+1)).old):=by
     have e:q.waits.take (i+1)=q.waits.take i++[x]:=by rw[List.take_add_one,hx];rfl
     unfold pushL dueI;simp[e]
    have CD:=zH (fun w'=>rbdelete_any bt x (dueI q i).waits hxm g' (T+20) (by omega) w');have CP:=zH (fun g2 w'=>lspush_new bl x.2 false hx8 (dueI q i).fresh (dueI q i).old (by omega) (by omega) g2 (T+17) w');rw[her]at CD;unfold kyv at CD;have d18:=hN.own.1.ce 18;have gb:=hN.own.2;have h100:i<100:=by have:=hok.len;omega
    have hbl2:=hN.own.1.lt;have hwx:wrap64 (x.2:Int)=x.2:=by unfold wrap64;omega
    have hN1:=zH hN;have hC1:=zH hC;have HPL:=zH hpl;have HOL:=zH hol;clear hN hC K0 kA kB hrk hdr hxm hok2 hpl her hol hlen;go_wp2_with fail
    obtain⟨z,ez⟩: ∃ z,wr.heap.size=z:=⟨_,rfl⟩;have gz:g' z=0:=hC1.out.tidy _ (by omega);rw[ez];refine wp_named (fun W1=>At W1 z 169 #[.int .u64 (x.1:Nat), .int .u64 (x.2:Nat)]∧FqIn W1 g' T b fp bl bt (dueI q i)∧Chg V W1 g g' T (T+25)) ⟨by rw[←ez];exact At.made _ _ _,hN1.out.below ((Below.refl _ wr).alloc (Nat.le_refl _) _),hC1.out.alloc _⟩ (fun W1 hW=> ?_);obtain⟨A1,N1,C1⟩:=hW;have a0:=A1.cell 0;have a1':=A1.cell 1;simp only[List.getElem?_toArray,List.getElem?_cons_zero,List.getElem?_cons_succ]at a0 a1';have b18:=N1.own.1.ce 18;have HA1:=zH A1;have HN1:=zH N1;have HC1:=zH C1;clear A1 N1 C1 hN1 hC1 m0 m1 d18;go_still_tail 5,(by kernel_rfl)
    change wpList _ _ _ _ _ W1.drew
    go_wp2_with fail
    refine(CD.out _ HC1.out.drew.tidy (HN1.out.drewN 1).tr).mono ?_;rintro e w2 ⟨g2,rfl,C2,TR⟩;have N2:=(HN1.out.drewN 1).tree_ C2 TR;have A2:=(show At W1.drew z 169 _ from HA1.out).chg C2 (by omega);have CC2:=HC1.out.drew.trans (C2.mono (by omega) (by omega));have a1:=A2.cell 1;simp only[List.getElem?_toArray,List.getElem?_cons_zero,List.getElem?_cons_succ]at a1;have b17:=N2.own.1.ce 17;have HN2:=zH N2;have HC2:=zH CC2;clear N2 A2 CC2 C2 TR HA1 HN1 HC1 a0 a1' b18;go_wp2_with fail
    go_still_tail 7,(by kernel_rfl)
    change wpList _ _ _ _ _ w2.drew
    clear hwx;go_wp2_with fail
    refine(CP.out g2 _ HC2.out.drew.tidy (HN2.out.drewN 1).ls HPL.out).mono ?_;rintro e w3 ⟨rfl,g3,C3,L3⟩;have N3:=(HN2.out.drewN 1).lists_ C3 L3;rw[HOL.out]at N3;have HN3:=zH N3;have HC3:=zH (HC2.out.drew.trans (C3.mono (by omega) (by omega)));clear N3 C3 L3;go_wp2_with fail
    go_roundw
    case rel=>
     refine⟨i+1,g3, ?_,by omega,HC3.out,HN3.out⟩;simp
    case measure=>
     simp
     omega
   ·obtain rfl:i=n:=by omega
    have hNN:=zH hN;have hCC:=zH hC;clear hN hC;go_wp2_with fail
    have gD:g D=0:=HT.out D (by omega);have hDV:=lt_of_heap HK.out;have hKD:wr.heap[D]? =some (.deferred (some [])):=(hCC.out.kept D hDV (by omega)).trans HK.out;have g'D:g' D=0:=(hCC.out.old D hDV).trans gD;refine⟨by simp, .inl ⟨_,_,rfl,run_takeDeferred hKD, ?_⟩⟩;refine⟨.tuple #[], ?_,⟨_,rfl⟩,g', ?_, ?_⟩
    ·simp[results,Tryz.f81,go_sem]
    ·have cV:Chg w V g g T (T+25):=(Chg.refl HT.out _ _).below (by rw[es];exact H5.out)
     exact(cV.trans hCC.out).by (grownBy_putObj' _ D (.deferred none)) (fun k hk hlt=>by cases hk;omega)
    ·exact hNN.out.other (grownBy_putObj' _ D (.deferred none)) (fun k hk=>by cases hk;left;omega)
end
section
open Go.RowKit Go.Lib
def sendQ (q:FQ) (s:Nat) (f:FL) (x:SG) (r:List SG) (now rate:Nat):FQ:=
 { q with fl:=putF q.fl s (some ⟨f.credit-x.len,satAdd now (delayOf x.len (les rate q.c.maxRate)),f.since,r⟩),n:=q.n-1 }
theorem les_lt {a b:Nat} (ha:a<18446744073709551616):les a b<18446744073709551616:=by
 unfold les nz;split<;>split<;>omega
theorem delayOf_lt (s:Int) (r:Nat):delayOf s r<18446744073709551616:=by have:=delayOf_le s r;omega
theorem fqsend_any (b p s now rate:Nat) (hs:s<8) (x:SG) (r:List SG) (f:FL) (hfs:f.segs=x::r) (hnow:now<18446744073709551616) (hrate:rate<18446744073709551616) (hlen:x.len≤65536) (hcr: -1099511627776≤f.credit∧f.credit≤1099511627776) (fp:Nat→Option Nat) (bl bt:Nat) (q:FQ) (hmr:q.c.maxRate<18446744073709551616) (hn:1≤q.n∧q.n≤100000) (hp:fp s=some p) (hf:q.fl s=some f) (g:Nat→Nat) (T:Nat) (hT0:0<T) (w:World) (hT:Tidy w g) (h:FqIn w g T b fp bl bt q):
  Calls Tryz.prog 89 #[.pointer (some ⟨b,0,none⟩), .pointer (some ⟨p,0,none⟩), .int .u64 now, .int .u64 rate] w fun e w'=>e= .returned (sgv x)∧Chg w w' g g T (T+25)∧FqIn w' g T b fp bl bt (sendQ q s f x r now rate):=by
 have hfl:=h.fls s hs;rw[hp,hf]at hfl;obtain⟨v,k1,k2⟩:=hfl;obtain⟨cr,nx,si,sg⟩:=f;simp only at hfs k1 k2 hcr
 subst hfs;have CL:=zH (fun w'=>lesser_any rate q.c.maxRate hrate hmr w');have CD:=zH (fun w'=>of_any x.len (les rate q.c.maxRate) (by omega) (by omega) (les_lt hrate) w');have CA:=zH (fun w'=>add_any now (delayOf x.len (les rate q.c.maxRate)) hnow (delayOf_lt _ _) w');unfold sendQ;rcases k2.form with⟨_,e2,_⟩ | ⟨bb,off,cap,rfl,t1,_,t3,t4⟩
 ·cases e2
 have gp:=k1.2;have gb:=h.own.2;have hblt:=h.own.1.lt;have hplt:=k1.1.lt;have hbp:b≠p:=by rintro rfl;omega
 have hpb:p≠b:=fun e=>hbp e.symm
 have hbbp:bb≠p:=by rintro rfl;omega
 have c3:=k1.1.ce 3;have f3:=k1.1.free 3;have s0:w.cell? ⟨bb,off,none⟩=some (.int .i64 x.sock):=k2.cells 0 (by simp);have s1:w.cell? ⟨bb,off+1,none⟩=some (.int .u64 x.frm):=k2.cells 1 (by simp;omega);have s2:w.cell? ⟨bb,off+2,none⟩=some (.int .i64 x.len):=k2.cells 2 (by simp;omega);have s3:w.cell? ⟨bb,off+3,none⟩=some (.int .u64 x.stamp):=k2.cells 3 (by simp;omega);have s4:w.cell? ⟨bb,off+4,none⟩=some (.bool x.again):=k2.cells 4 (by simp;omega);have c19:=h.own.1.ce 19;have f19:=h.own.1.free 19;obtain⟨n1,hn1⟩: ∃ n1,q.n-1=n1:=⟨_,rfl⟩;have ew:wrap64 ((q.n:Int)-1)=(n1:Int):=by unfold wrap64;omega
 obtain⟨z,ez⟩: ∃ z,w.heap.size=z:=⟨_,rfl⟩;obtain⟨tt,t2⟩:=k2.tag_;rw[ez]at hblt hplt t2;have HH:=zH h;have HT:=zH hT;have HK1:=zH k1;have HK2:=zH k2;rw[hn1];obtain⟨N2,eN2⟩: ∃ N2,satAdd now (delayOf x.len (les rate q.c.maxRate))=N2:=⟨_,rfl⟩;rw[eN2]at CA ⊢;have gz:g z=0:=hT _ (by omega);clear eN2;have hn2:((r.length:Int)+1-1)=r.length:=by omega
 have hx5:sgl x++r.flatMap sgl=(x::r).flatMap sgl:=by simp
 have KT:=k2.tail (by simp);have hdr:((x::r).flatMap sgl).drop 5=r.flatMap sgl:=rfl;rw[hdr,show(x::r).length-1=r.length from rfl]at KT;have PRE:Hid (∀ V,Sli w g (T+1+2*s+1) 48 5 V r.length (r.flatMap sgl)→ ∀ o1 o2,FqIn ((((w.setCell ⟨p,3,none⟩ V).setCell ⟨b,19,none⟩ (.int .i64 ((q.n:Int)-1))).alloc o1).alloc o2) g T b fp bl bt { q with fl:=putF q.fl s (some ⟨cr,nx,si,r⟩),n:=n1 }∧Chg w ((((w.setCell ⟨p,3,none⟩ V).setCell ⟨b,19,none⟩ (.int .i64 ((q.n:Int)-1))).alloc o1).alloc o2) g g T (T+25)):=by
  refine zH fun V hV o1 o2=> ?_
  have PU:=Put.set (u:=V) k1.1 3;have TU:=h.turn (f':=⟨cr,nx,si,r⟩) hT hs hp PU ⟨V,k1.put PU,hV.set_other _ (by show g p≠T+1+2*s+1;omega)⟩;have N2:=TU.2.n_ hT0 n1 ((q.n:Int)-1) (by omega);exact⟨(N2.below ((Below.refl _ _).alloc (Nat.le_refl _) o1)).below ((Below.refl _ _).alloc (Nat.le_refl _) o2),(((TU.1.mono (by omega) (by omega)).set (b:=b) (i:=19) (fun _=>by omega) _).alloc o1).alloc o2⟩
 have HKT:=zH KT;clear h hT k1 k2 hmr KT hdr hx5;go_enter Tryz.func89,Tryz.ntmps89
 go_wp2_with fail
 all_goals
  refine wp_named (fun W=>At W z 48 #[.int .i64 0, .int .u64 0, .int .i64 0, .int .u64 0, .bool false]∧At W (z+1) 48 (sga x)∧FqIn W g T b fp bl bt { q with fl:=putF q.fl s (some ⟨cr,nx,si,r⟩),n:=n1 }∧Chg w W g g T (T+25)) ⟨?_, ?_,(PRE.out _ ?_ _ _).1,(PRE.out _ ?_ _ _).2⟩ (fun W hW=> ?_)
  case refine_1=>
   refine At.al ?_ _;exact At.mk1 _ _ (by simp[World.setCell,ez])
  case refine_2=>exact At.mk1 _ _ (by simp[World.setCell,ez])
  case refine_3=>have:=HKT.out;simpa only[h,if_true,if_false]using this
  case refine_4=>have:=HKT.out;simpa only[h,if_true,if_false]using this
  obtain⟨A0,A1,NW,CW⟩:=hW;clear c3 s0 s1 s2 s3 s4 c19 f3 f19 HKT PRE h;have hfl2:=NW.fls s hs;dsimp only at hfl2
  rw[hp,putF_at]at hfl2;obtain⟨v2,k1,k2⟩:=hfl2;have e0:=k1.1.ce 0;have ef0:=k1.1.free 0;have a2:=A1.ce 2;have ew2:wrap64 (cr-(x.len:Int))=cr-(x.len:Int):=by unfold wrap64;omega
  have PU:=Put.set (u:= .int .i64 (cr-(x.len:Int))) k1.1 0;have TU:=NW.turn (f':=⟨cr-x.len,nx,si,r⟩) CW.tidy hs hp PU ⟨v2,k1.put PU,k2.set_other _ (by show g p≠T+1+2*s+1;omega)⟩;have HN:=zH TU.2;have HC:=zH (CW.trans (TU.1.mono (by omega) (by omega)));have HA0:=zH (A0.far (p:=⟨p,0,none⟩) (u:= .int .i64 (cr-(x.len:Int))) (by show z≠p;omega));have HA1:=zH (A1.far (p:=⟨p,0,none⟩) (u:= .int .i64 (cr-(x.len:Int))) (by show z+1≠p;omega));clear A0 A1 NW CW k1 k2 PU TU;go_region
  refine q_named (fun W=>At W z 48 #[.int .i64 0, .int .u64 0, .int .i64 0, .int .u64 0, .bool false]∧At W (z+1) 48 (sga x)∧FqIn W g T b fp bl bt { q with fl:=putF q.fl s (some ⟨cr-x.len,nx,si,r⟩),n:=n1 }∧Chg w W g g T (T+25)) ⟨HA0.out,HA1.out, ?_,HC.out.drewN _⟩ (fun W2 hW=> ?_)
  ·have:=HN.out.drewN
   dsimp only at this
   rw[putF_twice]at this;exact this _
  obtain⟨A0,A1,NW,CW⟩:=hW;clear HN HC HA0 HA1 e0 ef0 a2 ew2;have hfl2:=NW.fls s hs;dsimp only at hfl2
  rw[hp,putF_at]at hfl2;obtain⟨v2,k1,k2⟩:=hfl2;have e1:=k1.1.ce 1;have ef1:=k1.1.free 1;have a2:=A1.ce 2;have q5:=NW.own.1.ce 5;have PU:=Put.set (u:= .int .u64 (N2:Nat)) k1.1 1;have TU:=NW.turn (f':=⟨cr-x.len,N2,si,r⟩) CW.tidy hs hp PU ⟨v2,k1.put PU,k2.set_other _ (by show g p≠T+1+2*s+1;omega)⟩;have HN:=zH TU.2;have HC:=zH (CW.trans (TU.1.mono (by omega) (by omega)));have HA0:=zH (A0.far (p:=⟨p,1,none⟩) (u:= .int .u64 (N2:Nat)) (by show z≠p;omega));have HA1:=zH (A1.far (p:=⟨p,1,none⟩) (u:= .int .u64 (N2:Nat)) (by show z+1≠p;omega));clear A0 A1 NW CW k1 k2 PU TU;go_upto_region 5 with fail
  refine wp_region_held_drew (S:=fun wq=>wq.cell? ⟨z+1,2,none⟩=some (.int .i64 x.len)∧wq.cell? ⟨b,5,none⟩=some (.int .u64 q.c.maxRate)) (by kernel_rfl) ⟨a2,q5⟩ (fun hHeld=> ?_);refine zt 0 ?_;refine zt 1 ?_;refine zt 2 ?_;refine zt 3 ?_;refine zt 4 ?_;refine zt 5 ?_;refine zt 6 ?_;refine zt 7 ?_;refine zt 8 ?_;refine zt 9 ?_;refine zc 10 (fun K hK=> ?_);go_simp;refine(CL.out _).mono ?_;rintro e w5 ⟨rfl,rfl⟩;refine hK.out _ _ ?_ (fun hHeld=> ?_);focus exact hHeld
  clear hK K;refine zl ?_;refine zc 11 (fun K hK=> ?_);go_simp;refine(CD.out _).mono ?_;rintro e w5 ⟨rfl,rfl⟩;refine hK.out _ _ ?_ (fun hHeld=> ?_);focus exact hHeld
  clear hK K;refine zl ?_;refine zc 12 (fun K hK=> ?_);go_simp;refine(CA.out _).mono ?_;rintro e w5 ⟨rfl,rfl⟩;refine hK.out _ _ ?_ (fun hHeld=> ?_);focus exact hHeld
  clear hK K;refine zl ?_;refine zt 13 ?_;refine zt 14 ?_;refine zc 15 (fun K hK=> ?_);go_simp;refine hK.out _ _ ?_ (fun hHeld=> ?_);focus exact⟨HA1.out.cell 2,HN.out.own.1.cell 5⟩
  clear hK K;refine zl ?_;refine dnZ ?_;clear hHeld;go_upto_region 6 with fail
  refine wp_named (fun W=>At W z 48 #[.int .i64 0, .int .u64 0, .int .i64 0, .int .u64 0, .bool false]∧At W (z+1) 48 (sga x)∧FqIn W g T b fp bl bt { q with fl:=putF q.fl s (some ⟨cr-x.len,N2,si,r⟩),n:=n1 }∧Chg w W g g T (T+25)) ⟨HA0.out,HA1.out, ?_,HC.out.drew⟩ (fun W3 hW=> ?_)
  ·have:=HN.out.drewN 1
   (try dsimp only at this)
   rw[putF_twice]at this;exact this
  obtain⟨A0,A1,NW,CW⟩:=hW;clear HN HC HA0 HA1 e1 ef1 a2 q5;have y0:=A1.cell 0;have y1:=A1.cell 1;have y2:=A1.cell 2;have y3:=A1.cell 3;have y4:=A1.cell 4;simp only[sga,List.getElem?_toArray,List.getElem?_cons_zero,List.getElem?_cons_succ]at y0 y1 y2 y3 y4;have u0:=A0.cell 0;have u1:=A0.cell 1;have u2:=A0.cell 2;have u3:=A0.cell 3;have u4:=A0.cell 4;have v0:=A0.free 0;have v1:=A0.free 1;have v2:=A0.free 2;have v3:=A0.free 3;have v4:=A0.free 4;simp only[List.getElem?_toArray,List.getElem?_cons_zero,List.getElem?_cons_succ]at u0 u1 u2 u3 u4;have A5:=((((A0.set (u:= .int .i64 (x.sock:Nat)) 0).set (u:= .int .u64 (x.frm:Nat)) 1).set (u:= .int .i64 (x.len:Nat)) 2).set (u:= .int .u64 (x.stamp:Nat)) 3).set (u:= .bool x.again) 4;have d0:=A5.cell 0;have d1:=A5.cell 1;have d2:=A5.cell 2;have d3:=A5.cell 3;have d4:=A5.cell 4;simp only[List.setIfInBounds_toArray,List.set_cons_zero,List.set_cons_succ,List.getElem?_toArray,List.getElem?_cons_zero,List.getElem?_cons_succ]at d0 d1 d2 d3 d4;have G5:=((((grown_set W3 z 0 (.int .i64 (x.sock:Nat))).trans (grown_set _ z 1 (.int .u64 (x.frm:Nat)))).trans (grown_set _ z 2 (.int .i64 (x.len:Nat)))).trans (grown_set _ z 3 (.int .u64 (x.stamp:Nat)))).trans (grown_set _ z 4 (.bool x.again));have HC:=zH (CW.by G5 (fun k hk hlt=>by cases hk;omega));have HN:=zH (NW.other G5 (fun k hk=>by cases hk;left;omega));have D0:=zH d0;have D1:=zH d1
  have D2:=zH d2;have D3:=zH d3;have D4:=zH d4;clear A0 A1 A5 G5 NW CW d0 d1 d2 d3 d4;go_wp2_with fail
  refine bodyPost_ret (v:=sgv x) ?_ rfl ⟨rfl,HC.out,HN.out⟩;simp[results,Tryz.f89,go_sem,D0.out,D1.out,D2.out,D3.out,D4.out,sgv]
end
section
open Go.RowKit Go.Lib
structure SG.ok (x:SG):Prop where
 s:x.sock<8
 l1:1≤x.len
 l2:x.len≤65536
 st:x.stamp<18446744073709551616
 fr:x.frm<18446744073709551616
structure FL.ok (f:FL):Prop where
 c1: -65536≤f.credit
 c2:f.credit≤65536
 nx:f.next<18446744073709551616
 si:f.since<18446744073709551616
 sg: ∀ x∈f.segs,x.ok
structure CF.ok (c:CF):Prop where
 q1:100≤c.quantum
 q2:c.quantum≤65536
 f1:100≤c.first
 f2:c.first≤65536
 l1:1≤c.limit
 l2:c.limit≤512
 w1:1≤c.flowLimit
 w2:c.flowLimit≤512
 hz:c.horizon≤4611686018427387904
 mr:c.maxRate<18446744073709551616
 c1:1≤c.cap
 c2:c.cap≤1073741824
 m1:100≤c.mss
 m2:c.mss≤9000
def lens (fl:Nat→Option FL) (s:Nat):Nat:=match fl s with
 | none=>0
 | some f=>f.segs.length
def tot (fl:Nat→Option FL):Nat:=lens fl 0+lens fl 1+lens fl 2+lens fl 3+lens fl 4+lens fl 5+lens fl 6+lens fl 7
def FQ.all (q:FQ):List Nat:=q.fresh++q.old++q.waits.map (·.2)
structure FQ.inv (q:FQ):Prop where
 ok:q.ok
 cf:q.c.ok
 fl: ∀ s f,q.fl s=some f→f.ok
 there: ∀ s∈q.all,∃ f,q.fl s=some f
 tot:q.n=tot q.fl
 lim:q.n≤512
 wt: ∀ k∈q.waits,∃ f,q.fl k.2=some f∧f.segs≠[]∧k.1=timeF f
 seg: ∀ s f,s<8→q.fl s=some f→f.segs≠[]→s∈q.all
theorem lens_put (fl:Nat→Option FL) (s k:Nat) (x:Option FL):lens (putF fl s x) k=if k=s then(match x with | none=>0 | some f=>f.segs.length)else lens fl k:=by
 unfold lens putF;by_cases e:k=s
 ·simp[e]
 ·simp[e]
theorem tot_put (fl:Nat→Option FL) {s:Nat} (hs:s<8) (x:Option FL):tot (putF fl s x)+lens fl s=tot fl+(match x with | none=>0 | some f=>f.segs.length):=by
 unfold tot;simp only[lens_put];match s,hs with
 | 0,_=>simp;omega
 | 1,_=>simp;omega
 | 2,_=>simp;omega
 | 3,_=>simp;omega
 | 4,_=>simp;omega
 | 5,_=>simp;omega
 | 6,_=>simp;omega
 | 7,_=>simp;omega
theorem lens_le (fl:Nat→Option FL) {s:Nat} (hs:s<8):lens fl s≤tot fl:=by
 unfold tot;match s,hs with
 | 0,_=>omega
 | 1,_=>omega
 | 2,_=>omega
 | 3,_=>omega
 | 4,_=>omega
 | 5,_=>omega
 | 6,_=>omega
 | 7,_=>omega
theorem mem_delL {l:List Nat} {s x:Nat}:x∈delL l s↔x∈l∧x≠s:=by simp[delL]
theorem insK_perm (k:KY): ∀ ks:List KY,(insK k ks).Perm (k::ks)
 | []=> .refl _
 | x::r=>by
  unfold insK;split
  ·exact .refl _
  ·exact((insK_perm k r).cons x).trans (.swap _ _ _)
theorem all_drop {q:FQ} (h:q.ok) {s:Nat} (hs:s∈q.fresh++q.old):(delL q.fresh s++delL q.old s++q.waits.map (·.2)).Nodup∧ ∀ x,x∈delL q.fresh s++delL q.old s++q.waits.map (·.2)↔x∈q.all∧x≠s:=by
 have hnd:=h.nd;simp only[List.nodup_append,List.mem_append,mem_delL]at hnd hs ⊢;obtain⟨⟨a1,a2,a3⟩,a4,a5⟩:=hnd;refine⟨⟨⟨a1.filter _,a2.filter _, ?_⟩,a4, ?_⟩,fun x=> ?_⟩
 ·rintro a ⟨ha,_⟩ b ⟨hb,_⟩
  exact a3 a ha b hb
 ·rintro a (⟨ha,_⟩ | ⟨ha,_⟩) b hb
  ·exact a5 a (.inl ha) b hb
  ·exact a5 a (.inr ha) b hb
 ·unfold FQ.all
  simp only[List.mem_append];constructor
  ·rintro((⟨h1,h2⟩ | ⟨h1,h2⟩) | h1)
   ·exact⟨.inl (.inl h1),h2⟩
   ·exact⟨.inl (.inr h1),h2⟩
   ·exact⟨.inr h1,fun e=>a5 s hs x h1 e.symm⟩
  ·rintro⟨(h1 | h1) | h1,h2⟩
   ·exact .inl (.inl ⟨h1,h2⟩)
   ·exact .inl (.inr ⟨h1,h2⟩)
   ·exact .inr h1
theorem all_move {q:FQ} (h:q.ok) {s:Nat} (hs:s∈q.fresh++q.old):(delL q.fresh s++(delL q.old s++[s])++q.waits.map (·.2)).Nodup∧ ∀ x,x∈delL q.fresh s++(delL q.old s++[s])++q.waits.map (·.2)↔x∈q.all:=by
 obtain⟨d1,d2⟩:=all_drop h hs;have hq:(delL q.fresh s++(delL q.old s++[s])++q.waits.map (·.2)).Perm (s::(delL q.fresh s++delL q.old s++q.waits.map (·.2))):=by
  rw[show delL q.fresh s++(delL q.old s++[s])++q.waits.map (·.2)=(delL q.fresh s++delL q.old s)++s::q.waits.map (·.2)from by simp];exact List.perm_middle
 have hm:s∈q.all:=by unfold FQ.all;exact List.mem_append_left _ hs
 refine⟨hq.nodup_iff.2 (List.nodup_cons.2 ⟨fun h=>((d2 s).1 h).2 rfl,d1⟩),fun x=> ?_⟩;rw[hq.mem_iff,List.mem_cons,d2 x];constructor
 ·rintro(rfl | h)
  ·exact hm
  ·exact h.1
 ·intro h
  by_cases e:x=s
  ·exact .inl e
  ·exact .inr ⟨h,e⟩
theorem all_wait {q:FQ} (h:q.ok) {s:Nat} (hs:s∈q.fresh++q.old) (t:Nat):(delL q.fresh s++delL q.old s++(insK (t,s) q.waits).map (·.2)).Nodup∧ ∀ x,x∈delL q.fresh s++delL q.old s++(insK (t,s) q.waits).map (·.2)↔x∈q.all:=by
 have hp:(delL q.fresh s++delL q.old s++(insK (t,s) q.waits).map (·.2)).Perm (delL q.fresh s++delL q.old s++(s::q.waits.map (·.2))):=List.Perm.append_left _ ((insK_perm (t,s) q.waits).map _);obtain⟨d1,d2⟩:=all_drop h hs;have hq:(delL q.fresh s++delL q.old s++(s::q.waits.map (·.2))).Perm (s::(delL q.fresh s++delL q.old s++q.waits.map (·.2))):=List.perm_middle;have hm:s∈q.all:=by unfold FQ.all;exact List.mem_append_left _ hs
 refine⟨(hp.trans hq).nodup_iff.2 (List.nodup_cons.2 ⟨fun h=>((d2 s).1 h).2 rfl,d1⟩),fun x=> ?_⟩;rw[(hp.trans hq).mem_iff,List.mem_cons,d2 x];constructor
 ·rintro(rfl | h)
  ·exact hm
  ·exact h.1
 ·intro h
  by_cases e:x=s
  ·exact .inl e
  ·exact .inr ⟨h,e⟩
end
section
open Go.RowKit Go.Lib
def stepD (q:FQ) (now:Nat) (rt:Nat→Nat):FQ ⊕ (Option SG×FQ):=match(lall q.fresh q.old).head? with
 | none=> .inr (none,q)
 | some (s,fr)=>match q.fl s with
  | none=> .inr (none,q)
  | some f=>
   if f.credit≤0 then .inl { q with fl:=putF q.fl s (some { f with credit:=f.credit+q.c.quantum }),fresh:=delL q.fresh s,old:=delL q.old s++[s] }
   else match f.segs with
    | []=>if(fr&&(lall q.fresh q.old).any (fun x=> !x.2))=true then .inl { q with fresh:=delL q.fresh s,old:=delL q.old s++[s] }
     else .inl { q with fl:=putF q.fl s (some { f with since:=now }),fresh:=delL q.fresh s,old:=delL q.old s }
    | x::r=>if now<timeF f then .inl { q with fresh:=delL q.fresh s,old:=delL q.old s,waits:=insK (timeF f,s) q.waits }
     else .inr (some x,sendQ q s f x r now (rt s))
def deqN (now:Nat) (rt:Nat→Nat):Nat→FQ→Option (Option SG×FQ)
 | 0,_=>none
 | k+1,q=>match stepD q now rt with
  | .inl q'=>deqN now rt k q'
  | .inr r=>some r
theorem deqN_inl {now:Nat} {rt:Nat→Nat} {k:Nat} {q q2:FQ} {R:Option SG×FQ} (hs:stepD q now rt= .inl q2) (h:deqN now rt (k+1) q=some R): ∃ k',k'<k∧deqN now rt (k'+1) q2=some R:=by
 unfold deqN at h;rw[hs]at h;simp only at h
 cases k with
 | zero=>cases h
 | succ k'=>exact⟨k',Nat.lt_succ_self _,h⟩
theorem deqN_inr {now:Nat} {rt:Nat→Nat} {k:Nat} {q:FQ} {r R:Option SG×FQ} (hs:stepD q now rt= .inr r) (h:deqN now rt (k+1) q=some R):R=r:=by
 unfold deqN at h;rw[hs]at h;simp only at h
 cases h
 rfl
theorem head_mem {q:FQ} {s:Nat} {fr:Bool} (h:(lall q.fresh q.old).head?=some (s,fr)):s∈q.fresh++q.old:=by
 have:=lall_mem h;simp only[lall,List.mem_append,List.mem_map,Prod.mk.injEq]at this ⊢;rcases this with⟨y,hy,rfl,_⟩ | ⟨y,hy,rfl,_⟩
 ·exact .inl hy
 ·exact .inr hy
theorem FQ.ok.apart {q:FQ} (h:q.ok) {s:Nat} (hs:s∈q.fresh++q.old):s ∉ q.waits.map (·.2):=by
 have hnd:=h.nd;rw[List.nodup_append]at hnd;exact fun hm=>hnd.2.2 s hs s hm rfl
theorem inv_flow {q:FQ} (h:q.inv) {s:Nat} (hs:s∈q.fresh++q.old) {f f':FL} (hf:q.fl s=some f) (hok:f'.ok) (hsg:f'.segs=f.segs):({ q with fl:=putF q.fl s (some f') }:FQ).inv:=by
 have hs8:=h.ok.lt s (List.mem_append_left _ hs);refine⟨⟨h.ok.nd,h.ok.lt⟩,h.cf,fun k g hg=> ?_,fun k hk=> ?_, ?_,h.lim,fun k hk=> ?_,fun k g hk8 hg hne=> ?_⟩
 ·by_cases e:k=s
  ·subst e
   have hg':putF q.fl k (some f') k=some g:=hg;rw[putF_at]at hg';cases hg'
   exact hok
  ·exact h.fl k g (by rw[←hg];exact(putF_ne _ _ e).symm)
 ·by_cases e:k=s
  ·exact⟨f',by rw[e];exact putF_at _ _ _⟩
  ·obtain⟨g,hg⟩:=h.there k hk
   exact⟨g,by rw[←hg];exact putF_ne _ _ e⟩
 ·have:=tot_put q.fl hs8 (some f')
  have ht:=h.tot;have hl:lens q.fl s=f.segs.length:=by unfold lens;rw[hf]
  simp only[hsg]at this;show q.n=tot (putF q.fl s (some f'))
  omega
 ·obtain⟨g,hg,h2,h3⟩:=h.wt k hk
  have e:k.2≠s:=fun e=>h.ok.apart hs (by rw[←e];exact List.mem_map_of_mem hk)
  exact⟨g,by rw[←hg];exact putF_ne _ _ e,h2,h3⟩
 ·by_cases e:k=s
  ·subst e
   exact List.mem_append_left _ hs
  ·exact h.seg k g hk8 (by rw[←hg];exact(putF_ne _ _ e).symm) hne
theorem inv_move {q:FQ} (h:q.inv) {s:Nat} (hs:s∈q.fresh++q.old):({ q with fresh:=delL q.fresh s,old:=delL q.old s++[s] }:FQ).inv:=by
 obtain⟨m1,m2⟩:=all_move h.ok hs;exact⟨⟨m1,fun x hx=>h.ok.lt x ((m2 x).1 hx)⟩,h.cf,h.fl,fun x hx=>h.there x ((m2 x).1 hx),h.tot,h.lim,h.wt,fun k g h8 hg hne=>(m2 k).2 (h.seg k g h8 hg hne)⟩
theorem inv_drop {q:FQ} (h:q.inv) {s:Nat} (hs:s∈q.fresh++q.old) {f:FL} (hf:q.fl s=some f) (he:f.segs=[]):({ q with fresh:=delL q.fresh s,old:=delL q.old s }:FQ).inv:=by
 obtain⟨m1,m2⟩:=all_drop h.ok hs;refine⟨⟨m1,fun x hx=>h.ok.lt x ((m2 x).1 hx).1⟩,h.cf,h.fl,fun x hx=>h.there x ((m2 x).1 hx).1,h.tot,h.lim,h.wt,fun k g h8 hg hne=>(m2 k).2 ⟨h.seg k g h8 hg hne, ?_⟩⟩;rintro rfl;rw[hf]at hg;cases hg
 exact hne he
theorem inv_wait {q:FQ} (h:q.inv) {s:Nat} (hs:s∈q.fresh++q.old) {f:FL} (hf:q.fl s=some f) (he:f.segs≠[]):({ q with fresh:=delL q.fresh s,old:=delL q.old s,waits:=insK (timeF f,s) q.waits }:FQ).inv:=by
 obtain⟨m1,m2⟩:=all_wait h.ok hs (timeF f);refine⟨⟨m1,fun x hx=>h.ok.lt x ((m2 x).1 hx)⟩,h.cf,h.fl,fun x hx=>h.there x ((m2 x).1 hx),h.tot,h.lim,fun k hk=> ?_,fun k g h8 hg hne=>(m2 k).2 (h.seg k g h8 hg hne)⟩;rcases insK_mem.1 hk with rfl | hk
 ·exact⟨f,hf,he,rfl⟩
 ·exact h.wt k hk
theorem satAdd_lt' (a b:Nat):satAdd a b<18446744073709551616:=by unfold satAdd;split<;>omega
theorem inv_send {q:FQ} (h:q.inv) {s:Nat} (hs:s∈q.fresh++q.old) {f:FL} (hf:q.fl s=some f) {x:SG} {r:List SG} (he:f.segs=x::r) (hc: ¬ f.credit≤0) (now rate:Nat):(sendQ q s f x r now rate).inv:=by
 have hs8:=h.ok.lt s (List.mem_append_left _ hs);have hfo:=h.fl s f hf;have hxo:=hfo.sg x (by rw[he];simp);have hl:lens q.fl s=r.length+1:=by unfold lens;rw[hf];simp[he]
 have hle:=lens_le q.fl hs8;have ht:=h.tot;have htp:=tot_put q.fl hs8 (some ⟨f.credit-x.len,satAdd now (delayOf x.len (les rate q.c.maxRate)),f.since,r⟩);simp only at htp
 refine⟨⟨h.ok.nd,h.ok.lt⟩,h.cf,fun k g hg=> ?_,fun k hk=> ?_, ?_, ?_,fun k hk=> ?_,fun k g hk8 hg hne=> ?_⟩
 ·by_cases e:k=s
  ·subst e
   rw[show(sendQ q k f x r now rate).fl k=_ from putF_at _ _ _]at hg;cases hg
   have:=hfo.c2;have:=hxo.l2;exact⟨by show-65536≤f.credit-(x.len:Int);omega,by show f.credit-(x.len:Int)≤65536;omega,satAdd_lt' _ _,hfo.si,fun y hy=>hfo.sg y (by rw[he];exact List.mem_cons_of_mem _ hy)⟩
  ·exact h.fl k g (by rw[←hg];exact(putF_ne _ _ e).symm)
 ·by_cases e:k=s
  ·exact⟨_,by rw[e];exact putF_at _ _ _⟩
  ·obtain⟨g,hg⟩:=h.there k hk
   exact⟨g,by rw[←hg];exact putF_ne _ _ e⟩
 ·show q.n-1=tot (putF q.fl s _)
  omega
 ·have:=h.lim
  show q.n-1≤512
  omega
 ·obtain⟨g,hg,h2,h3⟩:=h.wt k hk
  have e:k.2≠s:=fun e=>h.ok.apart hs (by rw[←e];exact List.mem_map_of_mem hk)
  exact⟨g,by rw[←hg];exact putF_ne _ _ e,h2,h3⟩
 ·by_cases e:k=s
  ·subst e
   exact List.mem_append_left _ hs
  ·exact h.seg k g hk8 (by rw[←hg];exact(putF_ne _ _ e).symm) hne
theorem dueI_inv {q:FQ} (h:q.inv) (i:Nat):(dueI q i).inv:=by
 have e:(dueI q i).all=q.all:=by
  show q.fresh++(q.old++(q.waits.take i).map (·.2))++(q.waits.drop i).map (·.2)=q.fresh++q.old++q.waits.map (·.2)
  simp only[List.append_assoc,←List.map_append,List.take_append_drop]
 exact⟨dueI_ok h.ok i,h.cf,h.fl,fun s hs=>h.there s (by rw[←e];exact hs),h.tot,h.lim,fun k hk=>h.wt k (List.mem_of_mem_drop hk),fun s f h8 hf hne=>by rw[e];exact h.seg s f h8 hf hne⟩
theorem FL.ok.more {f:FL} (h:f.ok) {n:Nat} (hn:n≤65536) (hc:f.credit≤0):({ f with credit:=f.credit+n }:FL).ok:=⟨by have:=h.c1;show-65536≤f.credit+(n:Int);omega,by show f.credit+(n:Int)≤65536;omega,h.nx,h.si,h.sg⟩
theorem FL.ok.at_ {f:FL} (h:f.ok) {n:Nat} (hn:n<18446744073709551616):({ f with since:=n }:FL).ok:=⟨h.c1,h.c2,h.nx,hn,h.sg⟩
end
end Go.Proofs.YtojgokiobdpclaaGreat
