import Derived.Test.YtojgokiobdpclaaGreatP22
import Derived.Laws.StructEq
namespace Go.Proofs.YtojgokiobdpclaaGreat
set_option linter.unusedVariables false
set_option linter.unusedSimpArgs false
set_option maxRecDepth 8000
set_option maxHeartbeats 8000000
section
open Go.RowKit Go.Lib
def EvenTo (ns:List ND) (j:Nat) (L R:TT) (i:Nat) (ms:List ND):Prop:=
 Good ms∧ms.length=ns.length∧(∃ t,Rep ms (i:Nat) t∧t.keys=L.keys++((ns.getD j default).ka,(ns.getD j default).kb)::R.keys∧t.idx=L.idx++j::R.idx)∧ ∀ k,k ∉ L.idx++j::R.idx→ms.getD k default=ns.getD k default
theorem lean_rep {ns:List ND} {j:Nat} {L R:TT} (hL:Rep ns (ns.getD j default).l L) (hR:Rep ns (ns.getD j default).r R) (sL:L.hgt≤500) (sR:R.hgt≤500):leanF ns j=(L.hgt:Int)-(R.hgt:Int):=by
 unfold leanF;rw[hL.hi,hR.hi];unfold wrap64;omega
theorem hgt_pos {t:TT} (h:0<t.hgt): ∃ i a b l r,t= .node i a b l r:=by
 cases t with
 | nil=>simp[TT.hgt]at h
 | node i a b l r=>exact⟨i,a,b,l,r,rfl⟩
theorem rbeven_any (b:Nat) (pa:Nat) (v:Value) (top size:Int) (ns:List ND) (j:Nat) (L R:TT) (hj:j<ns.length) (hG:Good ns) (hL:Rep ns (ns.getD j default).l L) (hR:Rep ns (ns.getD j default).r R) (nd:(L.idx++j::R.idx).Nodup) (sz:(L.idx++j::R.idx).length≤300) (g:Nat→Nat) (T:Nat) (w:World) (hT:Tidy w g) (h:NsAt w g T b pa v top size ns):
  Calls Tryz.prog 154 #[.pointer (some ⟨b,0,none⟩), .int .i64 j] w fun e w'=> ∃(i:Nat) (ms:List ND),e= .returned (.int .i64 i)∧Chg w w' g g T (T+2)∧NsAt w' g T b pa v top size ms∧EvenTo ns j L R i ms:=by
 have nd0:=nd;simp only[List.nodup_append,List.nodup_cons,List.mem_cons]at nd;obtain⟨dL,⟨njR,dR⟩,dLa⟩:=nd;have njL:j ∉ L.idx:=fun h=>dLa j h j (.inl rfl) rfl
 have hLs:=hgt_le L;have hRs:=hgt_le R;simp only[List.length_append,List.length_cons]at sz;obtain⟨m1,m2,m3⟩:=mend_rep hj hL hR njL njR (by omega) (by omega);have hml:=mendF_len ns j;have fL:Rep (mendF ns j) (ns.getD j default).l L:=hL.frame (fun k hk=>m2 k (by rintro rfl;exact njL hk)) hml;have fR:Rep (mendF ns j) (ns.getD j default).r R:=hR.frame (fun k hk=>m2 k (by rintro rfl;exact njR hk)) hml;have hlean:leanF (mendF ns j) j=(L.hgt:Int)-(R.hgt:Int):=lean_rep (by rw[m3];exact fL) (by rw[m3];exact fR) (by omega) (by omega);have oth: ∀ k,k ∉ L.idx++j::R.idx→k≠j:=fun k hk e=>hk (by simp[e])
 by_cases c1:1<(L.hgt:Int)-(R.hgt:Int)
 ·obtain⟨l,la,lb,PL,PR,rfl⟩:=hgt_pos (t:=L) (by omega)
  obtain⟨xj,x2,x3,x4,x5,x6,x7⟩:=fL;have hlj:j≠l:=fun e=>njL (by simp[TT.idx,e])
  have hjc:((mendF ns j).getD j default).l=(l:Nat):=by rw[m3];exact xj
  have ll:l<ns.length:=by omega
  simp only[TT.hgt]at hLs c1 hlean;simp only[TT.idx,List.length_append,List.length_cons]at hLs sz;have hln:leanF (mendF ns j) l=(PL.hgt:Int)-(PR.hgt:Int):=lean_rep x6 x7 (by omega) (by omega);have zO:Rep (mendF ns j) ((mendF ns j).getD j default).r R:=by rw[m3];exact fR
  have kj:((mendF ns j).getD j default).ka=(ns.getD j default).ka∧((mendF ns j).getD j default).kb=(ns.getD j default).kb:=by rw[m3];exact⟨rfl,rfl⟩
  simp only[TT.idx]at nd0 oth;by_cases c3:(PL.hgt:Int)-(PR.hgt:Int)<0
  ·obtain⟨m,ma,mb,ML,MR,rfl⟩:=hgt_pos (t:=PR) (by omega)
   obtain⟨ym,y2,y3,y4,y5,y6,y7⟩:=x7;simp only[TT.hgt]at hLs c1 c3 hln;simp only[TT.idx,List.length_append,List.length_cons]at hLs sz nd0 oth;have hcnt:=List.nodup_iff_count.1 nd0;have hml':l≠m:=fun e=>by have:=hcnt l;simp only[List.count_append,List.count_cons,e,beq_self_eq_true,if_true]at this;omega
   have hmj':j≠m:=fun e=>by have:=hcnt j;simp only[List.count_append,List.count_cons,e,beq_self_eq_true,if_true]at this;omega
   obtain⟨t1a,t1b⟩:=turnL_rep (ns:=mendF ns j) (j:=l) (l:=m) (X:=MR) (Y:=ML) (Z:=PL) (by omega) (by omega) ym y7 y6 x6 (List.nodup_iff_count.2 fun a=>by have:=hcnt a;simp only[List.count_append,List.count_cons]at this ⊢;omega) (by omega) (by omega) (by omega);have lt1:(turnLF (mendF ns j) l m).length=ns.length:=by rw[turnL_len,hml]
   have le2:(evl2 ns j l m).length=ns.length:=by unfold evl2;rw[List.length_set,lt1]
   have e2: ∀ k,k≠j→(evl2 ns j l m).getD k default=(turnLF (mendF ns j) l m).getD k default:=fun k hk=>by unfold evl2;rw[getD_set_ne _ (Ne.symm hk)]
   have ej:(evl2 ns j l m).getD j default={ (mendF ns j).getD j default with l:=(m:Nat) }:=by unfold evl2;rw[getD_set_eq _ (by omega),t1b j hlj hmj']
   have r2:=t1a.frame (ms:=evl2 ns j l m) (fun k hk=>e2 k (fun e=>by subst e;have h1:=hcnt k;have h2:=List.count_pos_iff.2 hk;simp only[TT.idx,List.count_append,List.count_cons,beq_self_eq_true,if_true]at h1 h2;omega)) (by rw[le2,lt1]);obtain⟨_,z2,z3,z4,z5,z6,z7⟩:=r2;have zO2:Rep (evl2 ns j l m) ((evl2 ns j l m).getD j default).r R:=by
    rw[ej];refine zO.frame (fun k hk=> ?_) (by rw[le2,hml]);have h2:=List.count_pos_iff.2 hk;have n1:k≠j:=fun e=>by subst e;have h1:=hcnt k;simp only[List.count_append,List.count_cons,beq_self_eq_true,if_true]at h1;omega
    have n2:k≠l:=fun e=>by subst e;have h1:=hcnt k;simp only[List.count_append,List.count_cons,beq_self_eq_true,if_true]at h1;omega
    have n3:k≠m:=fun e=>by subst e;have h1:=hcnt k;simp only[List.count_append,List.count_cons,beq_self_eq_true,if_true]at h1;omega
    rw[e2 k n1,t1b k n2 n3]
   obtain⟨t2a,t2b⟩:=turnR_rep (ns:=evl2 ns j l m) (j:=j) (l:=m) (X:=_) (Y:=MR) (Z:=R) (by omega) (by omega) (by rw[ej]) z6 z7 zO2 (List.nodup_iff_count.2 fun a=>by have:=hcnt a;simp only[TT.idx,List.count_append,List.count_cons]at this ⊢;omega) (by(try simp only[TT.hgt]);omega) (by(try simp only[TT.hgt]);omega) (by omega);have g2:Good (evl2 ns j l m):=((hG.mend hj).turnL (by omega) (by omega)).set j _ (okI_nat (by rw[turnL_len,hml];omega)) (((hG.mend hj).turnL (by omega) (by omega)) j (by rw[turnL_len,hml];omega)).2;refine(rbeven_l2 b pa v top size ns j l m hj hG (by rw[hlean];exact c1) hjc hlj ll (by rw[hln];exact c3) ym hml' hmj' (by omega) g T w hT h).mono fun e w' ⟨q1,q2,q3⟩=>⟨m,_,q1,q2,q3,g2.turnR (by omega) (by omega),by rw[turnR_len,le2],⟨_,t2a, ?_, ?_⟩,fun k hk=> ?_⟩
   ·simp only[TT.keys,ej,z3,z4,kj.1,kj.2,x3,x4,y3,y4]
    simp
   ·simp only[TT.idx]
    simp
   ·simp only[TT.idx,List.mem_append,List.mem_cons,not_or]at hk
    rw[t2b k (by grind) (by grind),e2 k (by grind),t1b k (by grind) (by grind),m2 k (by grind)]
  ·obtain⟨t1a,t1b⟩:=turnR_rep (ns:=mendF ns j) (j:=j) (l:=l) (X:=PL) (Y:=PR) (Z:=R) (by omega) (by omega) hjc x6 x7 zO (by have hcnt:=List.nodup_iff_count.1 nd0;exact List.nodup_iff_count.2 fun a=>by have:=hcnt a;simp only[List.count_append,List.count_cons]at this ⊢;omega) (by omega) (by omega) (by omega)
   refine(rbeven_l1 b pa v top size ns j l hj hG (by rw[hlean];exact c1) hjc hlj ll (by rw[hln];exact c3) g T w hT h).mono fun e w' ⟨q1,q2,q3⟩=>⟨l,_,q1,q2,q3,(hG.mend hj).turnR (by omega) (by omega),by rw[turnR_len,hml],⟨_,t1a, ?_, ?_⟩,fun k hk=> ?_⟩
   ·simp only[TT.keys,kj.1,kj.2,x3,x4]
    simp
   ·simp only[TT.idx]
    simp
   ·simp only[TT.idx,List.mem_append,List.mem_cons,not_or]at hk
    rw[t1b k (by grind) (by grind),m2 k (by grind)]
 ·by_cases c2:(L.hgt:Int)-(R.hgt:Int)< -1
  ·obtain⟨l,la,lb,PL,PR,rfl⟩:=hgt_pos (t:=R) (by omega)
   obtain⟨xj,x2,x3,x4,x5,x6,x7⟩:=fR;have hlj:j≠l:=fun e=>njR (by simp[TT.idx,e])
   have hjc:((mendF ns j).getD j default).r=(l:Nat):=by rw[m3];exact xj
   have ll:l<ns.length:=by omega
   simp only[TT.hgt]at hRs c1 c2 hlean;simp only[TT.idx,List.length_append,List.length_cons]at hRs sz;have hln:leanF (mendF ns j) l=(PL.hgt:Int)-(PR.hgt:Int):=lean_rep x6 x7 (by omega) (by omega);have zO:Rep (mendF ns j) ((mendF ns j).getD j default).l L:=by rw[m3];exact fL
   have kj:((mendF ns j).getD j default).ka=(ns.getD j default).ka∧((mendF ns j).getD j default).kb=(ns.getD j default).kb:=by rw[m3];exact⟨rfl,rfl⟩
   simp only[TT.idx]at nd0 oth;by_cases c3:0<(PL.hgt:Int)-(PR.hgt:Int)
   ·obtain⟨m,ma,mb,ML,MR,rfl⟩:=hgt_pos (t:=PL) (by omega)
    obtain⟨ym,y2,y3,y4,y5,y6,y7⟩:=x6;simp only[TT.hgt]at hRs c1 c3 hln;simp only[TT.idx,List.length_append,List.length_cons]at hRs sz nd0 oth;have hcnt:=List.nodup_iff_count.1 nd0;have hml':l≠m:=fun e=>by have:=hcnt l;simp only[List.count_append,List.count_cons,e,beq_self_eq_true,if_true]at this;omega
    have hmj':j≠m:=fun e=>by have:=hcnt j;simp only[List.count_append,List.count_cons,e,beq_self_eq_true,if_true]at this;omega
    obtain⟨t1a,t1b⟩:=turnR_rep (ns:=mendF ns j) (j:=l) (l:=m) (X:=ML) (Y:=MR) (Z:=PR) (by omega) (by omega) ym y6 y7 x7 (List.nodup_iff_count.2 fun a=>by have:=hcnt a;simp only[List.count_append,List.count_cons]at this ⊢;omega) (by omega) (by omega) (by omega);have lt1:(turnRF (mendF ns j) l m).length=ns.length:=by rw[turnR_len,hml]
    have le2:(evr2 ns j l m).length=ns.length:=by unfold evr2;rw[List.length_set,lt1]
    have e2: ∀ k,k≠j→(evr2 ns j l m).getD k default=(turnRF (mendF ns j) l m).getD k default:=fun k hk=>by unfold evr2;rw[getD_set_ne _ (Ne.symm hk)]
    have ej:(evr2 ns j l m).getD j default={ (mendF ns j).getD j default with r:=(m:Nat) }:=by unfold evr2;rw[getD_set_eq _ (by omega),t1b j hlj hmj']
    have r2:=t1a.frame (ms:=evr2 ns j l m) (fun k hk=>e2 k (fun e=>by subst e;have h1:=hcnt k;have h2:=List.count_pos_iff.2 hk;simp only[TT.idx,List.count_append,List.count_cons,beq_self_eq_true,if_true]at h1 h2;omega)) (by rw[le2,lt1]);obtain⟨_,z2,z3,z4,z5,z6,z7⟩:=r2;have zO2:Rep (evr2 ns j l m) ((evr2 ns j l m).getD j default).l L:=by
     rw[ej];refine zO.frame (fun k hk=> ?_) (by rw[le2,hml]);have h2:=List.count_pos_iff.2 hk;have n1:k≠j:=fun e=>by subst e;have h1:=hcnt k;simp only[List.count_append,List.count_cons,beq_self_eq_true,if_true]at h1;omega
     have n2:k≠l:=fun e=>by subst e;have h1:=hcnt k;simp only[List.count_append,List.count_cons,beq_self_eq_true,if_true]at h1;omega
     have n3:k≠m:=fun e=>by subst e;have h1:=hcnt k;simp only[List.count_append,List.count_cons,beq_self_eq_true,if_true]at h1;omega
     rw[e2 k n1,t1b k n2 n3]
    obtain⟨t2a,t2b⟩:=turnL_rep (ns:=evr2 ns j l m) (j:=j) (l:=m) (X:=_) (Y:=ML) (Z:=L) (by omega) (by omega) (by rw[ej]) z7 z6 zO2 (List.nodup_iff_count.2 fun a=>by have:=hcnt a;simp only[TT.idx,List.count_append,List.count_cons]at this ⊢;omega) (by(try simp only[TT.hgt]);omega) (by(try simp only[TT.hgt]);omega) (by omega);have g2:Good (evr2 ns j l m):=((hG.mend hj).turnR (by omega) (by omega)).set j _ (((hG.mend hj).turnR (by omega) (by omega)) j (by rw[turnR_len,hml];omega)).1 (okI_nat (by rw[turnR_len,hml];omega));refine(rbeven_r2 b pa v top size ns j l m hj hG (by rw[hlean];exact c2) hjc hlj ll (by rw[hln];exact c3) ym hml' hmj' (by omega) g T w hT h).mono fun e w' ⟨q1,q2,q3⟩=>⟨m,_,q1,q2,q3,g2.turnL (by omega) (by omega),by rw[turnL_len,le2],⟨_,t2a, ?_, ?_⟩,fun k hk=> ?_⟩
    ·simp only[TT.keys,ej,z3,z4,kj.1,kj.2,x3,x4,y3,y4]
     simp
    ·simp only[TT.idx]
     simp
    ·simp only[TT.idx,List.mem_append,List.mem_cons,not_or]at hk
     rw[t2b k (by grind) (by grind),e2 k (by grind),t1b k (by grind) (by grind),m2 k (by grind)]
   ·obtain⟨t1a,t1b⟩:=turnL_rep (ns:=mendF ns j) (j:=j) (l:=l) (X:=PR) (Y:=PL) (Z:=L) (by omega) (by omega) hjc x7 x6 zO (by have hcnt:=List.nodup_iff_count.1 nd0;exact List.nodup_iff_count.2 fun a=>by have:=hcnt a;simp only[List.count_append,List.count_cons]at this ⊢;omega) (by omega) (by omega) (by omega)
    refine(rbeven_r1 b pa v top size ns j l hj hG (by rw[hlean];exact c2) hjc hlj ll (by rw[hln];exact c3) g T w hT h).mono fun e w' ⟨q1,q2,q3⟩=>⟨l,_,q1,q2,q3,(hG.mend hj).turnL (by omega) (by omega),by rw[turnL_len,hml],⟨_,t1a, ?_, ?_⟩,fun k hk=> ?_⟩
    ·simp only[TT.keys,kj.1,kj.2,x3,x4]
     simp
    ·simp only[TT.idx]
     simp
    ·simp only[TT.idx,List.mem_append,List.mem_cons,not_or]at hk
     rw[t1b k (by grind) (by grind),m2 k (by grind)]
  ·exact(rbeven_flat b pa v top size ns j hj hG (by rw[hlean];exact c1) (by rw[hlean];exact c2) g T w hT h).mono fun e w' ⟨q1,q2,q3⟩=>⟨j,mendF ns j,q1,q2,q3,hG.mend hj,hml,⟨_,m1,rfl,rfl⟩,fun k hk=>m2 k (oth k hk)⟩
end
section
open Go.RowKit Go.Lib
def wayT:TT→Nat×Nat→List Nat
 | .nil,_=>[]
 | .node i a b l r,k=>i::(if cmpK k (a,b)<0 then wayT l k else if 0<cmpK k (a,b)then wayT r k else[])
theorem wayT_len (t:TT) (k:Nat×Nat):(wayT t k).length≤t.idx.length:=by
 induction t with
 | nil=>simp[wayT]
 | node i a b l r ihl ihr=>
  unfold wayT;simp only[List.length_cons,TT.idx,List.length_append];split
  ·omega
  ·split
   ·omega
   ·simp only[List.length_nil];omega
def slen:Value→Nat
 | .slice _ n _=>n
 | _=>0
theorem rbway_any (b:Nat) (pa:Nat) (v:Value) (top:Nat) (size:Int) (ns:List ND) (t:TT) (k:Nat×Nat) (htop:top≤100000) (hR:Rep ns ((top:Int)-1) t) (sz:t.idx.length≤300) (g:Nat→Nat) (T:Nat) (w:World) (h:NsAt w g T b pa v top size ns):
  Calls Tryz.prog 115 #[.pointer (some ⟨b,0,none⟩),kyv k] w fun e w'=> ∃ v',e= .returned v'∧w'.ownsRow w.heap.size 3 1 v' (wayT t k).length (ints (wayT t k))∧Below w.heap.size w w':=by
 obtain⟨i0,HI⟩:=infoI;have CR:Hid (∀ w',Below w.heap.size w w'→Calls Tryz.prog 145 #[.pointer (some ⟨b,0,none⟩)] w' fun e w''=>e= .returned (.int .i64 ((top:Int)-1))∧w'=w''):=zH fun w' hB=>rbroot_any b pa v top size ns (by omega) (by omega) g T w' (h.below hB)
 have HH:=zH h;obtain⟨s,es⟩: ∃ s,w.heap.size=s:=⟨_,rfl⟩;have hblt:b<s:=by rw[←es];exact h.lt.1
 have hwl:=wayT_len t k;obtain⟨k1,k2⟩:=k;unfold kyv;clear h;go_enter Tryz.func115,Tryz.ntmps115
 go_wp2;go_step3
 go_wp2_with fail
 refine(CR.out _ ((Below.refl _ w).alloc (Nat.le_refl _) _)).mono ?_;rintro e w1 ⟨rfl,rfl⟩;go_wp2_with fail
 go_step3
 go_wp2_with fail
 refine wp_named (fun W=>At W s 169 #[.int .u64 k1, .int .u64 k2]∧Below s w W∧s<W.heap.size) ⟨by rw[←es];exact At.made w _ _,by rw[←es];exact(Below.refl _ w).alloc (Nat.le_refl _) _,by simp[es]⟩ ?_;rintro w1 ⟨A0,B0,hsz⟩;go_loopw [5,6] (fun v5 v6 wr=> ∃(pre:List Nat) (i:Int) (u:TT),v6= .int .i64 i∧Rep ns i u∧pre++wayT u (k1,k2)=wayT t (k1,k2)∧wr.ownsRow s 3 1 v5 pre.length (ints pre)∧At wr s 169 #[.int .u64 k1, .int .u64 k2]∧Below s w wr∧s<wr.heap.size) (fun v5 _ _=>(wayT t (k1,k2)).length-slen v5)
 case atStart=>exact⟨[],_,t,rfl,hR,rfl,World.ownsRow_nil _ _ _ _,A0,B0,hsz⟩
 case round=>
  obtain⟨pre,i,u,rfl,hRu,hway,own,AK,hB,hszr⟩:=hrel;obtain⟨a5,c5,rfl,m5⟩:=own_form own;cases u with
  | nil=>
   obtain rfl:i= -1:=hRu;simp only[wayT,List.append_nil]at hway;have HO:=zH own;have HB:=zH hB;clear own hB AK;go_wp2;(try rw[Exit.noGoto_ret])
   go_ret
   rw[←hway];exact⟨_,rfl,by rw[es];exact HO.out,by rw[es];exact HB.out⟩
  | node j ja jb l r=>
   obtain⟨rfl,hj,e1,e2,e3,hl,hr⟩:=hRu;have hN:=HH.out.below (w':=wr) (by rw[es];exact hB);have hplen:pre.length<(wayT t (k1,k2)).length:=by rw[←hway];simp[wayT]
   have HO:=zH own;have HB:=zH hB;have HA:=zH AK;have HNN:=zH hN;have hne:((j:Int)== -1)=false:=by rw[beq_eq_false_iff_ne];omega
   clear own hB AK hN;go_wp2_with (at_builtin;refine wpList_append_lies _ rfl _ _ 39 rfl s 3 i0 (.int .i64 0) 1 8 Tryz.underlying39 HI.out.1 HI.out.2.1 HI.out.2.2.1 HI.out.2.2.2 rfl (by decide) _ pre.length (ints pre) rfl (HO.out.alloc _) ⟨wr.heap.size,0,none⟩ 1 1 [.int .i64 (j:Nat)] rfl rfl (cell_one_new _ _ _) ?c1 (by decide) ?c2 ?c3 ?c4 _ rfl ?_)
   case c1=>simp[Value.oneCell']
   case c2=>unfold maxLen;omega
   case c3=>omega
   case c4=>first | omega | (simp;omega)
   intro g2 cap2 w2 ho hg hat hlt;have B2:Below s w w2:=(HB.out.alloc (by omega) _).grown hg (by simp;omega) (fun q hq=>(HO.out.lt q hq).1);have A2:=(HA.out.kept (World.grownBy_alloc wr (.cells #[.int .i64 (j:Nat)] 3) none) (by simp)).kept hg (fun e=>by
    have h1:=HA.out;rcases HO.out.2 with⟨h2,_⟩ | ⟨q,cq,cur,h2,_,h3,_⟩
    ·simp only[Value.slice.injEq]at h2
     obtain⟨rfl,_⟩:=h2;cases e
    ·simp only[Value.slice.injEq]at h2
     obtain⟨rfl,_⟩:=h2;simp[Value.ownBlock]at e
     subst e;unfold At at h1;rw[h1]at h3;cases h3)
   have hsz2:s<w2.heap.size:=A2.lt;have N2:=HNN.out;have N2':=HH.out.below (w':=w2) (by rw[es];exact B2);obtain⟨bb,off,cap,rfl⟩:=ns_form N2' (by omega);obtain⟨q1,qO,qS,qne,qc,qf⟩:=ns_at N2';have hbb:bb<w2.heap.size:=qS.tag_.2;have r0:=qc j _ (getD_some hj) 0 (by omega);have r1:=qc j _ (getD_some hj) 1 (by omega);simp only[ndl,List.getElem?_cons_zero,List.getElem?_cons_succ,Nat.add_zero]at r0 r1;rw[e1]at r0;rw[e2]at r1;have y0:=A2.cell 0;have y1:=A2.cell 1;simp only[List.getElem?_toArray,List.getElem?_cons_zero,List.getElem?_cons_succ]at y0 y1;have CC:Hid (∀ w',Calls Tryz.prog 153 #[.agg #[.int .u64 k1, .int .u64 k2], .agg #[.int .u64 ja, .int .u64 jb]] w' fun e w''=>e= .returned (.int .i64 (cmpK (k1,k2) (ja,jb)))∧Below w'.heap.size w' w''):=zH fun w'=>cmpkey_any (k1,k2) (ja,jb) w'
   obtain⟨c,ec⟩: ∃ c,cmpK (k1,k2) (ja,jb)=c:=⟨_,rfl⟩;rw[ec]at CC;have HO2:=zH ho;have HB2:=zH B2;have HA2:=zH A2;have HN2:=zH N2';clear ho hg hat B2 A2 N2 N2' qO qS qc qf;go_wp2_with fail
   refine wp_region_held_drew (S:=fun wq=>wq.cell? ⟨b,1,none⟩=some (.slice (some ⟨bb,off,none⟩) ns.length cap)∧wq.cell? ⟨bb,off+j*5,none⟩=some (.int .u64 ja)∧wq.cell? ⟨bb,off+j*5+1,none⟩=some (.int .u64 jb)∧wq.cell? ⟨s,0,none⟩=some (.int .u64 k1)∧wq.cell? ⟨s,1,none⟩=some (.int .u64 k2)) (by kernel_rfl) ⟨q1,r0,r1,y0,y1⟩ (fun hHeld=> ?_);refine zt 0 ?_;refine zt 1 ?_;refine zt 2 ?_;refine zt 3 ?_;refine zt 4 ?_;refine zt 5 ?_;refine zt 6 ?_;refine zt 7 ?_;refine zt 8 ?_;refine zc 9 (fun K hK=> ?_);go_simp;refine(CC.out _).mono ?_;rintro e4 w4 ⟨rfl,hB4⟩;refine hK.out _ _ ?_ (fun hHeld=> ?_);focus exact⟨(hB4.cell (p:=⟨b,1,none⟩) (by show b<w2.heap.size;omega)).trans q1,(hB4.cell (p:=⟨bb,off+j*5,none⟩) hbb).trans r0,(hB4.cell (p:=⟨bb,off+j*5+1,none⟩) hbb).trans r1,(hB4.cell (p:=⟨s,0,none⟩) hsz2).trans y0,(hB4.cell (p:=⟨s,1,none⟩) hsz2).trans y1⟩
   clear hK K;refine zl ?_;refine zt 10 ?_;refine dnZ ?_;have hB4':Below s w w4:=HB2.out.drew.trans (hB4.mono (by show s≤w2.heap.size;omega));have N4:=HH.out.below (w':=w4) (by rw[es];exact hB4');have A4:=HA2.out.drew.below hB4 hsz2;have O4:=own_below (w:=w2.drew) HO2.out hB4;obtain⟨p1,pO,pS,pne,pc,pf⟩:=ns_at N4;have r2:=pc j _ (getD_some hj) 2 (by omega);have r3:=pc j _ (getD_some hj) 3 (by omega);simp only[ndl,List.getElem?_cons_zero,List.getElem?_cons_succ]at r2 r3;obtain⟨xl,exl⟩: ∃ xl,(ns.getD j default).l=xl:=⟨_,rfl⟩;obtain⟨xr,exr⟩: ∃ xr,(ns.getD j default).r=xr:=⟨_,rfl⟩;rw[exl]at r2 hl;rw[exr]at r3 hr;have HB4:=zH hB4';have HA4:=zH A4;have HO4:=zH O4;have hs4:=A4.lt;have htk:ints pre++[.int .i64 (j:Nat)]=ints (pre++[j]):=by simp[ints]
   clear hHeld hB4 hB4' N4 A4 O4 pO pS pc pf q1 r0 r1 y0 y1;have hw2:wayT (.node j ja jb l r) (k1,k2)=j::(if c<0 then wayT l (k1,k2)else if 0<c then wayT r (k1,k2)else[]):=by rw[wayT,ec]
   rw[hw2]at hway;clear hw2 ec;by_cases cl:c<0
   ·rw[if_pos cl]at hway
    go_wp2_with fail
    go_roundw
    case rel=>exact⟨pre++[j],xl,l,rfl,hl,by rw[←hway];simp,by rw[List.length_append,←htk];exact HO4.out,HA4.out,HB4.out,hs4⟩
    case measure=>simp[slen];omega
   ·rw[if_neg cl]at hway
    by_cases cr:0<c
    ·rw[if_pos cr]at hway
     go_wp2_with fail
     go_roundw
     case rel=>exact⟨pre++[j],xr,r,rfl,hr,by rw[←hway];simp,by rw[List.length_append,←htk];exact HO4.out,HA4.out,HB4.out,hs4⟩
     case measure=>simp[slen];omega
    ·rw[if_neg cr]at hway
     go_wp2_with fail
     (try rw[Exit.noGoto_ret])
     go_ret
     rw[←hway];refine⟨_,rfl, ?_,by rw[es];exact HB4.out⟩;rw[es,List.length_append,ints_snoc];exact HO4.out
end
section
open Go.RowKit Go.Lib
theorem key_eql (a b:Nat×Nat) (w:World):(binOp .eql 169 (kyv a) (kyv b)).run Tryz.prog w= .ok (.bool (decide (a=b))) w:=by
 unfold kyv;rw[run_eql_struct,run_equalIn_agg w 9999 _ _ _ (by kernel_rfl) (by kernel_rfl)];simp[go_sem]
 have e:decide (a=b)=decide ((a.1:Int)=b.1∧(a.2:Int)=b.2):=by
  rw[decide_eq_decide,Prod.ext_iff];omega
 rw[e];repeat' split
 all_goals simp[*]
def leastT:TT→List Nat
 | .nil=>[]
 | .node i _ _ l _=>i::leastT l
theorem leastT_len (t:TT):(leastT t).length≤t.idx.length:=by
 induction t with
 | nil=>simp[leastT]
 | node i a b l r ihl ihr=>simp only[leastT,List.length_cons,TT.idx,List.length_append];omega
theorem rbleast_any (b:Nat) (pa:Nat) (v:Value) (top size:Int) (ns:List ND) (t:TT) (i:Int) (hR:Rep ns i t) (sz:t.idx.length≤300) (g:Nat→Nat) (T:Nat) (w:World) (h:NsAt w g T b pa v top size ns):
  Calls Tryz.prog 146 #[.pointer (some ⟨b,0,none⟩), .int .i64 i] w fun e w'=> ∃ v',e= .returned v'∧w'.ownsRow w.heap.size 3 1 v' (leastT t).length (ints (leastT t))∧Below w.heap.size w w':=by
 obtain⟨i0,HI⟩:=infoI;have HH:=zH h;obtain⟨s,es⟩: ∃ s,w.heap.size=s:=⟨_,rfl⟩;have hblt:b<s:=by rw[←es];exact h.lt.1
 have hwl:=leastT_len t;clear h;go_enter Tryz.func146,Tryz.ntmps146
 go_wp2_with fail
 go_loopw [1,5] (fun v6 v5 wr=> ∃(pre:List Nat) (i:Int) (u:TT),v6= .int .i64 i∧Rep ns i u∧pre++leastT u=leastT t∧wr.ownsRow s 3 1 v5 pre.length (ints pre)∧Below s w wr) (fun _ v5 _=>(leastT t).length-slen v5)
 case atStart=>exact⟨[],_,t,rfl,hR,rfl,World.ownsRow_nil _ _ _ _,by rw[←es];exact Below.refl _ _⟩
 case round=>
  obtain⟨pre,i,u,rfl,hRu,hway,own,hB⟩:=hrel;obtain⟨a5,c5,rfl,m5⟩:=own_form own;have hszr:s≤wr.heap.size:=by rw[←es];exact hB.size
  cases u with
  | nil=>
   obtain rfl:i= -1:=hRu;simp only[leastT,List.append_nil]at hway;have HO:=zH own;have HB:=zH hB;clear own hB;go_wp2;go_ret
   rw[←hway];exact⟨_,rfl,by rw[es];exact HO.out,by rw[es];exact HB.out⟩
  | node j ja jb l r=>
   obtain⟨rfl,hj,e1,e2,e3,hl,hr⟩:=hRu;have hplen:pre.length<(leastT t).length:=by rw[←hway];simp[leastT]
   have HO:=zH own;have HB:=zH hB;have hne:((j:Int)== -1)=false:=by rw[beq_eq_false_iff_ne];omega
   clear own hB;go_wp2_with (at_builtin;refine wpList_append_lies _ rfl _ _ 39 rfl s 3 i0 (.int .i64 0) 1 8 Tryz.underlying39 HI.out.1 HI.out.2.1 HI.out.2.2.1 HI.out.2.2.2 rfl (by decide) _ pre.length (ints pre) rfl (HO.out.alloc _) ⟨wr.heap.size,0,none⟩ 1 1 [.int .i64 (j:Nat)] rfl rfl (cell_one_new _ _ _) ?c1 (by decide) ?c2 ?c3 ?c4 _ rfl ?_)
   case c1=>simp[Value.oneCell']
   case c2=>unfold maxLen;omega
   case c3=>omega
   case c4=>first | omega | (simp;omega)
   intro g2 cap2 w2 ho hg hat hlt;have B2:Below s w w2:=(HB.out.alloc hszr _).grown hg (by simp;omega) (fun q hq=>(HO.out.lt q hq).1);have N2':=HH.out.below (w':=w2) (by rw[es];exact B2);obtain⟨bb,off,cap,rfl⟩:=ns_form N2' (by omega);obtain⟨q1,qO,qS,qne,qc,qf⟩:=ns_at N2';have r2:=qc j _ (getD_some hj) 2 (by omega);simp only[ndl,List.getElem?_cons_zero,List.getElem?_cons_succ]at r2;obtain⟨xl,exl⟩: ∃ xl,(ns.getD j default).l=xl:=⟨_,rfl⟩;rw[exl]at r2 hl;have HO2:=zH ho;have HB2:=zH B2;have htk:ints pre++[.int .i64 (j:Nat)]=ints (pre++[j]):=by simp[ints]
   clear ho hg hat B2 N2' qO qS qc qf;go_wp2_with fail
   go_roundw
   case rel=>exact⟨pre++[j],xl,l,rfl,hl,by rw[←hway];simp[leastT],by rw[List.length_append,←htk];exact HO2.out,HB2.out⟩
   case measure=>simp[slen];omega
def foundA (ns:List ND) (ws:List Nat) (k:Nat×Nat):Int:=match ws.getLast? with
 | none=> -1
 | some i=>if((ns.getD i default).ka,(ns.getD i default).kb)=k then((i:Nat):Int)else-1
theorem rbfound_any (b:Nat) (pa:Nat) (v vw:Value) (top size:Int) (ns:List ND) (ws:List Nat) (k:Nat×Nat) (hws: ∀ i∈ws,i<ns.length) (hwl:ws.length≤1000) (g:Nat→Nat) (T:Nat) (w:World) (h:NsAt w g T b pa v top size ns) (hr:Rd w vw 1 ws.length (ints ws)):
  Calls Tryz.prog 116 #[.pointer (some ⟨b,0,none⟩),vw,kyv k] w fun e w'=>e= .returned (.int .i64 (foundA ns ws k))∧Below w.heap.size w w':=by
 obtain⟨aw,cw,rfl,hcw,hrow⟩:=hr.form;rcases List.eq_nil_or_concat ws with rfl | ⟨pre,i,rfl⟩
 ·obtain⟨k1,k2⟩:=k
  unfold kyv foundA;clear hr hrow h;go_enter Tryz.func116,Tryz.ntmps116
  go_wp2;go_quiet (fail)
  go_wp2;go_ret
  exact⟨rfl,belowN ((Below.refl w.heap.size w).alloc (Nat.le_refl _) _) _⟩
 ·have hi:=hws i (by simp)
  obtain⟨bw,ow,rfl,hbw,hcl⟩:=hrow (by simp);obtain⟨bb,off,cap,rfl⟩:=ns_form h (by omega);obtain⟨q1,qO,qS,qne,qc,qf⟩:=ns_at h;have r0:=qc i _ (getD_some hi) 0 (by omega);have r1:=qc i _ (getD_some hi) 1 (by omega);simp only[ndl,List.getElem?_cons_zero,List.getElem?_cons_succ,Nat.add_zero]at r0 r1;have hlast:=hcl pre.length (by simp);have hla:(ints (pre.concat i))[pre.length]? =some (.int .i64 (i:Nat)):=by simp[ints]
  rw[hla]at hlast;obtain⟨N,hN⟩: ∃ N,(pre.concat i).length=N:=⟨_,rfl⟩;have hN1:N=pre.length+1:=by rw[←hN];simp
  have hn1:(0:Int)<N:=by omega
  have hn2:(N:Int)-1=(pre.length:Nat):=by omega
  have hkd:=key_eql ((ns.getD i default).ka,(ns.getD i default).kb) k;have hf:foundA ns (pre.concat i) k=if((ns.getD i default).ka,(ns.getD i default).kb)=k then((i:Nat):Int)else-1:=by unfold foundA;simp
  rw[hf,hN];obtain⟨x,ex⟩: ∃ x,ns.getD i default=x:=⟨_,rfl⟩;rw[ex]at r0 r1 hkd ⊢;obtain⟨k1,k2⟩:=k;have hb1:b<w.heap.size:=h.lt.1;have hb2:bb<w.heap.size:=qS.tag_.2;have hl1000:N≤1000:=by rw[←hN];exact hwl
  have hpl:pre.length<N:=by omega
  unfold kyv at hkd ⊢;simp only at hkd
  by_cases he:(x.ka,x.kb)=(k1,k2)
  ·rw[if_pos he]
   rw[decide_eq_true he]at hkd;clear h qO qS qc qf hcl hr hrow hf hla hws hN;go_enter Tryz.func116,Tryz.ntmps116
   go_wp2;go_quiet (fail)
   go_wp2;go_ret
   exact⟨rfl,belowN ((Below.refl w.heap.size w).alloc (Nat.le_refl _) _) _⟩
  ·rw[if_neg he]
   rw[decide_eq_false he]at hkd;clear h qO qS qc qf hcl hr hrow hf hla hws hN;go_enter Tryz.func116,Tryz.ntmps116
   go_wp2;go_quiet (fail)
   go_wp2;go_ret
   exact⟨rfl,belowN ((Below.refl w.heap.size w).alloc (Nat.le_refl _) _) _⟩
end
section
open Go.RowKit Go.Lib
structure FR where
 up:Nat
 a:Nat
 b:Nat
 left:Bool
 sib:TT
def kz (l:List (Nat×Nat)):List FR→List (Nat×Nat)
 | []=>l
 | f::r=>kz (if f.left=true then l++(f.a,f.b)::f.sib.keys else f.sib.keys++(f.a,f.b)::l) r
def iz (l:List Nat):List FR→List Nat
 | []=>l
 | f::r=>iz (if f.left=true then l++f.up::f.sib.idx else f.sib.idx++f.up::l) r
def cz (k:Nat):List FR→Nat
 | []=>0
 | f::r=>(if f.up=k then 1 else 0)+f.sib.idx.count k+cz k r
theorem count_iz (k:Nat) (fs:List FR): ∀ l,(iz l fs).count k=l.count k+cz k fs:=by
 induction fs with
 | nil=>intro l;rfl
 | cons f r ih=>
  intro l;rw[iz,ih,cz];split<;>simp only[List.count_append,List.count_cons,beq_iff_eq]<;>omega
theorem len_iz (fs:List FR): ∀ l,l.length+fs.length≤(iz l fs).length:=by
 induction fs with
 | nil=>intro l;simp[iz]
 | cons f r ih=>
  intro l;rw[iz];refine Nat.le_trans ?_ (ih _);split<;>simp only[List.length_append,List.length_cons]<;>omega
theorem len_izm (fs:List FR): ∀ l,l.length≤(iz l fs).length:=fun l=>by have:=len_iz fs l;omega
def Ctx (ns:List ND):Int→List FR→Prop
 | _,[]=>True
 | was,f::r=>f.up<ns.length∧(ns.getD f.up default).ka=f.a∧(ns.getD f.up default).kb=f.b∧
   (if f.left=true then(ns.getD f.up default).l=was∧Rep ns (ns.getD f.up default).r f.sib else(ns.getD f.up default).r=was∧Rep ns (ns.getD f.up default).l f.sib)∧Ctx ns f.up r
theorem cz_pos {k:Nat} {fs:List FR} {f:FR} (hf:f∈fs) (hk:k=f.up∨k∈f.sib.idx):0<cz k fs:=by
 induction fs with
 | nil=>cases hf
 | cons e r ih=>
  rw[cz];rcases List.mem_cons.1 hf with rfl | h
  ·rcases hk with rfl | hk
   ·simp;omega
   ·have:=List.count_pos_iff.2 hk;omega
  ·have:=ih h;omega
theorem Ctx.frame {ns ms:List ND} (hl:ms.length=ns.length): ∀ {fs:List FR} {was:Int},Ctx ns was fs→(∀ k,0<cz k fs→ms.getD k default=ns.getD k default)→Ctx ms was fs:=by
 intro fs;induction fs with
 | nil=>intro _ _ _;trivial
 | cons f r ih=>
  intro was h hf;obtain⟨h1,h2,h3,h4,h5⟩:=h;have e:ms.getD f.up default=ns.getD f.up default:=hf f.up (cz_pos (List.mem_cons_self ..) (.inl rfl));have es: ∀ k∈f.sib.idx,ms.getD k default=ns.getD k default:=fun k hk=>hf k (cz_pos (List.mem_cons_self ..) (.inr hk))
  refine⟨by omega,by rw[e];exact h2,by rw[e];exact h3, ?_,ih h5 fun k hk=>hf k (by rw[cz];omega)⟩;rw[e];split at h4
  ·rename_i hc
   rw[if_pos hc];exact⟨h4.1,h4.2.frame es hl⟩
  ·rename_i hc
   rw[if_neg hc];exact⟨h4.1,h4.2.frame es hl⟩
structure Zip (ns:List ND) (was i:Int) (c:TT) (fs:List FR) (K:List (Nat×Nat)) (I:List Nat) (N:Nat):Prop where
 rep:Rep ns i c
 ctx:Ctx ns was fs
 good:Good ns
 len:ns.length=N
 keys:kz c.keys fs=K
 idx:iz c.idx fs=I
 sep: ∀ f∈fs,f.left=false→was≠ -1→ ∀ k∈f.sib.idx,(k:Int)≠was
def ndy (f:FR) (x:ND) (i:Int):ND:=if f.left=true then { x with l:=i }else { x with r:=i }
theorem okI_rep {ns:List ND} {i:Int} {c:TT} (h:Rep ns i c):okI ns i:=by
 cases c with
 | nil=>exact .inl h
 | node j a b l r=>
  obtain⟨rfl,h2,_⟩:=h;exact .inr ⟨by omega,by simpa using h2⟩
theorem zstep {ns:List ND} {was i:Int} {c:TT} {f:FR} {rest:List FR} {K:List (Nat×Nat)} {I:List Nat} {N:Nat} (h:Zip ns was i c (f::rest) K I N) (nd:I.Nodup) (sz:I.length≤300):
  ∃ L R,f.up<(ns.set f.up (ndy f (ns.getD f.up default) i)).length∧Good (ns.set f.up (ndy f (ns.getD f.up default) i))∧
   Rep (ns.set f.up (ndy f (ns.getD f.up default) i)) ((ns.set f.up (ndy f (ns.getD f.up default) i)).getD f.up default).l L∧
   Rep (ns.set f.up (ndy f (ns.getD f.up default) i)) ((ns.set f.up (ndy f (ns.getD f.up default) i)).getD f.up default).r R∧
   (L.idx++f.up::R.idx).Nodup∧(L.idx++f.up::R.idx).length≤300∧
   ∀(i':Nat) ms,EvenTo (ns.set f.up (ndy f (ns.getD f.up default) i)) f.up L R i' ms→ ∃ c',Zip ms f.up i' c' rest K I N:=by
 obtain⟨hrep,hctx,hg,hlen,hk,hi,hsep⟩:=h;obtain⟨h1,h2,h3,h4,h5⟩:=hctx;have hcnt:=List.nodup_iff_count.1 nd;rw[←hi]at hcnt sz;have hl0:=len_izm rest (if f.left=true then c.idx++f.up::f.sib.idx else f.sib.idx++f.up::c.idx);rw[iz]at sz;have hcnt2: ∀ k,c.idx.count k+(if f.up=k then 1 else 0)+f.sib.idx.count k+cz k rest≤1:=fun k=>by
  have:=hcnt k;rw[count_iz,cz]at this;omega
 have nup:f.up ∉ c.idx:=fun hm=>by have:=hcnt2 f.up;have:=List.count_pos_iff.2 hm;simp only[if_true]at*;omega
 have nus:f.up ∉ f.sib.idx:=fun hm=>by have:=hcnt2 f.up;have:=List.count_pos_iff.2 hm;simp only[if_true]at*;omega
 have eo: ∀ k,k≠f.up→(ns.set f.up (ndy f (ns.getD f.up default) i)).getD k default=ns.getD k default:=fun k hk=>getD_set_ne _ (Ne.symm hk)
 have ee:(ns.set f.up (ndy f (ns.getD f.up default) i)).getD f.up default=ndy f (ns.getD f.up default) i:=getD_set_eq _ h1;have el:(ns.set f.up (ndy f (ns.getD f.up default) i)).length=ns.length:=List.length_set;have rc:=hrep.frame (ms:=ns.set f.up (ndy f (ns.getD f.up default) i)) (fun k hk=>eo k (by rintro rfl;exact nup hk)) el;obtain⟨x,ex⟩: ∃ x,ns.getD f.up default=x:=⟨_,rfl⟩;have hgx:=hg f.up h1;rw[ex]at h2 h3 h4 ee eo el rc hgx;simp only[ex];obtain⟨ns',en⟩: ∃ m,ns.set f.up (ndy f x i)=m:=⟨_,rfl⟩;have gn:Good ns':=by
  rw[←en];unfold ndy;split
  ·exact hg.set _ _ (okI_rep hrep) hgx.2
  ·exact hg.set _ _ hgx.1 (okI_rep hrep)
 simp only[en]at ee eo el rc ⊢;have fin: ∀ L R,(∀ k,(L.idx++f.up::R.idx).count k=c.idx.count k+(if f.up=k then 1 else 0)+f.sib.idx.count k)→kz (L.keys++(f.a,f.b)::R.keys) rest=K→iz (L.idx++f.up::R.idx) rest=I→(ns'.getD f.up default).ka=f.a∧(ns'.getD f.up default).kb=f.b→
   ∀(i':Nat) ms,EvenTo ns' f.up L R i' ms→ ∃ c',Zip ms f.up i' c' rest K I N:=by
  intro L R hc hK hI hab i' ms ⟨e1,e2,⟨t,e3,e4,e5⟩,e6⟩;refine⟨t,e3, ?_,e1,by omega, ?_, ?_, ?_⟩
  ·refine h5.frame (by omega) fun k hk=> ?_
   have z:=hcnt2 k;have z2:=hc k;have n1:k≠f.up:=by rintro rfl;simp only[if_true]at z;omega
   rw[e6 k (fun hm=>by have:=List.count_pos_iff.2 hm;omega),eo k n1]
  ·rw[e4,hab.1,hab.2];exact hK
  ·rw[e5];exact hI
  ·intro f' hf' _ _ k hk he
   have e':k=f.up:=by omega
   subst e';have z:=hcnt2 f.up;simp only[if_true]at z;have:=cz_pos hf' (.inr hk);omega
 cases hfl:f.left with
 | true=>
  rw[hfl,if_pos rfl]at h4;obtain⟨h41,h42⟩:=h4;have rs:Rep ns' x.r f.sib:=h42.frame (fun k hk=>eo k (by rintro rfl;exact nus hk)) el;simp only[ndy,hfl,if_true]at ee;rw[kz,hfl,if_pos rfl]at hk;rw[iz,hfl,if_pos rfl]at hi;rw[hfl,if_pos rfl]at hl0 sz;have hcc: ∀ k,(c.idx++f.up::f.sib.idx).count k=c.idx.count k+(if f.up=k then 1 else 0)+f.sib.idx.count k:=fun k=>by simp only[List.count_append,List.count_cons,beq_iff_eq];omega
  refine⟨c,f.sib,by omega,gn,by rw[ee];exact rc,by rw[ee];exact rs,List.nodup_iff_count.2 fun k=>by rw[hcc];have:=hcnt2 k;omega,by omega,fin c f.sib hcc hk hi (by rw[ee];exact⟨h2,h3⟩)⟩
 | false=>
  rw[hfl,if_neg (by simp)]at h4;obtain⟨h41,h42⟩:=h4;have rs:Rep ns' x.l f.sib:=h42.frame (fun k hk=>eo k (by rintro rfl;exact nus hk)) el;simp only[ndy,hfl,Bool.false_eq_true,if_false]at ee;rw[kz,hfl,if_neg (by simp)]at hk;rw[iz,hfl,if_neg (by simp)]at hi;rw[hfl,if_neg (by simp)]at hl0 sz;have hcc: ∀ k,(f.sib.idx++f.up::c.idx).count k=c.idx.count k+(if f.up=k then 1 else 0)+f.sib.idx.count k:=fun k=>by simp only[List.count_append,List.count_cons,beq_iff_eq];omega
  refine⟨f.sib,c,by omega,gn,by rw[ee];exact rs,by rw[ee];exact rc,List.nodup_iff_count.2 fun k=>by rw[hcc];have:=hcnt2 k;omega,by omega,fin f.sib c hcc hk hi (by rw[ee];exact⟨h2,h3⟩)⟩
end
section
open Go.RowKit Go.Lib
theorem ns_set {w:World} {g:Nat→Nat} {T b pa bb off cap:Nat} {top size:Int} {ns:List ND} {j:Nat} {x:ND} (h:NsAt w g T b pa (.slice (some ⟨bb,off,none⟩) ns.length cap) top size ns) (hx:ns[j]? =some x) (q:Nat) (hq:q<5) (u:Value) (y:ND) (hy:(ndl x).set q u=ndl y):
  NsAt (w.setCell ⟨bb,off+j*5+q,none⟩ u) g T b pa (.slice (some ⟨bb,off,none⟩) ns.length cap) top size (ns.set j y):=by
 obtain⟨k1,kO,kS,kne,kc,kf⟩:=ns_at h;have S:=sli_node kS hx q hq u y hy;refine⟨kO.other (grown_set w bb (off+j*5+q) u) (by intro e;cases e;exact kne rfl), ?_⟩;rw[List.length_set]at S;rw[List.length_set];exact S
theorem ns_top {w:World} {g:Nat→Nat} {T b pa:Nat} {v:Value} {top size:Int} {ns:List ND} (h:NsAt w g T b pa v top size ns) (z:Int):NsAt (w.setCell ⟨b,2,none⟩ (.int .i64 z)) g T b pa v z size ns:=by
 obtain⟨h1,h2⟩:=h.ex;exact⟨h1.put (Put.set h1.1 2),h2.set_other _ (by show g b≠T+1;rw[h1.2];omega)⟩
theorem rbdrop_any (b:Nat) (pa:Nat) (v vw:Value) (top size:Int) (K:List (Nat×Nat)) (I:List Nat) (N:Nat) (hN1:N≤1000) (nd:I.Nodup) (sz:I.length≤300) (fs:List FR) (was i:Int) (ns:List ND) (c:TT) (hz:Zip ns was i c fs K I N) (hwas:was≠ -1) (hwas2: -1≤was∧was≤1000) (g:Nat→Nat) (T:Nat) (hTp:0<T) (w:World) (hT:Tidy w g) (h:NsAt w g T b pa v top size ns)
  (hws:Sli w g 0 3 1 vw (fs.map FR.up).length (ints (fs.map FR.up).reverse)):
  Calls Tryz.prog 147 #[.pointer (some ⟨b,0,none⟩),vw, .int .i64 was, .int .i64 i] w fun e w'=> ∃ i' ms t,(∃ v,e= .returned v)∧Chg w w' g g T (T+2)∧NsAt w' g T b pa v (i'+1) size ms∧Rep ms i' t∧Good ms∧ms.length=N∧t.keys=K∧t.idx=I:=by
 have HH:=zH h;have HT:=zH hT;have HW:=zH hws;obtain⟨aw,cw,rfl,hwc,hwm⟩:=hws.cap_;have hlz:=len_iz fs c.idx;rw[hz.idx]at hlz;have hfl:(fs.map FR.up).length=fs.length:=by simp
 rw[hfl]at HW hwc ⊢;have HZ:=zH hz;clear h hT hws hz;go_enter Tryz.func147,Tryz.ntmps147
 go_wp2_with fail
 go_loopw [2,3,8] (fun v2 v3 v8 wr=> ∃(ns':List ND) (was' i':Int) (c':TT) (rs:List FR) (post:List Nat),v2= .int .i64 was'∧v3= .int .i64 i'∧v8= .int .i64 ((rs.length:Int)-1)∧rs.length≤fs.length∧(fs.map FR.up).reverse=(rs.map FR.up).reverse++post∧Zip ns' was' i' c' rs K I N∧was'≠ -1∧ -1≤was'∧was'≤1000∧Chg w wr g g T (T+2)∧NsAt wr g T b pa v top size ns') (fun _ _ v8 _=>match v8 with | .int _ z=>(z+1).toNat | _=>0)
 case atStart=>exact⟨ns,was,i,c,fs,[],rfl,rfl,rfl,Nat.le_refl _,by simp,HZ.out,hwas,hwas2.1,hwas2.2,Chg.refl HT.out _ _,HH.out⟩
 case round=>
  obtain⟨ns',was',i',c',rs,post,rfl,rfl,rfl,hle,hpo,hz,hw1,hw2,hw3,hC,hN⟩:=hrel;have hi':okI ns' i':=okI_rep hz.rep;have hi3: -1≤i'∧i'≤999:=by
   have hlen:=hz.len;rcases hi' with h1 | ⟨h1,h2⟩
   ·omega
   ·have:(i'.toNat:Int)=i':=Int.toNat_of_nonneg h1
    omega
  have hip:IntKind.i64.wrap (i'+1)=i'+1:=wrap_small (by omega) (by omega);cases rs with
  | nil=>
   obtain⟨h1,h2⟩:=hN.ex;have f2:wr.frozen? ⟨b,2,none⟩=false:=h1.1.free 2;have o2:=h1.1.ce 2;simp only[List.length_nil];have NT:=ns_top hN (i'+1);have CT:Chg w (wr.setCell ⟨b,2,none⟩ (.int .i64 (i'+1))) g g T (T+2):=hC.set (fun hb=>by have:=hN.lt.2;omega) _;have HN:=zH NT;have HC:=zH CT;have HZ':=zH hz;clear hN hC hz hpo h1 h2 NT CT;go_wp2_with fail
   go_end0
   exact⟨i',ns',c',⟨_,rfl⟩,HC.out,HN.out,HZ'.out.rep,HZ'.out.good,HZ'.out.len,HZ'.out.keys,HZ'.out.idx⟩
  | cons f rest=>
   obtain⟨L,R,z1,z2,z3,z4,z5,z6,z7⟩:=zstep hz nd sz;obtain⟨hup,hka,hkb,hch,hcx⟩:=hz.ctx;obtain⟨bb,off,cap,rfl⟩:=ns_form hN (by omega);have HWr:=HW.out.chg hC (.inl hTp);obtain⟨q1,qO,qS,qne,qc,qf⟩:=ns_at hN;have hx:=getD_some hup;obtain⟨x,ex⟩: ∃ x,ns'.getD f.up default=x:=⟨_,rfl⟩;rw[ex]at hx hka hkb hch;simp only[ex]at z1 z2 z3 z4 z7;have r2:=qc f.up x hx 2 (by omega);have r3:=qc f.up x hx 3 (by omega);simp only[ndl,List.getElem?_cons_zero,List.getElem?_cons_succ]at r2 r3;have hnl:=hz.len;have f2:=qf (off+f.up*5+2);have f3:=qf (off+f.up*5+3);have hpos:0<fs.length:=by simp only[List.length_cons]at hle;omega
   obtain⟨bw,ow,rfl,hcl⟩: ∃ bw ow,aw=some ⟨bw,ow,none⟩∧ ∀ j,j<fs.length→wr.cell? ⟨bw,ow+j,none⟩=(ints (fs.map FR.up).reverse)[j]? :=by
    rcases HWr.form with⟨k1,k2,_⟩ | ⟨bw,ow,cp,e,_⟩
    ·omega
    ·cases e
     exact⟨bw,ow,rfl,fun j hj=>HWr.cells j (by omega)⟩
   have hup2:=hcl rest.length (by simp only[List.length_cons]at hle;omega);have hup3:(ints (fs.map FR.up).reverse)[rest.length]? =some (.int .i64 (f.up:Nat)):=by
    rw[hpo];simp[ints]
   rw[hup3]at hup2;have hvn:((f::rest).length:Int)-1=(rest.length:Nat):=by simp
   rw[hvn];have hrl:rest.length<fs.length:=by simp only[List.length_cons]at hle;omega
   have hupn:f.up<ns'.length:=hup;have HZ':=zH hz;have HC:=zH hC;have HN:=zH hN;clear hz hC hN qO qS qc qf hcl hup3 HWr;cases hlf:f.left with
   | true=>
    rw[hlf,if_pos rfl]at hch;obtain⟨hch1,hch2⟩:=hch;rw[hch1]at r2;have NS:=ns_set HN.out hx 2 (by omega) (.int .i64 i') { x with l:=i' } rfl;have CS:Chg w (wr.setCell ⟨bb,off+f.up*5+2,none⟩ (.int .i64 i')) g g T (T+2):=HC.out.set (fun hb=>by have:=HN.out.lt;have:=(ns_at HN.out).2.2.1.tag_;omega) _;simp only[ndy,hlf,if_true]at z1 z2 z3 z4 z7;obtain⟨m,em⟩: ∃ m,ns'.set f.up { x with l:=i' }=m:=⟨_,rfl⟩;rw[em]at z1 z2 z3 z4 z7 NS;have CE:=zH (rbeven_any b pa _ top size m f.up L R z1 z2 z3 z4 z5 z6 g T _ CS.tidy NS);have CS:=zH CS;clear hch2 hlf NS z1 z2 z3 z4 hcx hx;go_wp2_with fail
    refine CE.out.mono ?_;rintro e w1 ⟨i2,ms,rfl,C1,N1,E1⟩;obtain⟨c2,Z2⟩:=z7 i2 ms E1;have CC:=zH (CS.out.trans C1);have NN:=zH N1;clear C1 N1 E1 z7;go_wp2_with fail
    go_roundw
    case rel=>exact⟨ms,f.up,i2,c2,rest,f.up::post,rfl,rfl,rfl,by omega,by rw[hpo];simp,Z2,by omega,by omega,by omega,CC.out,NN.out⟩
    case measure=>simp
   | false=>
    rw[hlf,if_neg (by simp)]at hch;obtain⟨hch1,hch2⟩:=hch;have hne:(x.l==was')=false:=by
     rw[beq_eq_false_iff_ne];intro e;have hr:=hch2;rw[e]at hr;cases hs:f.sib with
     | nil=>rw[hs]at hr;exact hw1 hr
     | node k _ _ _ _=>
      rw[hs]at hr;exact HZ'.out.sep f (List.mem_cons_self ..) hlf hw1 k (by rw[hs];simp[TT.idx]) hr.1.symm
    have NS:=ns_set HN.out hx 3 (by omega) (.int .i64 i') { x with r:=i' } rfl;have CS:Chg w (wr.setCell ⟨bb,off+f.up*5+3,none⟩ (.int .i64 i')) g g T (T+2):=HC.out.set (fun hb=>by have:=HN.out.lt;have:=(ns_at HN.out).2.2.1.tag_;omega) _;simp only[ndy,hlf,Bool.false_eq_true,if_false]at z1 z2 z3 z4 z7;obtain⟨m,em⟩: ∃ m,ns'.set f.up { x with r:=i' }=m:=⟨_,rfl⟩;rw[em]at z1 z2 z3 z4 z7 NS;have CE:=zH (rbeven_any b pa _ top size m f.up L R z1 z2 z3 z4 z5 z6 g T _ CS.tidy NS);have CS:=zH CS;obtain⟨xl,exl⟩: ∃ xl,x.l=xl:=⟨_,rfl⟩;rw[exl]at r2 hne;clear hch2 hlf NS z1 z2 z3 z4 hcx hx;go_wp2_with fail
    refine CE.out.mono ?_;rintro e w1 ⟨i2,ms,rfl,C1,N1,E1⟩;obtain⟨c2,Z2⟩:=z7 i2 ms E1;have CC:=zH (CS.out.trans C1);have NN:=zH N1;clear C1 N1 E1 z7;go_wp2_with fail
    go_roundw
    case rel=>exact⟨ms,f.up,i2,c2,rest,f.up::post,rfl,rfl,rfl,by omega,by rw[hpo];simp,Z2,by omega,by omega,by omega,CC.out,NN.out⟩
    case measure=>simp
end
section
open Go.RowKit Go.Lib
theorem rbhang_any (b:Nat) (pa:Nat) (v vw:Value) (top size:Int) (K:List (Nat×Nat)) (I:List Nat) (N:Nat) (hN1:N≤1000) (nd:I.Nodup) (sz:I.length≤300) (fs:List FR) (jn k1 k2:Nat) (ns:List ND) (hz:Zip ns (-1) jn (.node jn k1 k2 .nil .nil) fs K I N) (hfs: ∀ f,fs.head?=some f→f.left=decide (cmpK (k1,k2) (f.a,f.b)<0)) (g:Nat→Nat) (T:Nat) (hTp:0<T) (w:World) (hT:Tidy w g) (h:NsAt w g T b pa v top size ns)
  (hws:Sli w g 0 3 1 vw (fs.map FR.up).length (ints (fs.map FR.up).reverse)):
  Calls Tryz.prog 118 #[.pointer (some ⟨b,0,none⟩),vw, .int .i64 (-1), .int .i64 jn] w fun e w'=> ∃ i' ms t,(∃ v,e= .returned v)∧Chg w w' g g T (T+2)∧NsAt w' g T b pa v (i'+1) size ms∧Rep ms i' t∧Good ms∧ms.length=N∧t.keys=K∧t.idx=I:=by
 have HH:=zH h;have HT:=zH hT;have HW:=zH hws;obtain⟨aw,cw,rfl,hwc,hwm⟩:=hws.cap_;have hlz:=len_iz fs (TT.node jn k1 k2 .nil .nil).idx;rw[hz.idx]at hlz;have hfl:(fs.map FR.up).length=fs.length:=by simp
 rw[hfl]at HW hwc ⊢;have HZ:=zH hz;clear h hT hws hz;go_enter Tryz.func118,Tryz.ntmps118
 go_wp2_with fail
 go_loopw [2,3,8] (fun v2 v3 v8 wr=> ∃(ns':List ND) (was' i':Int) (c':TT) (rs:List FR) (post:List Nat),v2= .int .i64 was'∧v3= .int .i64 i'∧v8= .int .i64 ((rs.length:Int)-1)∧rs.length≤fs.length∧(fs.map FR.up).reverse=(rs.map FR.up).reverse++post∧Zip ns' was' i' c' rs K I N∧(was'= -1→i'=jn∧c'= .node jn k1 k2 .nil .nil∧ ∀ f,rs.head?=some f→f.left=decide (cmpK (k1,k2) (f.a,f.b)<0))∧ -1≤was'∧was'≤1000∧Chg w wr g g T (T+2)∧NsAt wr g T b pa v top size ns') (fun _ _ v8 _=>match v8 with | .int _ z=>(z+1).toNat | _=>0)
 case atStart=>exact⟨ns, -1,jn,_,fs,[],rfl,rfl,rfl,Nat.le_refl _,by simp,HZ.out,fun _=>⟨rfl,rfl,hfs⟩,by omega,by omega,Chg.refl HT.out _ _,HH.out⟩
 case round=>
  obtain⟨ns',was',i',c',rs,post,rfl,rfl,rfl,hle,hpo,hz,hw1,hw2,hw3,hC,hN⟩:=hrel;have hi':okI ns' i':=okI_rep hz.rep;have hi3: -1≤i'∧i'≤999:=by
   have hlen:=hz.len;rcases hi' with h1 | ⟨h1,h2⟩
   ·omega
   ·have:(i'.toNat:Int)=i':=Int.toNat_of_nonneg h1
    omega
  have hip:IntKind.i64.wrap (i'+1)=i'+1:=wrap_small (by omega) (by omega);cases rs with
  | nil=>
   obtain⟨h1,h2⟩:=hN.ex;have f2:wr.frozen? ⟨b,2,none⟩=false:=h1.1.free 2;have o2:=h1.1.ce 2;simp only[List.length_nil];have NT:=ns_top hN (i'+1);have CT:Chg w (wr.setCell ⟨b,2,none⟩ (.int .i64 (i'+1))) g g T (T+2):=hC.set (fun hb=>by have:=hN.lt.2;omega) _;have HN:=zH NT;have HC:=zH CT;have HZ':=zH hz;clear hN hC hz hpo h1 h2 NT CT;go_wp2_with fail
   go_end0
   exact⟨i',ns',c',⟨_,rfl⟩,HC.out,HN.out,HZ'.out.rep,HZ'.out.good,HZ'.out.len,HZ'.out.keys,HZ'.out.idx⟩
  | cons f rest=>
   obtain⟨L,R,z1,z2,z3,z4,z5,z6,z7⟩:=zstep hz nd sz;obtain⟨hup,hka,hkb,hch,hcx⟩:=hz.ctx;obtain⟨bb,off,cap,rfl⟩:=ns_form hN (by omega);have HWr:=HW.out.chg hC (.inl hTp);obtain⟨q1,qO,qS,qne,qc,qf⟩:=ns_at hN;have hx:=getD_some hup;obtain⟨x,ex⟩: ∃ x,ns'.getD f.up default=x:=⟨_,rfl⟩;rw[ex]at hx hka hkb hch;simp only[ex]at z1 z2 z3 z4 z7;have r2:=qc f.up x hx 2 (by omega);have r3:=qc f.up x hx 3 (by omega);simp only[ndl,List.getElem?_cons_zero,List.getElem?_cons_succ]at r2 r3;have hup9:f.up≤999:=by have:=hz.len;omega
   have f2:=qf (off+f.up*5+2);have f3:=qf (off+f.up*5+3);have hpos:0<fs.length:=by simp only[List.length_cons]at hle;omega
   obtain⟨bw,ow,rfl,hcl⟩: ∃ bw ow,aw=some ⟨bw,ow,none⟩∧ ∀ j,j<fs.length→wr.cell? ⟨bw,ow+j,none⟩=(ints (fs.map FR.up).reverse)[j]? :=by
    rcases HWr.form with⟨k1,k2,_⟩ | ⟨bw,ow,cp,e,_⟩
    ·omega
    ·cases e
     exact⟨bw,ow,rfl,fun j hj=>HWr.cells j (by omega)⟩
   have hup2:=hcl rest.length (by simp only[List.length_cons]at hle;omega);have hup3:(ints (fs.map FR.up).reverse)[rest.length]? =some (.int .i64 (f.up:Nat)):=by
    rw[hpo];simp[ints]
   rw[hup3]at hup2;have hvn:((f::rest).length:Int)-1=(rest.length:Nat):=by simp
   rw[hvn];have hrl:rest.length<fs.length:=by simp only[List.length_cons]at hle;omega
   have hupn:f.up<ns'.length:=hup;have HZ':=zH hz;have HC:=zH hC;have HN:=zH hN;have qc':=qc;clear hz hC hN qO qS qc qf hcl hup3 HWr;have hcl2:True:=trivial;cases hlf:f.left with
   | true=>
    rw[hlf,if_pos rfl]at hch;obtain⟨hch1,hch2⟩:=hch;rw[hch1]at r2;by_cases hw:was'= -1
    ·subst hw
     obtain⟨rfl,rfl,hcmp⟩:=hw1 rfl;have hcmp:=hcmp f rfl;rw[hlf]at hcmp;obtain⟨_,hjn,hjk1,hjk2,_⟩:=HZ'.out.rep;have hxj:=getD_some hjn;have u0:=qc' jn _ hxj 0 (by omega);have u1:=qc' jn _ hxj 1 (by omega);have r0:=qc' f.up x hx 0 (by omega);have r1:=qc' f.up x hx 1 (by omega);simp only[ndl,List.getElem?_cons_zero,List.getElem?_cons_succ,Nat.add_zero]at u0 u1 r0 r1;rw[hjk1]at u0;rw[hjk2]at u1;rw[hka]at r0;rw[hkb]at r1;have CK:Hid (∀ w',Calls Tryz.prog 153 #[.agg #[.int .u64 k1, .int .u64 k2], .agg #[.int .u64 f.a, .int .u64 f.b]] w' fun e w''=>e= .returned (.int .i64 (cmpK (k1,k2) (f.a,f.b)))∧Below w'.heap.size w' w''):=zH fun w'=>cmpkey_any (k1,k2) (f.a,f.b) w'
     obtain⟨cv,ecv⟩: ∃ cv,cmpK (k1,k2) (f.a,f.b)=cv:=⟨_,rfl⟩;rw[ecv]at CK hcmp;have hc0:cv<0:=by simpa using hcmp
     clear hip hi3 hi' hcmp hjk1 hjk2 hxj ecv;have hbb1:b<wr.heap.size:=HN.out.lt.1;have hbb2:bb<wr.heap.size:=(ns_at HN.out).2.2.1.tag_.2;have hB4W: ∀ {w4:World},Below wr.drew.heap.size wr.drew w4→Below wr.heap.size wr w4:=fun h=>⟨h.os,h.tape,h.output,h.size,h.block⟩
     go_wp2_with fail
     refine wp_region_held_drew (S:=fun wq=>wq.cell? ⟨b,1,none⟩=some (.slice (some ⟨bb,off,none⟩) ns'.length cap)∧wq.cell? ⟨bb,off+f.up*5+2,none⟩=some (.int .i64 (-1))∧wq.cell? ⟨bb,off+f.up*5,none⟩=some (.int .u64 f.a)∧wq.cell? ⟨bb,off+f.up*5+1,none⟩=some (.int .u64 f.b)∧wq.cell? ⟨bb,off+jn*5,none⟩=some (.int .u64 k1)∧wq.cell? ⟨bb,off+jn*5+1,none⟩=some (.int .u64 k2)) (by kernel_rfl) ⟨q1,r2,r0,r1,u0,u1⟩ (fun hHeld=> ?_);refine zt 0 ?_;refine zt 1 ?_;refine zt 2 ?_;refine zt 3 ?_;refine zt 4 ?_;refine zt 5 ?_;refine zt 6 ?_;refine zt 7 ?_;refine zt 8 ?_;refine zt 9 ?_;refine zt 10 ?_;refine zt 11 ?_;refine zt 12 ?_;refine zt 13 ?_;refine zt 14 ?_;refine zt 15 ?_;refine zt 16 ?_;refine zt 17 ?_;refine zt 18 ?_;refine zt 19 ?_;refine zt 20 ?_;refine zt 21 ?_;refine zt 22 ?_;refine zt 23 ?_;refine zt 24 ?_;refine zt 25 ?_;refine zt 26 ?_;refine zt 27 ?_;refine zt 28 ?_;refine zt 29 ?_;refine zc 30 (fun K hK=> ?_);go_simp;refine(CK.out _).mono ?_;rintro e4 w4 ⟨rfl,hB4⟩;refine hK.out _ _ ?_ (fun hHeld=> ?_);focus exact⟨(hB4.cell (p:=⟨b,1,none⟩) hbb1).trans q1,(hB4.cell (p:=⟨bb,off+f.up*5+2,none⟩) hbb2).trans r2,(hB4.cell (p:=⟨bb,off+f.up*5,none⟩) hbb2).trans r0,(hB4.cell (p:=⟨bb,off+f.up*5+1,none⟩) hbb2).trans r1,(hB4.cell (p:=⟨bb,off+jn*5,none⟩) hbb2).trans u0,(hB4.cell (p:=⟨bb,off+jn*5+1,none⟩) hbb2).trans u1⟩
     clear hK K;refine zl ?_;refine zt 31 ?_;refine zt 32 ?_;refine zt 33 ?_;refine dnZ ?_;have C4:Chg w w4 g g T (T+2):=HC.out.drew.below hB4;have N4:=(HN.out.below (hB4W hB4));have hcell1:=(ns_at N4).1;have q1:=hcell1;have r2:=(hB4.cell (p:=⟨bb,off+f.up*5+2,none⟩) hbb2).trans r2;have fr2:=(ns_at N4).2.2.2.2.2 (off+f.up*5+2);have fr3:=(ns_at N4).2.2.2.2.2 (off+f.up*5+3);have r3:=(hB4.cell (p:=⟨bb,off+f.up*5+3,none⟩) hbb2).trans r3;have NS:=ns_set N4 hx 2 (by omega) (.int .i64 (jn:Int)) { x with l:=(jn:Int) } rfl;have CS:Chg w (w4.setCell ⟨bb,off+f.up*5+2,none⟩ (.int .i64 (jn:Int))) g g T (T+2):=C4.set (fun hb=>by have:=N4.lt;have:=(ns_at N4).2.2.1.tag_;omega) _;simp only[ndy,hlf,if_true]at z1 z2 z3 z4 z7;obtain⟨m,em⟩: ∃ m,ns'.set f.up { x with l:=(jn:Int) }=m:=⟨_,rfl⟩;rw[em]at z1 z2 z3 z4 z7 NS;have CE:=zH (rbeven_any b pa _ top size m f.up L R z1 z2 z3 z4 z5 z6 g T _ CS.tidy NS);have CS:=zH CS;clear hch2 hlf NS z1 z2 z3 z4 hcx hx hHeld hB4 C4 N4 hcell1;go_wp2_with fail
     refine CE.out.mono ?_;rintro e w1 ⟨i2,ms,rfl,C1,N1,E1⟩;obtain⟨c2,Z2⟩:=z7 i2 ms E1;have CC:=zH (CS.out.trans C1);have NN:=zH N1;clear C1 N1 E1 z7;go_wp2_with fail
     go_roundw
     case rel=>exact⟨ms,f.up,i2,c2,rest,f.up::post,rfl,rfl,rfl,by omega,by rw[hpo];simp,Z2,by omega,by omega,by omega,CC.out,NN.out⟩
     case measure=>simp
    ·have hne:(was'== -1)=false:=by rw[beq_eq_false_iff_ne];exact hw
     clear hcl2 qc';go_wp2_with fail
     go_quiet (fail)
     have NS:=ns_set (HN.out.drewN nq) hx 2 (by omega) (.int .i64 i') { x with l:=i' } rfl;have CS:Chg w ((wr.drewN nq).setCell ⟨bb,off+f.up*5+2,none⟩ (.int .i64 i')) g g T (T+2):=(HC.out.drewN nq).set (fun hb=>by have:=(HN.out.drewN nq).lt;have:=(ns_at (HN.out.drewN nq)).2.2.1.tag_;omega) _;simp only[ndy,hlf,if_true]at z1 z2 z3 z4 z7;obtain⟨m,em⟩: ∃ m,ns'.set f.up { x with l:=i' }=m:=⟨_,rfl⟩;rw[em]at z1 z2 z3 z4 z7 NS;have CE:=zH (rbeven_any b pa _ top size m f.up L R z1 z2 z3 z4 z5 z6 g T _ CS.tidy NS);have CS:=zH CS;clear hch2 hlf NS z1 z2 z3 z4 hcx hx;go_wp2_with fail
     refine CE.out.mono ?_;rintro e w1 ⟨i2,ms,rfl,C1,N1,E1⟩;obtain⟨c2,Z2⟩:=z7 i2 ms E1;have CC:=zH (CS.out.trans C1);have NN:=zH N1;clear C1 N1 E1 z7;go_wp2_with fail
     go_roundw
     case rel=>exact⟨ms,f.up,i2,c2,rest,f.up::post,rfl,rfl,rfl,by omega,by rw[hpo];simp,Z2,by omega,by omega,by omega,CC.out,NN.out⟩
     case measure=>simp
   | false=>
    rw[hlf,if_neg (by simp)]at hch;obtain⟨hch1,hch2⟩:=hch;by_cases hw:was'= -1
    ·subst hw
     by_cases hxl:x.l= -1
     ·rw[hxl]at r2
      obtain⟨rfl,rfl,hcmp⟩:=hw1 rfl;have hcmp:=hcmp f rfl;rw[hlf]at hcmp;obtain⟨_,hjn,hjk1,hjk2,_⟩:=HZ'.out.rep;have hxj:=getD_some hjn;have u0:=qc' jn _ hxj 0 (by omega);have u1:=qc' jn _ hxj 1 (by omega);have r0:=qc' f.up x hx 0 (by omega);have r1:=qc' f.up x hx 1 (by omega);simp only[ndl,List.getElem?_cons_zero,List.getElem?_cons_succ,Nat.add_zero]at u0 u1 r0 r1;rw[hjk1]at u0;rw[hjk2]at u1;rw[hka]at r0;rw[hkb]at r1;have CK:Hid (∀ w',Calls Tryz.prog 153 #[.agg #[.int .u64 k1, .int .u64 k2], .agg #[.int .u64 f.a, .int .u64 f.b]] w' fun e w''=>e= .returned (.int .i64 (cmpK (k1,k2) (f.a,f.b)))∧Below w'.heap.size w' w''):=zH fun w'=>cmpkey_any (k1,k2) (f.a,f.b) w'
      obtain⟨cv,ecv⟩: ∃ cv,cmpK (k1,k2) (f.a,f.b)=cv:=⟨_,rfl⟩;rw[ecv]at CK hcmp;have hc0: ¬ cv<0:=by simpa using hcmp
      clear hip hi3 hi' hcmp hjk1 hjk2 hxj ecv;have hbb1:b<wr.heap.size:=HN.out.lt.1;have hbb2:bb<wr.heap.size:=(ns_at HN.out).2.2.1.tag_.2;have hB4W: ∀ {w4:World},Below wr.drew.heap.size wr.drew w4→Below wr.heap.size wr w4:=fun h=>⟨h.os,h.tape,h.output,h.size,h.block⟩
      go_wp2_with fail
      refine wp_region_held_drew (S:=fun wq=>wq.cell? ⟨b,1,none⟩=some (.slice (some ⟨bb,off,none⟩) ns'.length cap)∧wq.cell? ⟨bb,off+f.up*5+2,none⟩=some (.int .i64 (-1))∧wq.cell? ⟨bb,off+f.up*5,none⟩=some (.int .u64 f.a)∧wq.cell? ⟨bb,off+f.up*5+1,none⟩=some (.int .u64 f.b)∧wq.cell? ⟨bb,off+jn*5,none⟩=some (.int .u64 k1)∧wq.cell? ⟨bb,off+jn*5+1,none⟩=some (.int .u64 k2)) (by kernel_rfl) ⟨q1,r2,r0,r1,u0,u1⟩ (fun hHeld=> ?_);refine zt 0 ?_;refine zt 1 ?_;refine zt 2 ?_;refine zt 3 ?_;refine zt 4 ?_;refine zt 5 ?_;refine zt 6 ?_;refine zt 7 ?_;refine zt 8 ?_;refine zt 9 ?_;refine zt 10 ?_;refine zt 11 ?_;refine zt 12 ?_;refine zt 13 ?_;refine zt 14 ?_;refine zt 15 ?_;refine zt 16 ?_;refine zt 17 ?_;refine zt 18 ?_;refine zt 19 ?_;refine zt 20 ?_;refine zt 21 ?_;refine zt 22 ?_;refine zt 23 ?_;refine zt 24 ?_;refine zt 25 ?_;refine zt 26 ?_;refine zt 27 ?_;refine zt 28 ?_;refine zt 29 ?_;refine zc 30 (fun K hK=> ?_);go_simp;refine(CK.out _).mono ?_;rintro e4 w4 ⟨rfl,hB4⟩;refine hK.out _ _ ?_ (fun hHeld=> ?_);focus exact⟨(hB4.cell (p:=⟨b,1,none⟩) hbb1).trans q1,(hB4.cell (p:=⟨bb,off+f.up*5+2,none⟩) hbb2).trans r2,(hB4.cell (p:=⟨bb,off+f.up*5,none⟩) hbb2).trans r0,(hB4.cell (p:=⟨bb,off+f.up*5+1,none⟩) hbb2).trans r1,(hB4.cell (p:=⟨bb,off+jn*5,none⟩) hbb2).trans u0,(hB4.cell (p:=⟨bb,off+jn*5+1,none⟩) hbb2).trans u1⟩
      clear hK K;refine zl ?_;refine zt 31 ?_;refine zt 32 ?_;refine zt 33 ?_;refine dnZ ?_;have C4:Chg w w4 g g T (T+2):=HC.out.drew.below hB4;have N4:=(HN.out.below (hB4W hB4));have hcell1:=(ns_at N4).1;have q1:=hcell1;have r2:=(hB4.cell (p:=⟨bb,off+f.up*5+2,none⟩) hbb2).trans r2;have fr2:=(ns_at N4).2.2.2.2.2 (off+f.up*5+2);have fr3:=(ns_at N4).2.2.2.2.2 (off+f.up*5+3);have r3:=(hB4.cell (p:=⟨bb,off+f.up*5+3,none⟩) hbb2).trans r3;have NS:=ns_set N4 hx 3 (by omega) (.int .i64 (jn:Int)) { x with r:=(jn:Int) } rfl;have CS:Chg w (w4.setCell ⟨bb,off+f.up*5+3,none⟩ (.int .i64 (jn:Int))) g g T (T+2):=C4.set (fun hb=>by have:=N4.lt;have:=(ns_at N4).2.2.1.tag_;omega) _;simp only[ndy,hlf,Bool.false_eq_true,if_false]at z1 z2 z3 z4 z7;obtain⟨m,em⟩: ∃ m,ns'.set f.up { x with r:=(jn:Int) }=m:=⟨_,rfl⟩;rw[em]at z1 z2 z3 z4 z7 NS;have CE:=zH (rbeven_any b pa _ top size m f.up L R z1 z2 z3 z4 z5 z6 g T _ CS.tidy NS);have CS:=zH CS;clear hch2 hlf NS z1 z2 z3 z4 hcx hx hHeld hB4 C4 N4 hcell1;go_wp2_with fail
      refine CE.out.mono ?_;rintro e w1 ⟨i2,ms,rfl,C1,N1,E1⟩;obtain⟨c2,Z2⟩:=z7 i2 ms E1;have CC:=zH (CS.out.trans C1);have NN:=zH N1;clear C1 N1 E1 z7;go_wp2_with fail
      go_roundw
      case rel=>exact⟨ms,f.up,i2,c2,rest,f.up::post,rfl,rfl,rfl,by omega,by rw[hpo];simp,Z2,by omega,by omega,by omega,CC.out,NN.out⟩
      case measure=>simp
     ·have hne:(x.l== -1)=false:=by
       rw[beq_eq_false_iff_ne];exact hxl
      obtain⟨xl,exl⟩: ∃ xl,x.l=xl:=⟨_,rfl⟩;rw[exl]at r2 hne;clear hcl2 qc' hw1;go_wp2_with fail
      go_quiet (fail)
      have NS:=ns_set (HN.out.drewN nq) hx 3 (by omega) (.int .i64 i') { x with r:=i' } rfl;have CS:Chg w ((wr.drewN nq).setCell ⟨bb,off+f.up*5+3,none⟩ (.int .i64 i')) g g T (T+2):=(HC.out.drewN nq).set (fun hb=>by have:=(HN.out.drewN nq).lt;have:=(ns_at (HN.out.drewN nq)).2.2.1.tag_;omega) _;simp only[ndy,hlf,Bool.false_eq_true,if_false]at z1 z2 z3 z4 z7;obtain⟨m,em⟩: ∃ m,ns'.set f.up { x with r:=i' }=m:=⟨_,rfl⟩;rw[em]at z1 z2 z3 z4 z7 NS;have CE:=zH (rbeven_any b pa _ top size m f.up L R z1 z2 z3 z4 z5 z6 g T _ CS.tidy NS);have CS:=zH CS;clear hch2 hlf NS z1 z2 z3 z4 hcx hx;go_wp2_with fail
      refine CE.out.mono ?_;rintro e w1 ⟨i2,ms,rfl,C1,N1,E1⟩;obtain⟨c2,Z2⟩:=z7 i2 ms E1;have CC:=zH (CS.out.trans C1);have NN:=zH N1;clear C1 N1 E1 z7;go_wp2_with fail
      go_roundw
      case rel=>exact⟨ms,f.up,i2,c2,rest,f.up::post,rfl,rfl,rfl,by omega,by rw[hpo];simp,Z2,by omega,by omega,by omega,CC.out,NN.out⟩
      case measure=>simp
    ·have hne:(x.l==was')=false:=by
      rw[beq_eq_false_iff_ne];intro e;have hr:=hch2;rw[e]at hr;cases hs:f.sib with
      | nil=>rw[hs]at hr;exact hw hr
      | node k _ _ _ _=>
       rw[hs]at hr;exact HZ'.out.sep f (List.mem_cons_self ..) hlf hw k (by rw[hs];simp[TT.idx]) hr.1.symm
     obtain⟨xl,exl⟩: ∃ xl,x.l=xl:=⟨_,rfl⟩;rw[exl]at r2 hne;clear hcl2 qc';go_wp2_with fail
     go_quiet (fail)
     have NS:=ns_set (HN.out.drewN nq) hx 3 (by omega) (.int .i64 i') { x with r:=i' } rfl;have CS:Chg w ((wr.drewN nq).setCell ⟨bb,off+f.up*5+3,none⟩ (.int .i64 i')) g g T (T+2):=(HC.out.drewN nq).set (fun hb=>by have:=(HN.out.drewN nq).lt;have:=(ns_at (HN.out.drewN nq)).2.2.1.tag_;omega) _;simp only[ndy,hlf,Bool.false_eq_true,if_false]at z1 z2 z3 z4 z7;obtain⟨m,em⟩: ∃ m,ns'.set f.up { x with r:=i' }=m:=⟨_,rfl⟩;rw[em]at z1 z2 z3 z4 z7 NS;have CE:=zH (rbeven_any b pa _ top size m f.up L R z1 z2 z3 z4 z5 z6 g T _ CS.tidy NS);have CS:=zH CS;clear hch2 hlf NS z1 z2 z3 z4 hcx hx;go_wp2_with fail
     refine CE.out.mono ?_;rintro e w1 ⟨i2,ms,rfl,C1,N1,E1⟩;obtain⟨c2,Z2⟩:=z7 i2 ms E1;have CC:=zH (CS.out.trans C1);have NN:=zH N1;clear C1 N1 E1 z7;go_wp2_with fail
     go_roundw
     case rel=>exact⟨ms,f.up,i2,c2,rest,f.up::post,rfl,rfl,rfl,by omega,by rw[hpo];simp,Z2,by omega,by omega,by omega,CC.out,NN.out⟩
     case measure=>simp
end
end Go.Proofs.YtojgokiobdpclaaGreat
