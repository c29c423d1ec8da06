import Derived.Test.YtojgokiobdpclaaGreatP27
namespace Go.Proofs.YtojgokiobdpclaaGreat
set_option linter.unusedVariables false
set_option linter.unusedSimpArgs false
set_option maxRecDepth 8000
set_option maxHeartbeats 8000000
section
open Go.RowKit Go.Lib
theorem infoB: ∃ i0:TypeInfo,Hid (Tryz.prog.info? 4=some i0∧i0.zero=some (.bool false)∧i0.size=1∧i0.bytes=1):=by
 obtain⟨i0,h1,h2,h3,h4⟩:=info_parts (show(Tryz.prog.info? 4).map (fun i=>(i.zero,i.size,i.bytes))=some (some (.bool false),1,1) by kernel_rfl);exact⟨i0,zH ⟨h1,h2,h3,h4⟩⟩
def bools (l:List Bool):List Value:=l.map Value.bool
theorem bools_snoc (l:List Bool) (x:Bool):bools (l++[x])=bools l++[.bool x]:=by simp[bools]
theorem bools_set (l:List Bool) (j:Nat) (x:Bool):(bools l).set j (.bool x)=bools (l.set j x):=by simp[bools,List.map_set]
structure ArAt (w:World) (g:Nat→Nat) (T b:Nat) (us:List Bool) (fr:List Nat):Prop where
 ex: ∃ u f,Of w g T b 197 #[u,f, .int .i64 8]∧Sli w g (T+1) 4 1 u us.length (bools us)∧Sli w g (T+2) 3 1 f fr.length (ints fr)
section
variable {w w':World} {g g':Nat→Nat} {T b lo hi:Nat} {us:List Bool} {fr:List Nat}
theorem ArAt.below (h:ArAt w g T b us fr) (hb:Below w.heap.size w w'):ArAt w' g T b us fr:=by
 obtain⟨u,f,h1,h2,h3⟩:=h.ex;exact⟨u,f,h1.below hb,h2.below hb,h3.below hb⟩
theorem ArAt.chg (h:ArAt w g T b us fr) (c:Chg w w' g g' lo hi) (h1:T+3≤lo∨hi≤T):ArAt w' g' T b us fr:=by
 obtain⟨u,f,k1,k2,k3⟩:=h.ex;exact⟨u,f,k1.chg c (by omega),k2.chg c (by omega),k3.chg c (by omega)⟩
end
theorem arhas_any (b:Nat) (us:List Bool) (fr:List Nat) (i:Nat) (hi:us[i]? =some true) (g:Nat→Nat) (T:Nat) (w:World) (h:ArAt w g T b us fr):
  Calls Tryz.prog 172 #[.pointer (some ⟨b,0,none⟩), .int .i64 i] w fun e w'=>e= .returned (.bool true)∧w=w':=by
 obtain⟨u,f,h1,h2,h3⟩:=h.ex;have hil:=(List.getElem?_eq_some_iff.1 hi).1;rcases h2.form with⟨k1,k2,k3⟩ | ⟨bb,off,cap,rfl,k2,k3,k4,k5⟩
 ·omega
 ·have c0:=h1.1.ce 0
  have c1:=h2.cells i (by omega);have e1:(bools us)[i]? =some (.bool true):=by simp[bools,hi]
  rw[e1]at c1;clear h h1 h2 h3 e1 hi;go_enter Tryz.func172,Tryz.ntmps172
  go_wp2;go_ret
  exact⟨rfl,rfl⟩
theorem arfree_any (b:Nat) (us:List Bool) (fr:List Nat) (i:Nat) (hi:us[i]? =some true) (hul:us.length≤8) (hfl:fr.length≤8) (g:Nat→Nat) (T:Nat) (hT0:0<T) (w:World) (hT:Tidy w g) (h:ArAt w g T b us fr):
  Calls Tryz.prog 148 #[.pointer (some ⟨b,0,none⟩), .int .i64 i] w fun e w'=> ∃ g',e= .returned (.int .i64 0)∧Chg w w' g g' T (T+3)∧ArAt w' g' T b (us.set i false) (fr++[i]):=by
 obtain⟨i0,HI⟩:=infoI;have CH:Hid (∀ w',Below w.heap.size w w'→Calls Tryz.prog 172 #[.pointer (some ⟨b,0,none⟩), .int .i64 i] w' fun e w''=>e= .returned (.bool true)∧w'=w''):=zH fun w' hB=>arhas_any b us fr i hi g T w' (h.below hB)
 obtain⟨u,f,h1,h2,h3⟩:=h.ex;have hil:=(List.getElem?_eq_some_iff.1 hi).1;rcases h2.form with⟨k1,k2,k3⟩ | ⟨bb,off,cap,rfl,k2,k3,k4,k5⟩
 ·omega
 ·obtain⟨af,cf,rfl,f1,f2⟩:=h3.cap_
  have c0:=h1.1.ce 0;have c1:=h1.1.ce 1;have c2:=h1.1.ce 2;have r1:=h2.cells i (by omega);have e1:(bools us)[i]? =some (.bool true):=by simp[bools,hi]
  rw[e1]at r1;have fz:=h2.free (off+i);have gb:g b=T:=h1.2;have hne:bb≠b:=by rintro rfl;omega
  have S2:=h2.stored i (.bool false) (by omega);rw[bools_set]at S2;have A1:Of (w.setCell ⟨bb,off+i,none⟩ (.bool false)) g T b 197 #[.slice (some ⟨bb,off,none⟩) us.length cap, .slice af fr.length cf, .int .i64 8]:=h1.other (grown_set w bb (off+i) _) (by intro e;cases e;exact hne rfl);have S3:Sli (w.setCell ⟨bb,off+i,none⟩ (.bool false)) g (T+2) 3 1 (.slice af fr.length cf) fr.length (ints fr):=h3.set_other _ (by show g bb≠T+2;omega);have C1:Chg w (w.setCell ⟨bb,off+i,none⟩ (.bool false)) g g T (T+3):=(Chg.refl hT _ _).set (fun _=>by omega) _;have HA:=zH A1;have HS2:=zH S2;have HS3:=zH S3;have HC:=zH C1;have hi7:decide ((8:Int)≤i)=false:=decide_eq_false (by omega);have hi0:decide ((i:Int)<0)=false:=decide_eq_false (by omega);clear h h1 h2 h3 e1 hi hT A1 S2 S3 C1;go_enter Tryz.func148,Tryz.ntmps148
  go_wp2_with fail
  refine(CH.out _ (Below.refl _ _)).mono ?_;rintro e w1 ⟨rfl,rfl⟩;go_wp2_with (at_builtin;refine wpList_append_sli _ rfl _ _ 39 rfl g (T+2) 3 i0 (.int .i64 0) 1 8 Tryz.underlying39 HI.out.1 HI.out.2.1 HI.out.2.2.1 HI.out.2.2.2 rfl (by decide) _ fr.length (ints fr) rfl (HS3.out.alloc _) ?t1 ⟨w.heap.size,0,none⟩ 1 1 [.int .i64 (i:Nat)] rfl rfl ?t2 ?t3 (by decide) ?t4 ?t5 ?_)
  case t1=>exact HC.out.tidy.alloc _
  case t2=>
   have es:(w.setCell ⟨bb,off+i,none⟩ (.bool false)).heap.size=w.heap.size:=by simp[World.setCell]
   rw[←es];exact cell_one_new _ _ _
  case t3=>simp[Value.oneCell']
  case t4=>unfold maxLen;omega
  case t5=>omega
  intro b2 o2 cap2 w2 g2 hS hC;have A2:=(HA.out.alloc (.cells #[.int .i64 (i:Nat)] 3)).chg hC (by omega);have c2:=A2.1.ce 1;have f2:=A2.1.free 1;have AX:=zH A2;have SX:=zH hS;have UX:=zH ((HS2.out.alloc (.cells #[.int .i64 (i:Nat)] 3)).chg hC (by omega));have CX:=zH ((HC.out.alloc (.cells #[.int .i64 (i:Nat)] 3)).trans (hC.mono (by omega) (by omega)));clear A2 hS hC;go_wp2;go_ret
  have hb2:=AX.out.2;refine⟨g2,rfl,CX.out.set (fun _=>by omega) _,_,_,AX.out.put (Put.set AX.out.1 1), ?_, ?_⟩
  ·rw[List.length_set]
   exact UX.out.set_other _ (by rw[show(⟨b,1,none⟩:Addr).block=b from rfl,hb2];omega)
  ·rw[List.length_append,ints_snoc]
   exact SX.out.set_other _ (by rw[show(⟨b,1,none⟩:Addr).block=b from rfl,hb2];omega)
theorem arget_freed (b:Nat) (us:List Bool) (fr:List Nat) (i:Nat) (hi:i<us.length) (hul:us.length≤8) (hfl:fr.length≤8) (g:Nat→Nat) (T:Nat) (hT0:0<T) (w:World) (hT:Tidy w g) (h:ArAt w g T b us (fr++[i])):
  Calls Tryz.prog 117 #[.pointer (some ⟨b,0,none⟩)] w fun e w'=>e= .returned (.tuple #[.int .i64 i, .int .i64 0])∧Chg w w' g g T (T+3)∧ArAt w' g T b (us.set i true) fr:=by
 obtain⟨u,f,h1,h2,h3⟩:=h.ex;rw[List.length_append,List.length_singleton]at h3;rcases h2.form with⟨k1,k2,k3⟩ | ⟨bb,off,cap,rfl,k2,k3,k4,k5⟩
 ·omega
 rcases h3.form with⟨_,m2,_⟩ | ⟨bf,ow,cf,rfl,m2,m3,m4,m5⟩
 ·omega
 have c0:=h1.1.ce 0;have c1:=h1.1.ce 1;have r1:=h2.cells i (by omega);obtain⟨xi,exi⟩: ∃ xi,us[i]? =some xi:=⟨_,List.getElem?_eq_getElem hi⟩;have e1:(bools us)[i]? =some (.bool xi):=by simp[bools,exi]
 rw[e1]at r1;have l1:=h3.cells fr.length (by omega);have e2:(ints (fr++[i]))[fr.length]? =some (.int .i64 (i:Nat)):=by simp[ints]
 rw[e2]at l1;have fz:=h2.free (off+i);have fb:=h1.1.free 1;have gb:g b=T:=h1.2;have hne:bb≠b:=by rintro rfl;omega
 have S2:=(h2.set_other (p:=⟨b,1,none⟩) (.slice (some ⟨bf,ow,none⟩) fr.length cf) (by show g b≠T+1;omega)).stored i (.bool true) (by omega);rw[bools_set]at S2;have A1:Of (w.setCell ⟨b,1,none⟩ (.slice (some ⟨bf,ow,none⟩) fr.length cf)) g T b 197 #[.slice (some ⟨bb,off,none⟩) us.length cap, .slice (some ⟨bf,ow,none⟩) fr.length cf, .int .i64 8]:=h1.put (Put.set h1.1 1);have A2:=A1.other (grown_set _ bb (off+i) (.bool true)) (by intro e;cases e;exact hne rfl);have S3:=((h3.set_other (p:=⟨b,1,none⟩) (.slice (some ⟨bf,ow,none⟩) fr.length cf) (by show g b≠T+2;omega)).clip (m:=fr.length) (by omega)).set_other (p:=⟨bb,off+i,none⟩) (.bool true) (by show g bb≠T+2;omega);have e3:(ints (fr++[i])).take (fr.length*1)=ints fr:=by simp[ints]
 rw[e3]at S3;have C1:Chg w ((w.setCell ⟨b,1,none⟩ (.slice (some ⟨bf,ow,none⟩) fr.length cf)).setCell ⟨bb,off+i,none⟩ (.bool true)) g g T (T+3):=((Chg.refl hT _ _).set (fun _=>by omega) _).set (fun _=>by omega) _;have HA:=zH A2;have HS2:=zH S2;have HS3:=zH S3;have HC:=zH C1;have hn1:(0:Int)<(fr.length+1:Nat):=by omega
 have hn2:((fr.length+1:Nat):Int)-1=(fr.length:Nat):=by omega
 obtain⟨N,eN⟩: ∃ N,fr.length=N:=⟨_,rfl⟩;obtain⟨M,eM⟩: ∃ M,us.length=M:=⟨_,rfl⟩;have hN:N≤8:=by omega
 rw[eN]at c1 l1 m4 hn1 hn2;rw[eM]at c0 hi;rw[eN]at HC HA;rw[eM]at HA;clear h h1 h2 h3 e1 e2 hT A1 A2 S2 S3 C1 exi hfl;go_enter Tryz.func117,Tryz.ntmps117
 go_wp2_with fail
 go_ret2
 have q2:=HS2.out;have q3:=HS3.out;rw[eM,eN]at q2;rw[eN]at q3;exact⟨rfl,HC.out,_,_,HA.out,by rw[List.length_set,eM];exact q2,by rw[eN];exact q3⟩
theorem arget_new (b:Nat) (us:List Bool) (hul:us.length<8) (g:Nat→Nat) (T:Nat) (hT0:0<T) (w:World) (hT:Tidy w g) (h:ArAt w g T b us []):
  Calls Tryz.prog 117 #[.pointer (some ⟨b,0,none⟩)] w fun e w'=> ∃ g',e= .returned (.tuple #[.int .i64 us.length, .int .i64 0])∧Chg w w' g g' T (T+3)∧ArAt w' g' T b (us++[true]) []:=by
 obtain⟨i0,HI⟩:=infoB;obtain⟨u,f,h1,h2,h3⟩:=h.ex;obtain⟨au,cu,rfl,u1,u2⟩:=h2.cap_;obtain⟨af,cf,rfl,f1,f2⟩:=h3.cap_;have c0:=h1.1.ce 0;have c1:=h1.1.ce 1;have c2:=h1.1.ce 2;have gb:g b=T:=h1.2;obtain⟨M,eM⟩: ∃ M,us.length=M:=⟨_,rfl⟩;rw[eM]at h2 c0 u1 hul h1 ⊢;have hM:decide ((8:Int)≤(M:Int))=false:=decide_eq_false (by omega);have HA:=zH h1;have HU:=zH h2;have HF:=zH h3;have HT:=zH hT;clear h h1 h2 h3 hT;go_enter Tryz.func117,Tryz.ntmps117
 go_wp2_with fail
 go_quiet (fail)
 have AD:=(HA.out.below (Drn.below ⟨nq,rfl⟩));go_wp2_with (at_builtin;refine wpList_append_sli _ rfl _ _ 61 rfl g (T+1) 4 i0 (.bool false) 1 1 Tryz.underlying61 HI.out.1 HI.out.2.1 HI.out.2.2.1 HI.out.2.2.2 rfl (by decide) _ M (bools us) rfl ((HU.out.drewN nq).alloc _) ?t1 ⟨w.heap.size,0,none⟩ 1 1 [.bool true] rfl rfl ?t2 ?t3 (by decide) ?t4 ?t5 ?_)
 case t1=>exact(HT.out.drewN nq).alloc _
 case t2=>exact cell_one_new (w.drewN nq) _ _
 case t3=>simp[Value.oneCell']
 case t4=>unfold maxLen;omega
 case t5=>omega
 intro b2 o2 cap2 w2 g2 hS hC;have A2:=(AD.alloc (.cells #[.bool true] 4)).chg hC (by omega);have d0:=A2.1.ce 0;have f2:=A2.1.free 0;have AX:=zH A2;have SX:=zH hS;have FX:=zH (((HF.out.drewN nq).alloc (.cells #[.bool true] 4)).chg hC (by omega));have CX:=zH ((((Chg.refl HT.out T (T+3)).drewN nq).alloc (.cells #[.bool true] 4)).trans (hC.mono (by omega) (by omega)));clear A2 hS hC AD;go_wp2_with fail
 go_ret2
 have hb2:=AX.out.2;refine⟨g2,rfl,CX.out.set (fun _=>by omega) _,_,_,AX.out.put (Put.set AX.out.1 0), ?_, ?_⟩
 ·rw[List.length_append,eM,bools_snoc]
  exact SX.out.set_other _ (by rw[show(⟨b,0,none⟩:Addr).block=b from rfl,hb2];omega)
 ·exact FX.out.set_other _ (by rw[show(⟨b,0,none⟩:Addr).block=b from rfl,hb2];omega)
theorem arnew_any (g:Nat→Nat) (T:Nat) (w:World) (hT:Tidy w g):
  Calls Tryz.prog 73 #[.int .i64 8] w fun e w'=> ∃ g',e= .returned (.pointer (some ⟨w.heap.size,0,none⟩))∧Chg w w' g g' T (T+3)∧ArAt w' g' T w.heap.size [] []∧w'.heap.size=w.heap.size+1:=by
 have HT:=zH hT;clear hT;go_enter Tryz.func73,Tryz.ntmps73
 go_wp2_with fail
 go_ret
 exact⟨tagAt g w.heap.size T,rfl,(Chg.refl HT.out _ _).tag _ _,⟨_,_,Of.made w g T _ _,Sli.nil _ _ _ _ _,Sli.nil _ _ _ _ _⟩,by simp⟩
end
section
open Go.RowKit Go.Lib
abbrev KY:=Nat×Nat
def klt (x y:KY):Prop:=x.1<y.1∨x.1=y.1∧x.2<y.2
theorem cmpK_lt (x y:KY):cmpK x y<0↔klt x y:=by
 unfold cmpK cmpN klt;repeat' split
 all_goals constructor
 all_goals intro h
 all_goals omega
theorem cmpK_gt (x y:KY):0<cmpK x y↔klt y x:=by
 unfold cmpK cmpN klt;repeat' split
 all_goals constructor
 all_goals intro h
 all_goals omega
theorem klt_trans {x y z:KY} (h1:klt x y) (h2:klt y z):klt x z:=by unfold klt at*;omega
theorem klt_irr (x:KY): ¬ klt x x:=by unfold klt;omega
theorem klt_asym {x y:KY} (h:klt x y): ¬ klt y x:=by unfold klt at*;omega
theorem klt_tri {x y:KY} (h1: ¬ klt x y) (h2:x≠y):klt y x:=by
 unfold klt at*;have: ¬(x.1=y.1∧x.2=y.2):=fun h=>h2 (Prod.ext h.1 h.2)
 omega
instance (x y:KY):Decidable (klt x y):=inferInstanceAs (Decidable (_∨_))
def insK (k:KY):List KY→List KY
 | []=>[k]
 | x::r=>if klt k x then k::x::r else x::insK k r
theorem insK_app1 {k y:KY} (h:klt k y) (zs:List KY): ∀ xs,insK k (xs++y::zs)=insK k xs++y::zs
 | []=>by simp[insK,h]
 | x::xs=>by
  simp only[List.cons_append,insK];split
  ·rfl
  ·rw[insK_app1 h zs xs];rfl
theorem insK_app2 {k:KY} (zs:List KY): ∀ xs,(∀ x∈xs,¬ klt k x)→insK k (xs++zs)=xs++insK k zs
 | [],_=>rfl
 | x::xs,h=>by
  simp only[List.cons_append,insK];rw[if_neg (h x (List.mem_cons_self ..)),insK_app2 zs xs fun y hy=>h y (List.mem_cons_of_mem _ hy)]
theorem insK_mem {k x:KY}: ∀ {l:List KY},x∈insK k l↔x=k∨x∈l
 | []=>by simp[insK]
 | y::r=>by
  simp only[insK];split
  ·simp
  ·simp only[List.mem_cons,insK_mem (l:=r)]
   constructor
   ·rintro(h | h | h)<;>simp[h]
   ·rintro(h | h | h)<;>simp[h]
theorem insK_len (k:KY): ∀ l:List KY,(insK k l).length=l.length+1
 | []=>rfl
 | y::r=>by
  simp only[insK];split
  ·rfl
  ·simp[insK_len k r]
theorem insK_rise {k:KY}: ∀ {l:List KY},l.Pairwise klt→k ∉ l→(insK k l).Pairwise klt
 | [],_,_=>by simp[insK]
 | y::r,h,hk=>by
  simp only[insK];have h1:=List.pairwise_cons.1 h;split
  ·rename_i hlt
   refine List.pairwise_cons.2 ⟨fun z hz=> ?_,h⟩;rcases List.mem_cons.1 hz with rfl | hz
   ·exact hlt
   ·exact klt_trans hlt (h1.1 z hz)
  ·rename_i hlt
   refine List.pairwise_cons.2 ⟨fun z hz=> ?_,insK_rise h1.2 fun hm=>hk (List.mem_cons_of_mem _ hm)⟩;rcases insK_mem.1 hz with rfl | hz
   ·exact klt_tri hlt fun e=>hk (by rw[e];exact List.mem_cons_self ..)
   ·exact h1.1 z hz
def frT (k:KY):TT→List FR→List FR
 | .nil,acc=>acc
 | .node i a b l r,acc=>if klt k (a,b)then frT k l (⟨i,a,b,true,r⟩::acc)else frT k r (⟨i,a,b,false,l⟩::acc)
theorem frT_way (k:KY) (t:TT): ∀ acc,k ∉ t.keys→(frT k t acc).map FR.up=(wayT t k).reverse++acc.map FR.up:=by
 induction t with
 | nil=>intro acc _;simp[frT,wayT]
 | node i a b l r ihl ihr=>
  intro acc hk;simp only[TT.keys,List.mem_append,List.mem_cons,not_or]at hk;rw[frT,wayT];by_cases h:klt k (a,b)
  ·rw[if_pos h,if_pos ((cmpK_lt _ _).2 h),ihl _ hk.1]
   simp
  ·rw[if_neg h,if_neg fun h'=>h ((cmpK_lt _ _).1 h'),if_pos ((cmpK_gt _ _).2 (klt_tri h hk.2.1)),ihr _ hk.2.2]
   simp
theorem frT_keys (k:KY) (t:TT): ∀ acc,t.keys.Pairwise klt→kz [k] (frT k t acc)=kz (insK k t.keys) acc:=by
 induction t with
 | nil=>intro acc _;simp[frT,TT.keys,insK]
 | node i a b l r ihl ihr=>
  intro acc hp;simp only[TT.keys]at hp ⊢;obtain⟨pl,pr,plr⟩:=List.pairwise_append.1 hp;rw[frT];by_cases h:klt k (a,b)
  ·rw[if_pos h,ihl _ pl,kz,if_pos rfl,insK_app1 h]
  ·rw[if_neg h,ihr _ (List.pairwise_cons.1 pr).2,kz,if_neg (by simp),insK_app2 _ _ fun x hx hk=>h (klt_trans hk (plr x hx _ (List.mem_cons_self ..)))]
   simp only[insK];rw[if_neg h]
theorem frT_cz (k:KY) (x:Nat) (t:TT): ∀ acc,cz x (frT k t acc)=t.idx.count x+cz x acc:=by
 induction t with
 | nil=>intro acc;simp[frT,TT.idx]
 | node i a b l r ihl ihr=>
  intro acc;simp only[frT,TT.idx,List.count_append,List.count_cons,beq_iff_eq];split
  ·rw[ihl,cz];simp only;omega
  ·rw[ihr,cz];simp only;omega
theorem frT_ctx (k:KY) {ns:List ND} (t:TT): ∀ {i:Int} {acc:List FR},Rep ns i t→Ctx ns i acc→Ctx ns (-1) (frT k t acc):=by
 induction t with
 | nil=>intro i acc h hc;rw[frT];rw[show i= -1 from h]at hc;exact hc
 | node j a b l r ihl ihr=>
  intro i acc h hc;obtain⟨rfl,h2,h3,h4,h5,h6,h7⟩:=h;rw[frT];split
  ·refine ihl h6 ⟨h2,h3,h4, ?_,hc⟩
   rw[if_pos rfl];exact⟨rfl,h7⟩
  ·refine ihr h7 ⟨h2,h3,h4, ?_,hc⟩
   rw[if_neg (by simp)];exact⟨rfl,h6⟩
theorem frT_head (k:KY) (t:TT): ∀ acc,(∀ f,acc.head?=some f→f.left=decide (klt k (f.a,f.b)))→ ∀ f,(frT k t acc).head?=some f→f.left=decide (klt k (f.a,f.b)):=by
 induction t with
 | nil=>intro acc h;exact h
 | node i a b l r ihl ihr=>
  intro acc h;rw[frT];split
  ·rename_i hc
   exact ihl _ fun f hf=>by cases hf;simp[hc]
  ·rename_i hc
   exact ihr _ fun f hf=>by cases hf;simp[hc]
theorem way_keys {ns:List ND} (k:KY) (t:TT): ∀ {i:Int},Rep ns i t→ ∀ j∈wayT t k,j<ns.length∧((ns.getD j default).ka,(ns.getD j default).kb)∈t.keys:=by
 induction t with
 | nil=>intro i _ j hj;simp[wayT]at hj
 | node i a b l r ihl ihr=>
  intro i' h j hj;obtain⟨rfl,h2,h3,h4,h5,h6,h7⟩:=h;simp only[wayT,List.mem_cons]at hj;simp only[TT.keys,List.mem_append,List.mem_cons];rcases hj with rfl | hj
  ·exact⟨h2, .inr (.inl (by rw[h3,h4]))⟩
  ·split at hj
   ·have:=ihl h6 j hj;exact⟨this.1, .inl this.2⟩
   ·split at hj
    ·have:=ihr h7 j hj;exact⟨this.1, .inr (.inr this.2)⟩
    ·cases hj
theorem found_not {ns:List ND} {t:TT} {i:Int} (h:Rep ns i t) (k:KY) (hk:k ∉ t.keys):foundA ns (wayT t k) k= -1:=by
 unfold foundA;split
 ·rfl
 ·rename_i j hj
  have:=way_keys k t h j (List.mem_of_getLast? hj);exact if_neg fun e=>hk (by rw[←e];exact this.2)
structure TrIn (ns:List ND) (top:Nat) (us:List Bool) (fr:List Nat) (t:TT) (ks:List KY):Prop where
 rep:Rep ns ((top:Int)-1) t
 good:Good ns
 keys:t.keys=ks
 rise:ks.Pairwise klt
 nd:t.idx.Nodup
 same:us.length=ns.length
 room:ns.length≤8
 free: ∀ i∈fr,us[i]? =some false
 used: ∀ i∈t.idx,us[i]? =some true
 all: ∀ i,i<ns.length→i∈t.idx∨i∈fr
 ndf:fr.Nodup
structure TreeAt (w:World) (g:Nat→Nat) (T b:Nat) (ks:List KY):Prop where
 ex: ∃ pa v top ns us fr t,NsAt w g T b pa v (top:Nat) (ks.length:Nat) ns∧ArAt w g (T+2) pa us fr∧TrIn ns top us fr t ks
theorem TreeAt.below {w w':World} {g:Nat→Nat} {T b:Nat} {ks:List KY} (h:TreeAt w g T b ks) (hb:Below w.heap.size w w'):TreeAt w' g T b ks:=by
 obtain⟨pa,v,top,ns,us,fr,t,h1,h2,h3⟩:=h.ex;exact⟨pa,v,top,ns,us,fr,t,h1.below hb,h2.below hb,h3⟩
theorem TreeAt.chg {w w':World} {g g':Nat→Nat} {T b lo hi:Nat} {ks:List KY} (h:TreeAt w g T b ks) (c:Chg w w' g g' lo hi) (h1:T+5≤lo∨hi≤T):TreeAt w' g' T b ks:=by
 obtain⟨pa,v,top,ns,us,fr,t,k1,k2,k3⟩:=h.ex;exact⟨pa,v,top,ns,us,fr,t,k1.chg c (by omega),k2.chg c (by omega),k3⟩
theorem idx_len (t:TT):t.idx.length=t.keys.length:=by
 induction t with
 | nil=>rfl
 | node i a b l r ihl ihr=>simp only[TT.idx,TT.keys,List.length_append,List.length_cons,ihl,ihr]
theorem Rep.top {ns:List ND} {i:Int} {t:TT} (h:Rep ns i t) (hl:ns.length≤8): -1≤i∧i≤7:=by
 cases t with
 | nil=>rw[show i= -1 from h];omega
 | node j a b l r=>obtain⟨rfl,h2,_⟩:=h;omega
theorem Rep.app {ns:List ND} {t:TT} (x:ND): ∀ {i:Int},Rep ns i t→Rep (ns++[x]) i t:=by
 induction t with
 | nil=>intro i h;exact h
 | node j a b l r ihl ihr=>
  intro i h;obtain⟨h1,h2,h3,h4,h5,h6,h7⟩:=h;have e:(ns++[x]).getD j default=ns.getD j default:=by
   rw[List.getD_eq_getElem?_getD,List.getElem?_append_left h2,←List.getD_eq_getElem?_getD]
  refine⟨h1,by simp;omega, ?_⟩;rw[e];exact⟨h3,h4,h5,ihl h6,ihr h7⟩
theorem hang_zip {ns ms:List ND} {i:Int} {t:TT} (h:Rep ns i t) (hg:Good ms) (k:KY) (hp:t.keys.Pairwise klt) (nd:t.idx.Nodup) (j:Nat) (hj:j<ms.length) (hjt:j ∉ t.idx) (hjn:ms.getD j default=⟨k.1,k.2, -1, -1,1⟩) (hl:Rep ms i t):
  Zip ms (-1) j (.node j k.1 k.2 .nil .nil) (frT k t []) (insK k t.keys) (iz [j] (frT k t [])) ms.length∧(iz [j] (frT k t [])).Nodup∧
   (∀ x,x∈iz [j] (frT k t [])↔x=j∨x∈t.idx):=by
 have hc: ∀ x,(iz [j] (frT k t [])).count x=[j].count x+t.idx.count x:=fun x=>by rw[count_iz,frT_cz];rfl
 refine⟨⟨⟨rfl,hj,by rw[hjn],by rw[hjn],by rw[hjn];rfl,by rw[hjn];rfl,by rw[hjn];rfl⟩,frT_ctx k t hl trivial,hg,rfl, ?_, ?_,fun _ _ _ hne=>absurd rfl hne⟩, ?_, ?_⟩
 ·simp only[TT.keys,List.nil_append]
  exact frT_keys k t [] hp
 ·rfl
 ·refine List.nodup_iff_count.2 fun x=> ?_
  rw[hc,List.count_singleton];have:=List.nodup_iff_count.1 nd x;split
  ·rename_i e
   have e':j=x:=by simpa using e
   have:t.idx.count x=0:=List.count_eq_zero.2 (e'▸hjt);omega
  ·omega
 ·intro x
  rw[←List.count_pos_iff,hc];have h1:0<[j].count x↔x=j:=by rw[List.count_pos_iff];simp
  have h2:0<t.idx.count x↔x∈t.idx:=List.count_pos_iff;rw[Nat.add_pos_iff_pos_or_pos,h1,h2]
theorem TrIn.put {ns ms:List ND} {top top':Nat} {us us':List Bool} {fr fr':List Nat} {t t':TT} {ks:List KY} (h:TrIn ns top us fr t ks) (k:KY) (hk:k ∉ ks) (j:Nat)
  (hr:Rep ms ((top':Int)-1) t') (hg:Good ms) (hkeys:t'.keys=insK k ks) (hnd:t'.idx.Nodup) (hidx: ∀ x,x∈t'.idx↔x=j∨x∈t.idx)
  (hcase:(fr=fr'++[j]∧us'=us.set j true∧ms.length=ns.length)∨(fr=[]∧fr'=[]∧j=us.length∧us'=us++[true]∧ms.length=ns.length+1)) (hr8:ms.length≤8):
  TrIn ms top' us' fr' t' (insK k ks):=by
 have hndf:=h.ndf;refine⟨hr,hg,hkeys,insK_rise h.rise hk,hnd, ?_,hr8, ?_, ?_, ?_, ?_⟩
 ·have:=h.same
  rcases hcase with⟨_,rfl,e⟩ | ⟨_,_,_,rfl,e⟩
  ·simp;omega
  ·simp;omega
 ·intro i hi
  rcases hcase with⟨rfl,rfl,e⟩ | ⟨_,rfl,_⟩
  ·have h1:=h.free i (List.mem_append_left _ hi)
   have h2:j≠i:=by
    rintro rfl;have:=(List.nodup_append.1 hndf).2.2 j hi j (by simp);exact this rfl
   rw[List.getElem?_set_ne h2];exact h1
  ·cases hi
 ·intro i hi
  rcases(hidx i).1 hi with rfl | hi
  ·rcases hcase with⟨rfl,rfl,e⟩ | ⟨_,_,e1,rfl,e⟩
   ·have h1:=h.free i (by simp)
    rw[List.getElem?_set_self (List.getElem?_eq_some_iff.1 h1).1]
   ·rw[e1];simp
  ·have h1:=h.used i hi
   rcases hcase with⟨rfl,rfl,e⟩ | ⟨_,_,e1,rfl,e⟩
   ·by_cases e2:j=i
    ·subst e2
     rw[List.getElem?_set_self (List.getElem?_eq_some_iff.1 h1).1]
    ·rw[List.getElem?_set_ne e2];exact h1
   ·rw[List.getElem?_append_left (List.getElem?_eq_some_iff.1 h1).1];exact h1
 ·intro i hi
  rw[hidx];rcases hcase with⟨rfl,rfl,e⟩ | ⟨rfl,rfl,e1,rfl,e⟩
  ·rcases h.all i (by omega)with h1 | h1
   ·exact .inl (.inr h1)
   ·rcases List.mem_append.1 h1 with h1 | h1
    ·exact .inr h1
    ·exact .inl (.inl (by simpa using h1))
  ·have:=h.same
   by_cases e2:i=j
   ·exact .inl (.inl e2)
   ·rcases h.all i (by omega)with h1 | h1
    ·exact .inl (.inr h1)
    ·cases h1
 ·rcases hcase with⟨rfl,rfl,e⟩ | ⟨_,rfl,_⟩
  ·exact(List.nodup_append.1 hndf).1
  ·exact List.nodup_nil
end
section
open Go.RowKit Go.Lib
theorem nodup_len {α:Type} [BEq α] [LawfulBEq α]: ∀ {l m:List α},l.Nodup→l ⊆ m→l.length≤m.length
 | [],_,_,_=>Nat.zero_le _
 | x::l,m,h,hs=>by
  obtain⟨h1,h2⟩:=List.nodup_cons.1 h;have hx:x∈m:=hs (List.mem_cons_self ..);have:=nodup_len (l:=l) (m:=m.erase x) h2 fun y hy=>(List.mem_erase_of_ne (fun e=>h1 (by rw[←e];exact hy))).2 (hs (List.mem_cons_of_mem _ hy))
  rw[List.length_erase_of_mem hx]at this;have:=List.length_pos_of_mem hx;simp only[List.length_cons];omega
theorem setCells5 (w:World) (b o:Nat) (v0 v1 v2 v3 v4:Value):w.setCells b o [v0,v1,v2,v3,v4]=((((w.setCell ⟨b,o,none⟩ v0).setCell ⟨b,o+1,none⟩ v1).setCell ⟨b,o+2,none⟩ v2).setCell ⟨b,o+3,none⟩ v3).setCell ⟨b,o+4,none⟩ v4:=rfl
theorem infoN: ∃ i0:TypeInfo,Hid (Tryz.prog.info? 216=some i0∧i0.zero=some (.agg #[.int .u64 0, .int .u64 0, .int .i64 0, .int .i64 0, .int .i64 0])∧i0.size=5∧i0.bytes=40):=by
 obtain⟨i0,h1,h2,h3,h4⟩:=info_parts (show(Tryz.prog.info? 216).map (fun i=>(i.zero,i.size,i.bytes))=some (some (.agg #[.int .u64 0, .int .u64 0, .int .i64 0, .int .i64 0, .int .i64 0]),5,40) by kernel_rfl);exact⟨i0,zH ⟨h1,h2,h3,h4⟩⟩
theorem ns_put {w:World} {g:Nat→Nat} {T b pa bb off cap:Nat} {top size:Int} {ns:List ND} {j:Nat} (h:NsAt w g T b pa (.slice (some ⟨bb,off,none⟩) ns.length cap) top size ns) (hj:j<ns.length) (y:ND):
  NsAt (w.setCells bb (off+j*5) (ndl y)) g T b pa (.slice (some ⟨bb,off,none⟩) ns.length cap) top size (ns.set j y):=by
 obtain⟨k1,kO,kS,kne,kc,kf⟩:=ns_at h;have S:=kS.setCells (ndl y) (j*5) (by rw[ndl_len];omega);refine⟨kO.other (grown_setCells bb (ndl y) (off+j*5) w) (by intro e;cases e;exact kne rfl), ?_⟩;rw[List.length_set];obtain⟨A,B,s1,s2,s3⟩:=flat_split ndl_len (getD_some hj);rw[s1,ndl_len]at S;rw[s3];have e1:(A++ndl (ns.getD j default)++B).take (j*5)=A:=by rw[List.append_assoc,←s2,List.take_left]
 have e2:(A++ndl (ns.getD j default)++B).drop (j*5+5)=B:=by
  rw[←s2,show A.length+5=(A++ndl (ns.getD j default)).length from by rw[List.length_append,ndl_len],List.drop_left]
 rw[e1,e2]at S;exact S
theorem ns_size {w:World} {g:Nat→Nat} {T b pa:Nat} {v:Value} {top size:Int} {ns:List ND} (h:NsAt w g T b pa v top size ns) (z:Int):NsAt (w.setCell ⟨b,3,none⟩ (.int .i64 z)) g T b pa v top z ns:=by
 obtain⟨h1,h2⟩:=h.ex;exact⟨h1.put (Put.set h1.1 3),h2.set_other _ (by show g b≠T+1;rw[h1.2];omega)⟩
theorem arget_any (b:Nat) (us:List Bool) (fr:List Nat) (hfr: ∀ i∈fr,i<us.length) (hul:us.length≤8) (hfl:fr.length≤8) (hroom:fr=[]→us.length<8) (g:Nat→Nat) (T:Nat) (hT0:0<T) (w:World) (hT:Tidy w g) (h:ArAt w g T b us fr):
  Calls Tryz.prog 117 #[.pointer (some ⟨b,0,none⟩)] w fun e w'=> ∃ g' j us' fr',e= .returned (.tuple #[.int .i64 (j:Nat), .int .i64 0])∧Chg w w' g g' T (T+3)∧ArAt w' g' T b us' fr'∧((fr=fr'++[j]∧us'=us.set j true)∨(fr=[]∧fr'=[]∧j=us.length∧us'=us++[true])):=by
 rcases List.eq_nil_or_concat fr with rfl | ⟨r,j,rfl⟩
 ·exact(arget_new b us (hroom rfl) g T hT0 w hT h).mono fun e w' ⟨g',q1,q2,q3⟩=>⟨g',us.length,_,_,q1,q2,q3, .inr ⟨rfl,rfl,rfl,rfl⟩⟩
 ·rw[List.concat_eq_append]at h hfl hfr
  exact(arget_freed b us r j (hfr j (by simp)) hul (by simp at hfl;omega) g T hT0 w hT h).mono fun e w' ⟨q1,q2,q3⟩=>⟨g,j,_,_,q1,q2,q3, .inl ⟨by simp,rfl⟩⟩
theorem rbinsert_any (b:Nat) (k:KY) (ks:List KY) (hk:k ∉ ks) (hl:ks.length<8) (g:Nat→Nat) (T:Nat) (hT0:0<T) (w:World) (hT:Tidy w g) (h:TreeAt w g T b ks):
  Calls Tryz.prog 87 #[.pointer (some ⟨b,0,none⟩),kyv k] w fun e w'=> ∃ g',e= .returned (.int .i64 0)∧Chg w w' g g' T (T+5)∧TreeAt w' g' T b (insK k ks):=by
 obtain⟨pa,v,top,ns,us,fr,t,hN,hA,hI⟩:=h.ex;have htl:=hI.rep.top hI.room;have hil:=idx_len t;rw[hI.keys]at hil;have CW:Hid (∀ w',Below w.heap.size w w'→Calls Tryz.prog 115 #[.pointer (some ⟨b,0,none⟩),kyv k] w' fun e w''=> ∃ v',e= .returned v'∧w''.ownsRow w'.heap.size 3 1 v' (wayT t k).length (ints (wayT t k))∧Below w'.heap.size w' w''):=zH fun w' hB=>rbway_any b pa v top _ ns t k (by omega) hI.rep (by omega) g T w' (hN.below hB)
 have hwl:=wayT_len t k;have CF:Hid (∀ w' vw,Below w.heap.size w w'→Rd w' vw 1 (wayT t k).length (ints (wayT t k))→Calls Tryz.prog 116 #[.pointer (some ⟨b,0,none⟩),vw,kyv k] w' fun e w''=>e= .returned (.int .i64 (-1))∧Below w'.heap.size w' w''):=zH fun w' vw hB hr=>(rbfound_any b pa v vw _ _ ns (wayT t k) k (fun i hi=>(way_keys k t hI.rep i hi).1) (by omega) g T w' (hN.below hB) hr).mono fun e w'' ⟨q1,q2⟩=>⟨by rw[q1,found_not hI.rep k (by rw[hI.keys];exact hk)],q2⟩
 have CA:Hid (∀ w',Below w.heap.size w w'→Calls Tryz.prog 117 #[.pointer (some ⟨pa,0,none⟩)] w' fun e w''=> ∃ g' j us' fr',e= .returned (.tuple #[.int .i64 (j:Nat), .int .i64 0])∧Chg w' w'' g g' (T+2) (T+5)∧ArAt w'' g' (T+2) pa us' fr'∧((fr=fr'++[j]∧us'=us.set j true)∨(fr=[]∧fr'=[]∧j=us.length∧us'=us++[true]))):=by
  refine zH fun w' hB=>arget_any pa us fr (fun i hi=>(List.getElem?_eq_some_iff.1 (hI.free i hi)).1) (by have:=hI.same;have:=hI.room;omega) ?_ ?_ g (T+2) (by omega) w' (fun b' hb'=>hT b' (Nat.le_trans hB.size hb')) (hA.below hB)
  ·have h1:=hI.same
   have h2:=hI.room;have:fr.length≤us.length:=by
    have h3:fr ⊆ List.range us.length:=fun i hi=>List.mem_range.2 (List.getElem?_eq_some_iff.1 (hI.free i hi)).1
    simpa using nodup_len hI.ndf h3
   omega
  ·intro e
   have h1:=hI.same;have h3:List.range us.length ⊆ t.idx:=fun i hi=>by
    rcases hI.all i (by have:=List.mem_range.1 hi;omega)with h | h
    ·exact h
    ·rw[e]at h;cases h
   have:=nodup_len List.nodup_range h3;simp at this
   omega
 obtain⟨k1,k2⟩:=k;unfold kyv at CW CF ⊢;have HN:=zH hN;have HA:=zH hA;have HI:=zH hI;have HT:=zH hT;obtain⟨s,es⟩: ∃ s,w.heap.size=s:=⟨_,rfl⟩;have hbs:=hN.lt;have gs:g s=0:=hT s (by omega);rw[es]at hbs;clear hT h hN hA hI;go_enter Tryz.func87,Tryz.ntmps87
 go_wp2_with fail
 refine(CW.out _ ((Below.refl _ w).alloc (Nat.le_refl _) _)).mono ?_;rintro e w1 ⟨vw,rfl,hown,hB1⟩;have B0:Below s w (w.alloc (.cells #[.int .u64 k1, .int .u64 k2] 169)):=by rw[←es];exact(Below.refl _ w).alloc (Nat.le_refl _) _
 have B1:Below s w w1:=B0.trans (hB1.mono (by simp;omega));have A1:=(At.made w 169 #[.int .u64 k1, .int .u64 k2]).below hB1 (by simp);rw[es]at A1;have S1:=Sli.of_own (g':=g) (i:=0) hown fun q hq=>HT.out q (by have:=(hown.lt q hq).1;simp at this;omega)
 have y0:=A1.cell 0;have y1:=A1.cell 1;simp only[List.getElem?_toArray,List.getElem?_cons_zero,List.getElem?_cons_succ]at y0 y1;have HB1:=zH B1;have HA1:=zH A1;have HS1:=zH S1;have hs1:=A1.lt;clear hown hB1 B0 B1 A1 S1;go_wp2_with fail
 refine(CF.out _ _ (by rw[es];exact HB1.out) HS1.out.rd).mono ?_;rintro e w2 ⟨rfl,hB2⟩;have B2:Below s w w2:=HB1.out.trans (hB2.mono (by omega));have A2:=HA1.out.below hB2 hs1;have S2:=HS1.out.below hB2;have N2:=HN.out.below (w':=w2) (by rw[es];exact B2);have R2:=HA.out.below (w':=w2) (by rw[es];exact B2);have z3:=N2.ex.1.1.cell 3;have z4:=N2.ex.1.1.cell 4;have z0:=N2.ex.1.1.cell 0;simp only[List.getElem?_toArray,List.getElem?_cons_zero,List.getElem?_cons_succ]at z3 z4 z0;have HB2:=zH B2;have HA2:=zH A2;have HS2:=zH S2;have HN2:=zH N2;have HR2:=zH R2;have hl8:decide ((8:Int)≤(ks.length:Nat))=false:=decide_eq_false (by omega);have hs2:=A2.lt;clear hB2 B2 A2 S2 N2 R2 y0 y1 HB1 HA1 HS1;go_wp2_with fail
 go_quiet (fail)
 go_wp2_with fail
 refine(CA.out _ (by rw[es];exact HB2.out.trans ((Drn.below ⟨nq,rfl⟩:Below w2.heap.size w2 (w2.drewN nq)).mono (by omega)))).mono ?_;rintro e w3 ⟨g3,j,us',fr',rfl,C3,R3,hcase⟩;have N3:=(HN2.out.drewN nq).chg C3 (.inl (by omega));have A3:=(HA2.out.below (Drn.below ⟨nq,rfl⟩) hs2).chg C3 (.inl (by omega));have S3:=(HS2.out.drewN nq).chg C3 (.inl (by omega));have D3:Chg w w3 g g3 T (T+5):=(((Chg.refl HT.out T (T+5)).below (by rw[es];exact HB2.out)).drewN nq).trans (C3.mono (by omega) (by omega));have gs3:g3 s=0:=(C3.old s (by show s<w2.heap.size;omega)).trans gs;have hsz3:w2.heap.size≤w3.heap.size:=C3.size;have hI:=HI.out;rcases hcase with⟨hfr,hus⟩ | ⟨hfr,hfr',hj,hus⟩
 ·have hjl:j<ns.length:=by have h1:=hI.same;have h2:=(List.getElem?_eq_some_iff.1 (hI.free j (by rw[hfr];simp))).1;omega
  obtain⟨bb,off,cap,rfl⟩:=ns_form N3 (by omega);have hne:((j:Int)==(ns.length:Nat))=false:=by rw[beq_eq_false_iff_ne];omega
  have hjt:j ∉ t.idx:=fun h=>by have h1:=hI.free j (by rw[hfr];simp);have h2:=hI.used j h;rw[h1]at h2;cases h2
  have N5:=N3;have A5:=A3;have S5:=S3;have R5:=R3;have D5:=D3;have hG5:=hI.good;have hm8:=hI.room;have hR5:Rep (ns.set j ⟨k1,k2, -1, -1,1⟩) ((top:Int)-1) t:=hI.rep.frame (fun k hk=>getD_set_ne _ (by rintro rfl;exact hjt hk)) List.length_set;clear N3 A3 S3 R3 D3;obtain⟨q1,qO,qS,qne,qc,qf⟩:=ns_at N5;have r0:=qc j _ (getD_some hjl) 0 (by omega);have r1:=qc j _ (getD_some hjl) 1 (by omega);have r2:=qc j _ (getD_some hjl) 2 (by omega);have r3:=qc j _ (getD_some hjl) 3 (by omega);have r4:=qc j _ (getD_some hjl) 4 (by omega);simp only[ndl,List.getElem?_cons_zero,List.getElem?_cons_succ,Nat.add_zero]at r0 r1 r2 r3 r4;have f0:=qf (off+j*5);have f1:=qf (off+j*5+1);have f2:=qf (off+j*5+2);have f3:=qf (off+j*5+3);have f4:=qf (off+j*5+4);have y0:=A5.cell 0;have y1:=A5.cell 1;simp only[List.getElem?_toArray,List.getElem?_cons_zero,List.getElem?_cons_succ]at y0 y1;have gbb:=qS.tag_.1;have NP:=ns_put N5 hjl ⟨k1,k2, -1, -1,1⟩;have GP:=grown_setCells bb (ndl ⟨k1,k2, -1, -1,1⟩) (off+j*5) w3;have RP:ArAt ((w3).setCells bb (off+j*5) (ndl ⟨k1,k2, -1, -1,1⟩)) g3 (T+2) pa us' fr':=by
   obtain⟨u,f,e1,e2,e3⟩:=R5.ex;exact⟨u,f,e1.other GP (by intro e;cases e;have:=e1.2;omega),e2.other GP (fun q hq _=>by cases hq;omega),e3.other GP (fun q hq _=>by cases hq;omega)⟩
  have SP:=S5.other GP (fun q hq _=>by cases hq;omega);have DP:Chg w ((w3).setCells bb (off+j*5) (ndl ⟨k1,k2, -1, -1,1⟩)) g g3 T (T+5):=by
   refine⟨GP.os.trans D5.os,GP.tape.trans D5.tape,GP.output.trans D5.output,Nat.le_trans D5.size GP.size,fun q hq=>D5.tidy q (Nat.le_trans GP.size hq),D5.old,fun q hq ht=>(GP.block q (Nat.lt_of_lt_of_le hq D5.size) fun e=> ?_).trans (D5.kept q hq ht)⟩;cases e
   have:=D5.old _ hq;omega
  have hnd5:ndl ⟨k1,k2, -1, -1,1⟩=[.int .u64 k1, .int .u64 k2, .int .i64 (-1), .int .i64 (-1), .int .i64 1]:=rfl;rw[hnd5,setCells5]at NP RP SP DP;have NP:=NP.drewN 1;have RP:=RP.below (Below.drew (Below.refl _ _));have SP:=SP.drew;have DP:=DP.drew;have HNP:=zH NP;have HRP:=zH RP;have HSP:=zH SP;have HDP:=zH DP;obtain⟨hz,hnd,hidx⟩:=hang_zip (ms:=(ns).set j ⟨k1,k2, -1, -1,1⟩) hI.rep (hG5.set j _ (.inl rfl) (.inl rfl)) (k1,k2) (by rw[hI.keys];exact hI.rise) hI.nd j (by rw[List.length_set];exact hjl) hjt (getD_set_eq _ hjl) hR5;have hiz:(iz [j] (frT (k1,k2) t [])).length≤300:=by
   have:(iz [j] (frT (k1,k2) t [])).length≤(j::t.idx).length:=nodup_len hnd fun x hx=>List.mem_cons.2 ((hidx x).1 hx)
   simp only[List.length_cons]at this;omega
  have hml:((ns).set j ⟨k1,k2, -1, -1,1⟩).length≤8:=by rw[List.length_set];exact hm8
  clear hnd5 qO qS qc NP GP RP SP DP N5 A5 S5 R5 D5 hG5 hR5;go_wp2_with fail
  go_region
  refine q_named (fun W=>NsAt W g3 T b pa (.slice (some ⟨bb,off,none⟩) (ns).length cap) (top:Nat) (ks.length:Nat) ((ns).set j ⟨k1,k2, -1, -1,1⟩)∧ArAt W g3 (T+2) pa us' fr'∧Sli W g3 0 3 1 vw (wayT t (k1,k2)).length (ints (wayT t (k1,k2)))∧Chg w W g g3 T (T+5)) ⟨HNP.out,HRP.out,HSP.out,HDP.out⟩ (fun W hW=> ?_);obtain⟨NW,RW,SW,DW⟩:=hW;have z3:=NW.ex.1.1.cell 3;have fz3:=NW.ex.1.1.free 3;simp only[List.getElem?_toArray,List.getElem?_cons_zero,List.getElem?_cons_succ]at z3;have NW3:=ns_size NW ((ks.length:Nat)+1);have RW3:ArAt (W.setCell ⟨b,3,none⟩ (.int .i64 ((ks.length:Nat)+1))) g3 (T+2) pa us' fr':=by
   obtain⟨u,f,e1,e2,e3⟩:=RW.ex;have gb:=NW.lt.2;exact⟨u,f,e1.other (grown_set W b 3 _) (by intro e;cases e;have:=e1.2;omega),e2.other (grown_set W b 3 _) (fun q hq _=>by cases hq;omega),e3.other (grown_set W b 3 _) (fun q hq _=>by cases hq;omega)⟩
  have SW3:=SW.set_other (p:=⟨b,3,none⟩) (.int .i64 ((ks.length:Nat)+1)) (by show g3 b≠0;have:=NW.lt.2;omega);have DW3:=DW.set (b:=b) (i:=3) (fun hb=>by have:=NW.lt.2;have:=DW.old b hb;omega) (.int .i64 ((ks.length:Nat)+1));have hfw:(frT (k1,k2) t []).map FR.up=(wayT t (k1,k2)).reverse:=by rw[frT_way (k1,k2) t [] (by rw[hI.keys];exact hk)];simp
  have SW4:Sli (W.setCell ⟨b,3,none⟩ (.int .i64 ((ks.length:Nat)+1))) g3 0 3 1 vw ((frT (k1,k2) t []).map FR.up).length (ints ((frT (k1,k2) t []).map FR.up).reverse):=by rw[hfw,List.length_reverse,List.reverse_reverse];exact SW3
  clear SW3;have CH:=zH (rbhang_any b pa _ vw _ _ (insK (k1,k2) t.keys) _ _ (by rw[List.length_set];omega) hnd hiz (frT (k1,k2) t []) j k1 k2 _ hz (fun f hf=>by rw[frT_head (k1,k2) t [] (fun _ h=>by cases h) f hf,decide_eq_decide];exact(cmpK_lt _ _).symm) g3 T hT0 _ DW3.tidy NW3 SW4);have HD3:=zH DW3;have HR3:=zH RW3;clear NW RW SW DW NW3 RW3 SW4 DW3 hz;go_wp2_with fail
  refine CH.out.mono ?_;rintro e w6 ⟨i',ms,t',⟨ve,rfl⟩,C6,N6,e1,e2,e3,e4,e5⟩;have HF:=zH (HD3.out.trans (C6.mono (Nat.le_refl _) (by omega)));have HN6:=zH N6;have HR6:=zH (HR3.out.chg C6 (.inr (by omega)));clear C6 N6;go_wp2_with fail
  go_ret
  have hlt8:=e1.top (by omega);obtain⟨top',et⟩: ∃ top':Nat,i'+1=(top':Int):=⟨(i'+1).toNat,by omega⟩;have N6:=HN6.out;rw[et]at N6;have hl1:((insK (k1,k2) ks).length:Int)=(ks.length:Nat)+1:=by rw[insK_len];omega
  rw[←hl1]at N6;exact⟨_,rfl,HF.out,⟨pa,(.slice (some ⟨bb,off,none⟩) (ns).length cap),top',ms,us',fr',t',N6,HR6.out,hI.put (k1,k2) hk j (by rw[←et,Int.add_sub_cancel];exact e1) e2 (by rw[e4,hI.keys]) (by rw[e5];exact hnd) (by rw[e5];exact hidx) (.inl ⟨hfr,hus,by rw[e3,List.length_set]⟩) (by omega)⟩⟩
 ·have hjn:j=ns.length:=by have h1:=hI.same;omega
  have hmm:ns.length<8:=by
   have h3:List.range ns.length ⊆ t.idx:=fun i hi=>by
    rcases hI.all i (List.mem_range.1 hi)with h | h
    ·exact h
    ·rw[hfr]at h;cases h
   have:=nodup_len List.nodup_range h3;simp at this
   omega
  have hjt:j ∉ t.idx:=fun h=>by have h2:=(List.getElem?_eq_some_iff.1 (hI.used j h)).1;omega
  clear hj;subst hjn;obtain⟨i0,HIN⟩:=infoN;obtain⟨av,cv,rfl,v1,v2⟩:=N3.ex.2.cap_;have d1:=N3.ex.1.1.cell 1;simp only[List.getElem?_toArray,List.getElem?_cons_zero,List.getElem?_cons_succ]at d1;have HO3:=zH N3.ex.1;have HS3:=zH N3.ex.2;have HA3:=zH A3;have HW3:=zH S3;have HR3:=zH R3;have HD3:=zH D3;clear N3 A3 S3 R3 D3;go_wp2_with (at_builtin;refine wpList_append_sli _ rfl _ _ 153 rfl g3 (T+1) 216 i0 _ 5 40 Tryz.underlying153 HIN.out.1 HIN.out.2.1 HIN.out.2.2.1 HIN.out.2.2.2 rfl (by decide) _ ns.length (ns.flatMap ndl) rfl (HS3.out.alloc _) ?t1 ⟨w3.heap.size,0,none⟩ 1 1 (ndl ⟨0,0,0,0,0⟩) rfl rfl (World.news_of_block (At.made w3 216 #[.int .u64 0, .int .u64 0, .int .i64 0, .int .i64 0, .int .i64 0])) (ndl_one _) (by decide) ?t4 ?t5 ?_)
  case t1=>exact HD3.out.tidy.alloc _
  case t4=>unfold maxLen;omega
  case t5=>omega
  intro bb off cap w4 g4 hS hC;have O4:=(HO3.out.alloc (.cells #[.int .u64 0, .int .u64 0, .int .i64 0, .int .i64 0, .int .i64 0] 216)).chg hC (by omega);have K4:=(HA3.out.kept (World.grownBy_alloc w3 (.cells #[.int .u64 0, .int .u64 0, .int .i64 0, .int .i64 0, .int .i64 0] 216) none) (by simp)).chg hC (by omega);have W4:=(HW3.out.alloc (.cells #[.int .u64 0, .int .u64 0, .int .i64 0, .int .i64 0, .int .i64 0] 216)).chg hC (by omega);have R4:=(HR3.out.below ((Below.refl w3.heap.size w3).alloc (Nat.le_refl _) (.cells #[.int .u64 0, .int .u64 0, .int .i64 0, .int .i64 0, .int .i64 0] 216))).chg hC (by omega);have D4:=(HD3.out.alloc (.cells #[.int .u64 0, .int .u64 0, .int .i64 0, .int .i64 0, .int .i64 0] 216)).trans (hC.mono (by omega) (by omega));have p1:=O4.1.cell 1;simp only[List.getElem?_toArray,List.getElem?_cons_zero,List.getElem?_cons_succ]at p1;have f1:=O4.1.free 1;have gs4:g4 s=0:=(hC.old s (by simp;omega)).trans gs3;have hlen:(ns++[(⟨0,0,0,0,0⟩:ND)]).length=ns.length+1:=by simp
  have O5:=O4.put (Put.set O4.1 1 (u:= .slice (some ⟨bb,off,none⟩) (ns.length+1:Nat) cap));have gb4:=O4.2;have S5':=hS.set_other (p:=⟨b,1,none⟩) (.slice (some ⟨bb,off,none⟩) (ns.length+1:Nat) cap) (by show g4 b≠T+1;omega);have N5:NsAt (w4.setCell ⟨b,1,none⟩ (.slice (some ⟨bb,off,none⟩) (ns.length+1:Nat) cap)) g4 T b pa (.slice (some ⟨bb,off,none⟩) (ns++[(⟨0,0,0,0,0⟩:ND)]).length cap) (top:Nat) (ks.length:Nat) (ns++[⟨0,0,0,0,0⟩]):=by
   refine⟨?_, ?_⟩
   ·rw[hlen];exact O5
   ·rw[hlen];simpa using S5'
  have A5:=K4.far (p:=⟨b,1,none⟩) (u:= .slice (some ⟨bb,off,none⟩) (ns.length+1:Nat) cap) (by show s≠b;omega);have S5:=W4.set_other (p:=⟨b,1,none⟩) (.slice (some ⟨bb,off,none⟩) (ns.length+1:Nat) cap) (by show g4 b≠0;omega);have R5:ArAt (w4.setCell ⟨b,1,none⟩ (.slice (some ⟨bb,off,none⟩) (ns.length+1:Nat) cap)) g4 (T+2) pa us' fr':=by
   obtain⟨u,f,e1,e2,e3⟩:=R4.ex;exact⟨u,f,e1.other (grown_set w4 b 1 _) (by intro e;cases e;have:=e1.2;omega),e2.other (grown_set w4 b 1 _) (fun q hq _=>by cases hq;omega),e3.other (grown_set w4 b 1 _) (fun q hq _=>by cases hq;omega)⟩
  have D5:=D4.set (b:=b) (i:=1) (fun hb=>by have:=D4.old b hb;omega) (.slice (some ⟨bb,off,none⟩) (ns.length+1:Nat) cap);obtain⟨j,ej⟩: ∃ j,ns.length=j:=⟨_,rfl⟩;obtain⟨m,em⟩: ∃ m,ns++[(⟨0,0,0,0,0⟩:ND)]=m:=⟨_,rfl⟩;have hjl:j<m.length:=by rw[←em];simp;omega
  have hm8:m.length≤8:=by rw[←em];simp;omega
  have hG5:Good m:=by
   rw[←em];intro i hi;rw[List.length_append,List.length_singleton]at hi;by_cases h:i<ns.length
   ·rw[List.getD_eq_getElem?_getD,List.getElem?_append_left h,←List.getD_eq_getElem?_getD]
    have:=hI.good i h;unfold okI at*;rw[List.length_append];omega
   ·rw[show i=ns.length by omega,List.getD_eq_getElem?_getD,List.getElem?_append_right (Nat.le_refl _)]
    simp[okI]
  rw[ej]at hjt;have hR5:Rep (m.set j ⟨k1,k2, -1, -1,1⟩) ((top:Int)-1) t:=by
   rw[←em];exact(hI.rep.app ⟨0,0,0,0,0⟩).frame (fun k hk=>getD_set_ne _ (by rintro rfl;exact hjt hk)) List.length_set
  rw[em]at N5;clear HO3 HS3 HA3 HW3 HR3 HD3 hS hC O4 K4 W4 R4 D4 O5 S5' hlen;rw[ej]at N5 A5 S5 R5 D5;have HQ:=zH (And.intro N5 (And.intro A5 (And.intro S5 (And.intro R5 D5))));clear N5 A5 S5 R5 D5;go_wp2_with fail
  refine wp_named (fun W=>NsAt W g4 T b pa (.slice (some ⟨bb,off,none⟩) m.length cap) (top:Nat) (ks.length:Nat) m∧At W s 169 #[.int .u64 k1, .int .u64 k2]∧Sli W g4 0 3 1 vw (wayT t (k1,k2)).length (ints (wayT t (k1,k2)))∧ArAt W g4 (T+2) pa us' fr'∧Chg w W g g4 T (T+5)) HQ.out (fun w5 h5=> ?_);obtain⟨N5,A5,S5,R5,D5⟩:=h5;clear p1 f1;obtain⟨q1,qO,qS,qne,qc,qf⟩:=ns_at N5;have r0:=qc j _ (getD_some hjl) 0 (by omega);have r1:=qc j _ (getD_some hjl) 1 (by omega);have r2:=qc j _ (getD_some hjl) 2 (by omega);have r3:=qc j _ (getD_some hjl) 3 (by omega);have r4:=qc j _ (getD_some hjl) 4 (by omega);simp only[ndl,List.getElem?_cons_zero,List.getElem?_cons_succ,Nat.add_zero]at r0 r1 r2 r3 r4;have f0:=qf (off+j*5);have f1:=qf (off+j*5+1);have f2:=qf (off+j*5+2);have f3:=qf (off+j*5+3);have f4:=qf (off+j*5+4);have y0:=A5.cell 0;have y1:=A5.cell 1;simp only[List.getElem?_toArray,List.getElem?_cons_zero,List.getElem?_cons_succ]at y0 y1;have gbb:=qS.tag_.1;have NP:=ns_put N5 hjl ⟨k1,k2, -1, -1,1⟩;have GP:=grown_setCells bb (ndl ⟨k1,k2, -1, -1,1⟩) (off+j*5) w5;have RP:ArAt ((w5).setCells bb (off+j*5) (ndl ⟨k1,k2, -1, -1,1⟩)) g4 (T+2) pa us' fr':=by
   obtain⟨u,f,e1,e2,e3⟩:=R5.ex;exact⟨u,f,e1.other GP (by intro e;cases e;have:=e1.2;omega),e2.other GP (fun q hq _=>by cases hq;omega),e3.other GP (fun q hq _=>by cases hq;omega)⟩
  have SP:=S5.other GP (fun q hq _=>by cases hq;omega);have DP:Chg w ((w5).setCells bb (off+j*5) (ndl ⟨k1,k2, -1, -1,1⟩)) g g4 T (T+5):=by
   refine⟨GP.os.trans D5.os,GP.tape.trans D5.tape,GP.output.trans D5.output,Nat.le_trans D5.size GP.size,fun q hq=>D5.tidy q (Nat.le_trans GP.size hq),D5.old,fun q hq ht=>(GP.block q (Nat.lt_of_lt_of_le hq D5.size) fun e=> ?_).trans (D5.kept q hq ht)⟩;cases e
   have:=D5.old _ hq;omega
  have hnd5:ndl ⟨k1,k2, -1, -1,1⟩=[.int .u64 k1, .int .u64 k2, .int .i64 (-1), .int .i64 (-1), .int .i64 1]:=rfl;rw[hnd5,setCells5]at NP RP SP DP;have NP:=NP.drewN 1;have RP:=RP.below (Below.drew (Below.refl _ _));have SP:=SP.drew;have DP:=DP.drew;have HNP:=zH NP;have HRP:=zH RP;have HSP:=zH SP;have HDP:=zH DP;obtain⟨hz,hnd,hidx⟩:=hang_zip (ms:=(m).set j ⟨k1,k2, -1, -1,1⟩) hI.rep (hG5.set j _ (.inl rfl) (.inl rfl)) (k1,k2) (by rw[hI.keys];exact hI.rise) hI.nd j (by rw[List.length_set];exact hjl) hjt (getD_set_eq _ hjl) hR5;have hiz:(iz [j] (frT (k1,k2) t [])).length≤300:=by
   have:(iz [j] (frT (k1,k2) t [])).length≤(j::t.idx).length:=nodup_len hnd fun x hx=>List.mem_cons.2 ((hidx x).1 hx)
   simp only[List.length_cons]at this;omega
  have hml:((m).set j ⟨k1,k2, -1, -1,1⟩).length≤8:=by rw[List.length_set];exact hm8
  clear hnd5 qO qS qc NP GP RP SP DP N5 A5 S5 R5 D5 hG5 hR5;go_region
  refine q_named (fun W=>NsAt W g4 T b pa (.slice (some ⟨bb,off,none⟩) (m).length cap) (top:Nat) (ks.length:Nat) ((m).set j ⟨k1,k2, -1, -1,1⟩)∧ArAt W g4 (T+2) pa us' fr'∧Sli W g4 0 3 1 vw (wayT t (k1,k2)).length (ints (wayT t (k1,k2)))∧Chg w W g g4 T (T+5)) ⟨HNP.out,HRP.out,HSP.out,HDP.out⟩ (fun W hW=> ?_);obtain⟨NW,RW,SW,DW⟩:=hW;have z3:=NW.ex.1.1.cell 3;have fz3:=NW.ex.1.1.free 3;simp only[List.getElem?_toArray,List.getElem?_cons_zero,List.getElem?_cons_succ]at z3;have NW3:=ns_size NW ((ks.length:Nat)+1);have RW3:ArAt (W.setCell ⟨b,3,none⟩ (.int .i64 ((ks.length:Nat)+1))) g4 (T+2) pa us' fr':=by
   obtain⟨u,f,e1,e2,e3⟩:=RW.ex;have gb:=NW.lt.2;exact⟨u,f,e1.other (grown_set W b 3 _) (by intro e;cases e;have:=e1.2;omega),e2.other (grown_set W b 3 _) (fun q hq _=>by cases hq;omega),e3.other (grown_set W b 3 _) (fun q hq _=>by cases hq;omega)⟩
  have SW3:=SW.set_other (p:=⟨b,3,none⟩) (.int .i64 ((ks.length:Nat)+1)) (by show g4 b≠0;have:=NW.lt.2;omega);have DW3:=DW.set (b:=b) (i:=3) (fun hb=>by have:=NW.lt.2;have:=DW.old b hb;omega) (.int .i64 ((ks.length:Nat)+1));have hfw:(frT (k1,k2) t []).map FR.up=(wayT t (k1,k2)).reverse:=by rw[frT_way (k1,k2) t [] (by rw[hI.keys];exact hk)];simp
  have SW4:Sli (W.setCell ⟨b,3,none⟩ (.int .i64 ((ks.length:Nat)+1))) g4 0 3 1 vw ((frT (k1,k2) t []).map FR.up).length (ints ((frT (k1,k2) t []).map FR.up).reverse):=by rw[hfw,List.length_reverse,List.reverse_reverse];exact SW3
  clear SW3;have CH:=zH (rbhang_any b pa _ vw _ _ (insK (k1,k2) t.keys) _ _ (by rw[List.length_set];omega) hnd hiz (frT (k1,k2) t []) j k1 k2 _ hz (fun f hf=>by rw[frT_head (k1,k2) t [] (fun _ h=>by cases h) f hf,decide_eq_decide];exact(cmpK_lt _ _).symm) g4 T hT0 _ DW3.tidy NW3 SW4);have HD3:=zH DW3;have HR3:=zH RW3;clear NW RW SW DW NW3 RW3 SW4 DW3 hz;go_wp2_with fail
  refine CH.out.mono ?_;rintro e w6 ⟨i',ms,t',⟨ve,rfl⟩,C6,N6,e1,e2,e3,e4,e5⟩;have HF:=zH (HD3.out.trans (C6.mono (Nat.le_refl _) (by omega)));have HN6:=zH N6;have HR6:=zH (HR3.out.chg C6 (.inr (by omega)));clear C6 N6;go_wp2_with fail
  go_ret
  have hlt8:=e1.top (by omega);obtain⟨top',et⟩: ∃ top':Nat,i'+1=(top':Int):=⟨(i'+1).toNat,by omega⟩;have N6:=HN6.out;rw[et]at N6;have hl1:((insK (k1,k2) ks).length:Int)=(ks.length:Nat)+1:=by rw[insK_len];omega
  rw[←hl1]at N6;exact⟨_,rfl,HF.out,⟨pa,(.slice (some ⟨bb,off,none⟩) (m).length cap),top',ms,us',fr',t',N6,HR6.out,hI.put (k1,k2) hk j (by rw[←et,Int.add_sub_cancel];exact e1) e2 (by rw[e4,hI.keys]) (by rw[e5];exact hnd) (by rw[e5];exact hidx) (.inr ⟨hfr,hfr',by have:=hI.same;omega,hus,by rw[e3,List.length_set,←em];simp⟩) (by omega)⟩⟩
end
section
open Go.RowKit Go.Lib
theorem kz_mid: ∀ fs:List FR,∃ P S,∀ X,kz X fs=P++X++S
 | []=>⟨[],[],fun X=>by simp[kz]⟩
 | f::r=>by
  obtain⟨P,S,h⟩:=kz_mid r;by_cases hl:f.left=true
  ·exact⟨P,(f.a,f.b)::f.sib.keys++S,fun X=>by rw[kz,if_pos hl,h];simp⟩
  ·exact⟨P++(f.sib.keys++[(f.a,f.b)]),S,fun X=>by rw[kz,if_neg hl,h];simp⟩
def frD (k:KY):TT→List FR→Option (List FR×Nat×TT×TT)
 | .nil,_=>none
 | .node i a b l r,acc=>if klt k (a,b)then frD k l (⟨i,a,b,true,r⟩::acc)else if klt (a,b) k then frD k r (⟨i,a,b,false,l⟩::acc)else some (acc,i,l,r)
theorem klt_eq {x y:KY} (h1: ¬ klt x y) (h2: ¬ klt y x):x=y:=by
 unfold klt at*;exact Prod.ext (by omega) (by omega)
theorem frD_some (k:KY) (t:TT): ∀ acc,t.keys.Pairwise klt→k∈t.keys→ ∃ q,frD k t acc=some q:=by
 induction t with
 | nil=>intro acc _ h;simp[TT.keys]at h
 | node i a b l r ihl ihr=>
  intro acc hp hk;simp only[TT.keys]at hp hk;obtain⟨pl,pr,plr⟩:=List.pairwise_append.1 hp;obtain⟨pr1,pr2⟩:=List.pairwise_cons.1 pr;rw[frD];split
  ·rename_i h
   refine ihl _ pl ?_;rcases List.mem_append.1 hk with h1 | h1
   ·exact h1
   ·rcases List.mem_cons.1 h1 with rfl | h1
    ·exact absurd h (klt_irr _)
    ·exact absurd h (klt_asym (pr1 k h1))
  ·split
   ·rename_i h
    refine ihr _ pr2 ?_;rcases List.mem_append.1 hk with h1 | h1
    ·exact absurd h (klt_asym (plr k h1 _ (List.mem_cons_self ..)))
    ·rcases List.mem_cons.1 h1 with rfl | h1
     ·exact absurd h (klt_irr _)
     ·exact h1
   ·exact⟨_,rfl⟩
theorem frD_facts (k:KY) {ns:List ND} (t:TT): ∀ {i0:Int} {acc fs:List FR} {x:Nat} {l r:TT},frD k t acc=some (fs,x,l,r)→Rep ns i0 t→Ctx ns i0 acc→
  Ctx ns x fs∧x<ns.length∧((ns.getD x default).ka,(ns.getD x default).kb)=k∧Rep ns (ns.getD x default).l l∧Rep ns (ns.getD x default).r r∧
  kz (l.keys++k::r.keys) fs=kz t.keys acc∧(∀ y,cz y fs+l.idx.count y+r.idx.count y+[x].count y=cz y acc+t.idx.count y)∧
  (wayT t k).reverse++acc.map FR.up=x::fs.map FR.up:=by
 induction t with
 | nil=>intro i0 acc fs x l r h;cases h
 | node i a b tl tr ihl ihr=>
  intro i0 acc fs x l r h hr hc;obtain⟨rfl,h2,h3,h4,h5,h6,h7⟩:=hr;rw[frD]at h;split at h
  ·rename_i hk
   obtain⟨g1,g2,g3,g4,g5,g6,g7,g8⟩:=ihl h h6 ⟨h2,h3,h4,by rw[if_pos rfl];exact⟨rfl,h7⟩,hc⟩;refine⟨g1,g2,g3,g4,g5, ?_,fun y=> ?_, ?_⟩
   ·rw[g6,kz,if_pos rfl];rfl
   ·have:=g7 y
    rw[cz]at this;simp only[TT.idx,List.count_append,List.count_cons,beq_iff_eq]at this ⊢;omega
   ·rw[←g8,wayT,if_pos ((cmpK_lt _ _).2 hk)]
    simp
  ·rename_i hk
   split at h
   ·rename_i hk2
    obtain⟨g1,g2,g3,g4,g5,g6,g7,g8⟩:=ihr h h7 ⟨h2,h3,h4,by rw[if_neg (by simp)];exact⟨rfl,h6⟩,hc⟩;refine⟨g1,g2,g3,g4,g5, ?_,fun y=> ?_, ?_⟩
    ·rw[g6,kz,if_neg (by simp)];rfl
    ·have:=g7 y
     rw[cz]at this;simp only[TT.idx,List.count_append,List.count_cons,beq_iff_eq]at this ⊢;omega
    ·rw[←g8,wayT,if_neg fun h'=>hk ((cmpK_lt _ _).1 h'),if_pos ((cmpK_gt _ _).2 hk2)]
     simp
   ·rename_i hk2
    have e:=klt_eq hk hk2;cases h
    subst e;refine⟨hc,h2,by rw[h3,h4],h6,h7,rfl,fun y=> ?_, ?_⟩
    ·simp only[TT.idx,List.count_append,List.count_cons,List.count_nil,beq_iff_eq]
     omega
    ·rw[wayT,if_neg fun h'=>hk ((cmpK_lt _ _).1 h'),if_neg fun h'=>hk2 ((cmpK_gt _ _).1 h')]
     simp
theorem found_yes {ns:List ND} {k:KY} {ws:List Nat} {x:Nat} (h:((ns.getD x default).ka,(ns.getD x default).kb)=k):foundA ns (ws++[x]) k=(x:Nat):=by
 unfold foundA;simp only[List.getLast?_append,List.getLast?_singleton,Option.some_or];rw[if_pos h]
def fL:TT→List FR→List FR
 | .nil,acc=>acc
 | .node j a b l r,acc=>match l with
  | .nil=>acc
  | .node .. =>fL l (⟨j,a,b,true,r⟩::acc)
def mnI:TT→Nat
 | .nil=>0
 | .node j _ _ l _=>match l with
  | .nil=>j
  | .node .. =>mnI l
def mnR:TT→TT
 | .nil=> .nil
 | .node _ _ _ l r=>match l with
  | .nil=>r
  | .node .. =>mnR l
theorem fL_facts (t:TT) (ht:t≠ .nil): ∃ k rest,t.keys=k::rest∧
  (∀ acc,kz (mnR t).keys (fL t acc)=kz rest acc)∧
  (∀ acc y,cz y (fL t acc)+(mnR t).idx.count y+[mnI t].count y=cz y acc+t.idx.count y)∧
  (∀ acc,(leastT t).reverse++acc.map FR.up=mnI t::(fL t acc).map FR.up)∧
  ∀ {ns:List ND} {i:Int} {acc:List FR},Rep ns i t→Ctx ns i acc→Ctx ns (mnI t) (fL t acc)∧mnI t<ns.length∧((ns.getD (mnI t) default).ka,(ns.getD (mnI t) default).kb)=k∧(ns.getD (mnI t) default).l= -1∧Rep ns (ns.getD (mnI t) default).r (mnR t):=by
 induction t with
 | nil=>exact absurd rfl ht
 | node j a b l r ihl ihr=>
  cases l with
  | nil=>
   refine⟨(a,b),r.keys,rfl,fun acc=>rfl,fun acc y=> ?_,fun acc=>by simp[leastT,mnI,fL],fun {ns i acc} hr hc=> ?_⟩
   ·simp only[fL,mnR,mnI,TT.idx,List.nil_append,List.count_cons,List.count_nil,beq_iff_eq]
    omega
   ·obtain⟨rfl,h2,h3,h4,h5,h6,h7⟩:=hr
    exact⟨hc,h2,by rw[show mnI (.node j a b .nil r)=j from rfl,h3,h4],h6,h7⟩
  | node lj la lb ll lr=>
   obtain⟨k,rest,q1,q2,q3,q4,q5⟩:=ihl (by simp);refine⟨k,rest++(a,b)::r.keys,by rw[TT.keys,q1];rfl,fun acc=> ?_,fun acc y=> ?_,fun acc=> ?_,fun {ns i acc} hr hc=> ?_⟩
   ·show kz (mnR (.node lj la lb ll lr)).keys (fL (.node lj la lb ll lr) (⟨j,a,b,true,r⟩::acc))=_
    rw[q2,kz,if_pos rfl]
   ·have:=q3 (⟨j,a,b,true,r⟩::acc) y
    rw[cz]at this;show cz y (fL (.node lj la lb ll lr) (⟨j,a,b,true,r⟩::acc))+(mnR (.node lj la lb ll lr)).idx.count y+[mnI (.node lj la lb ll lr)].count y=_
    rw[this];show _=cz y acc+((TT.node lj la lb ll lr).idx++j::r.idx).count y
    simp only[List.count_append,List.count_cons,beq_iff_eq];omega
   ·show(j::leastT (.node lj la lb ll lr)).reverse++_=mnI (.node lj la lb ll lr)::(fL (.node lj la lb ll lr) (⟨j,a,b,true,r⟩::acc)).map FR.up
    rw[←q4];simp
   ·obtain⟨rfl,h2,h3,h4,h5,h6,h7⟩:=hr
    exact q5 h6 ⟨h2,h3,h4,by rw[if_pos rfl];exact⟨rfl,h7⟩,hc⟩
end
section
open Go.RowKit Go.Lib
theorem rise_nodup {l:List KY} (h:l.Pairwise klt):l.Nodup:=List.Pairwise.imp (R:=klt) (fun {a b} (h:klt a b) (e:a=b)=>klt_irr b (by rw[e]at h;exact h)) h
theorem kz_nil (l:List KY):kz l []=l:=rfl
theorem kz_mem {x:KY} {l:List KY} (fs:List FR) (h2:List KY) (h:x∈l):x∈kz l fs:=by
 obtain⟨P,S,hm⟩:=kz_mid fs;rw[hm];simp[h]
theorem erase_zip {ks A B:List KY} {k:KY} {fs:List FR} (hp:ks.Pairwise klt) (h:kz (A++k::B) fs=ks):kz (A++B) fs=ks.erase k:=by
 obtain⟨P,S,hm⟩:=kz_mid fs;have nd:=rise_nodup hp;rw[hm]at h ⊢;subst h;have e:P++(A++k::B)++S=(P++A)++k::(B++S):=by simp
 rw[e]at nd ⊢;have hk:k ∉ P++A:=fun hm=>(List.nodup_append.1 nd).2.2 k hm k (List.mem_cons_self ..) rfl
 rw[List.erase_append_right _ hk,List.erase_cons_head];simp
theorem drop_zip {ns:List ND} {x:Nat} {ki:Int} {kid t:TT} {fs:List FR} {K:List KY} (hc:Ctx ns x fs) (hr:Rep ns ki kid) (hg:Good ns) (hK:kz kid.keys fs=K) (nd:t.idx.Nodup)
  (hcnt: ∀ y,cz y fs+kid.idx.count y+[x].count y=t.idx.count y):
  Zip ns x ki kid fs K (iz kid.idx fs) ns.length∧(iz kid.idx fs).Nodup∧ ∀ y,y∈iz kid.idx fs↔y∈t.idx∧y≠x:=by
 have h1:=List.nodup_iff_count.1 nd;have hx:[x].count x=1:=by simp
 have h2: ∀ y,(iz kid.idx fs).count y=kid.idx.count y+cz y fs:=fun y=>count_iz y fs _
 refine⟨⟨hr,hc,hg,rfl,hK,rfl,fun f hf _ _ y hy e=> ?_⟩,List.nodup_iff_count.2 fun y=>by rw[h2];have:=hcnt y;have:=h1 y;omega,fun y=> ?_⟩
 ·have e':y=x:=by omega
  subst e';have:=cz_pos hf (.inr hy);have:=hcnt y;have:=h1 y;omega
 ·rw[←List.count_pos_iff,h2]
  have h3:=hcnt y;have h4:=h1 y;by_cases e:y=x
  ·subst e
   constructor
   ·intro h;omega
   ·intro h;exact absurd rfl h.2
  ·have h5:[x].count y=0:=List.count_eq_zero.2 (by simpa using e)
   rw[h5]at h3;constructor
   ·intro h;exact⟨List.count_pos_iff.1 (by omega),e⟩
   ·intro h;have:=List.count_pos_iff.2 h.1;omega
theorem delA {ns:List ND} {i0:Int} {t:TT} {k:KY} {fs:List FR} {x:Nat} {l r:TT} (hf:frD k t []=some (fs,x,l,r)) (hr:Rep ns i0 t) (hg:Good ns) (hp:t.keys.Pairwise klt) (nd:t.idx.Nodup) (hlr:l= .nil∨r= .nil):
  Zip ns x (if(ns.getD x default).l= -1 then(ns.getD x default).r else(ns.getD x default).l) (match l with | .nil=>r | .node .. =>l) fs (t.keys.erase k) (iz (match l with | .nil=>r | .node .. =>l).idx fs) ns.length∧
   (iz (match l with | .nil=>r | .node .. =>l).idx fs).Nodup∧ ∀ y,y∈iz (match l with | .nil=>r | .node .. =>l).idx fs↔y∈t.idx∧y≠x:=by
 obtain⟨g1,g2,g3,g4,g5,g6,g7,g8⟩:=frD_facts k t hf hr trivial;have hK:=erase_zip (A:=l.keys) (B:=r.keys) hp (by rw[g6];rfl);cases l with
 | nil=>
  rw[if_pos (show _=_ from g4)];refine drop_zip g1 g5 hg (by simpa [TT.keys]using hK) nd fun y=> ?_
  have:=g7 y;simp only[TT.idx,List.count_nil,cz]at this;simp only
  omega
 | node j a b ll lr=>
  have h1:(ns.getD x default).l≠ -1:=by
   have:=g4.1;omega
  rw[if_neg h1];rcases hlr with h | h
  ·cases h
  ·subst h
   refine drop_zip g1 g4 hg (by simpa [TT.keys]using hK) nd fun y=> ?_
   have:=g7 y;simp only[TT.idx,List.count_nil,cz]at this ⊢;omega
theorem delB {ns:List ND} {i0:Int} {t:TT} {k:KY} {fs:List FR} {x:Nat} {l r:TT} (hf:frD k t []=some (fs,x,l,r)) (hr:Rep ns i0 t) (hg:Good ns) (hp:t.keys.Pairwise klt) (nd:t.idx.Nodup) (hrn:r≠ .nil):
  ∃ n,leastT r=(leastT r).dropLast++[n]∧n<ns.length∧n∈t.idx∧n≠x∧
   ∃ ms,ms=ns.set x { ns.getD x default with ka:=(ns.getD n default).ka,kb:=(ns.getD n default).kb }∧(ms.getD n default).l= -1∧
   ∃ kid fs2,(wayT t k++leastT r).reverse=n::fs2.map FR.up∧
    Zip ms n (ms.getD n default).r kid fs2 (t.keys.erase k) (iz kid.idx fs2) ms.length∧(iz kid.idx fs2).Nodup∧ ∀ y,y∈iz kid.idx fs2↔y∈t.idx∧y≠n:=by
 obtain⟨g1,g2,g3,g4,g5,g6,g7,g8⟩:=frD_facts k t hf hr trivial;obtain⟨k',rest,q1,q2,q3,q4,q5⟩:=fL_facts r hrn;obtain⟨_,p2,p3,p4,p5⟩:=q5 (acc:=[]) g5 trivial;have hcnt:=List.nodup_iff_count.1 nd;have hx:[x].count x=1:=by simp
 have hnr:0<r.idx.count (mnI r):=by
  have:=q3 [] (mnI r);simp only[cz,List.count_singleton_self]at this;omega
 have hnx:mnI r≠x:=by
  intro e;have h1:=g7 (mnI r);have h2:=hcnt (mnI r);rw[e,hx]at h1;rw[e]at h2 hnr;simp only[cz]at h1;omega
 have hll:leastT r=(leastT r).dropLast++[mnI r]:=by
  have:=congrArg List.reverse (q4 []);simp only[List.map_nil,List.append_nil,List.reverse_reverse,List.reverse_cons]at this;rw[this,List.dropLast_concat]
 have hnt:mnI r∈t.idx:=by
  have:=g7 (mnI r);simp only[cz]at this;exact List.count_pos_iff.1 (by omega)
 refine⟨mnI r,hll,p2,hnt,hnx,_,rfl, ?_⟩;obtain⟨ms,em⟩: ∃ ms,ns.set x { ns.getD x default with ka:=(ns.getD (mnI r) default).ka,kb:=(ns.getD (mnI r) default).kb }=ms:=⟨_,rfl⟩;have eo: ∀ y,y≠x→ms.getD y default=ns.getD y default:=fun y hy=>by rw[←em];exact getD_set_ne _ (Ne.symm hy)
 have ee:ms.getD x default={ ns.getD x default with ka:=(ns.getD (mnI r) default).ka,kb:=(ns.getD (mnI r) default).kb }:=by rw[←em];exact getD_set_eq _ g2
 have el:ms.length=ns.length:=by rw[←em];exact List.length_set
 have gm:Good ms:=by rw[←em];exact hg.set x _ (hg x g2).1 (hg x g2).2
 rw[em];have nin: ∀ y,0<cz y fs+l.idx.count y+r.idx.count y→y≠x:=by
  rintro y h rfl;have h1:=g7 y;have h2:=hcnt y;rw[hx]at h1;simp only[cz]at h1;omega
 have rl:Rep ms (ns.getD x default).l l:=g4.frame (fun y hy=>eo y (nin y (by have:=List.count_pos_iff.2 hy;omega))) el;have rr:Rep ms (ns.getD x default).r r:=g5.frame (fun y hy=>eo y (nin y (by have:=List.count_pos_iff.2 hy;omega))) el;have cc:Ctx ms x fs:=g1.frame el fun y hy=>eo y (nin y (by omega))
 have ca:Ctx ms (ns.getD x default).r (⟨x,k'.1,k'.2,false,l⟩::fs):=by
  refine⟨by show x<ms.length;omega, ?_, ?_, ?_,cc⟩
  ·rw[ee,←p3]
  ·rw[ee,←p3]
  ·rw[if_neg (by simp),ee];exact⟨rfl,rl⟩
 obtain⟨s1,s2,s3,s4,s5⟩:=q5 rr ca;refine⟨s4,mnR r,fL r (⟨x,k'.1,k'.2,false,l⟩::fs), ?_,drop_zip s1 s5 gm ?_ nd fun y=> ?_⟩
 ·rw[←q4,List.reverse_append]
  congr 1
  have:=g8;simp only[List.map_nil,List.append_nil]at this;rw[this];rfl
 ·rw[q2,kz,if_neg (by simp),←q1]
  exact erase_zip (A:=l.keys) (B:=r.keys) hp (by rw[g6];rfl)
 ·rw[q3,cz]
  have:=g7 y;simp only[cz,List.count_singleton,beq_iff_eq]at this ⊢;omega
theorem TrIn.del {ns ms:List ND} {top top':Nat} {us:List Bool} {fr:List Nat} {t t':TT} {ks:List KY} (h:TrIn ns top us fr t ks) (k:KY) (x:Nat) (hx:x∈t.idx)
  (hr:Rep ms ((top':Int)-1) t') (hg:Good ms) (hkeys:t'.keys=ks.erase k) (hnd:t'.idx.Nodup) (hidx: ∀ y,y∈t'.idx↔y∈t.idx∧y≠x) (hl:ms.length=ns.length):
  TrIn ms top' (us.set x false) (fr++[x]) t' (ks.erase k):=by
 have hux:=h.used x hx;refine⟨hr,hg,hkeys,h.rise.sublist List.erase_sublist,hnd,by rw[List.length_set,h.same,hl],by rw[hl];exact h.room, ?_, ?_, ?_, ?_⟩
 ·intro i hi
  by_cases e:x=i
  ·subst e
   rw[List.getElem?_set_self (List.getElem?_eq_some_iff.1 hux).1]
  ·rw[List.getElem?_set_ne e]
   rcases List.mem_append.1 hi with h1 | h1
   ·exact h.free i h1
   ·exact absurd (by simpa using h1) (Ne.symm e)
 ·intro i hi
  obtain⟨h1,h2⟩:=(hidx i).1 hi;rw[List.getElem?_set_ne (Ne.symm h2)];exact h.used i h1
 ·intro i hi
  rw[hidx];by_cases e:i=x
  ·exact .inr (by simp[e])
  ·rcases h.all i (by omega)with h1 | h1
   ·exact .inl ⟨h1,e⟩
   ·exact .inr (List.mem_append_left _ h1)
 ·refine List.nodup_append.2 ⟨h.ndf,by simp,fun a ha b hb e=> ?_⟩
  have hb':b=x:=by simpa using hb
  have:=h.free a ha;rw[e,hb',hux]at this;cases this
end
end Go.Proofs.YtojgokiobdpclaaGreat
