import Derived.Test.YtojgokiobdpclaaGreatP16
import Derived.RangeFuncNested
import Derived.RangeFuncBound
import Derived.RangeFuncCalls
import Derived.RangeFuncLeaves
import Derived.RangeFuncBox
import Derived.Shelf.Abstract
import Derived.Shelf.RegionOpen
import Derived.OwnWalkIn
import Derived.TacticsInMore
import Derived.LoopNIn
import Derived.LoopIn
import Derived.Lib.Hide
import Derived.Deep.DeepCutAuto
import Derived.Deep.RegionHeld3
namespace Go.Proofs.YtojgokiobdpclaaGreat
set_option linter.unusedVariables false
set_option linter.unusedSimpArgs false
set_option maxRecDepth 8000
set_option maxHeartbeats 8000000
section
open Go.RowKit Go.Lib Go.Shelf
attribute [local go_sem] Oper.semAt_some
structure LsAt (w:World) (g:Nat→Nat) (T b:Nat) (fr od:List Nat):Prop where
 ex: ∃ vf vo,Of w g T b 150 #[vf,vo]∧Sli w g (T+1) 3 1 vf fr.length (ints fr)∧Sli w g (T+2) 3 1 vo od.length (ints od)
def lall (fr od:List Nat):List (Nat×Bool):=fr.map (fun k=>(k,true))++od.map (fun k=>(k,false))
def lenc (x:Nat×Bool):Array Value:= #[.int .i64 (x.1:Nat), .bool x.2]
theorem lall_len (fr od:List Nat):(lall fr od).length=(fr++od).length:=by simp[lall]
theorem lall_at (fr od:List Nat) (k:Nat) (h:k<(fr++od).length):(lall fr od)[k]? =some ((fr++od).getD k 0,decide (k<fr.length)):=by
 unfold lall;by_cases hk:k<fr.length
 ·rw[List.getElem?_append_left (by simpa using hk)]
  simp[hk,List.getD_eq_getElem?_getD,List.getElem?_append_left hk]
 ·rw[List.getElem?_append_right (by simpa using hk)]
  have h2:k-fr.length<od.length:=by simp at h;omega
  simp[hk,List.getD_eq_getElem?_getD,List.getElem?_append_right (Nat.not_lt.1 hk),h2]
theorem ints_at {l:List Nat} {k:Nat} (h:k<l.length):(ints l)[k]? =some (.int .i64 (l.getD k 0:Nat)):=by
 unfold ints;rw[List.getElem?_map,List.getElem?_eq_getElem h];simp[List.getD_eq_getElem?_getD,List.getElem?_eq_getElem h]
theorem take_snoc {α:Type} {l:List α} {k:Nat} {x:α} (h:l[k]? =some x):l.take (k+1)=l.take k++[x]:=by
 rw[List.take_add_one,h];rfl
structure KpT (S:TypeId→Prop) (W W':World):Prop where
 size:W.heap.size≤W'.heap.size
 kept: ∀(k:Nat) (cs:Array Value) (t:TypeId) (fr:Nat×Nat),W.heap[k]? =some (.cells cs t fr)→ ¬ S t→W'.heap[k]? =some (.cells cs t fr)
section
variable {S:TypeId→Prop} {A B C:World}
theorem KpT.refl (S:TypeId→Prop) (A:World):KpT S A A:=⟨Nat.le_refl _,fun _ _ _ _ h _=>h⟩
theorem KpT.trans (h:KpT S A B) (k:KpT S B C):KpT S A C:=⟨Nat.le_trans h.size k.size,fun j cs t fr hj hs=>k.kept j cs t fr (h.kept j cs t fr hj hs) hs⟩
theorem KpT.put (W:World) (l:Nat) (o o':Obj) (h:W.heap[l]? =some o) (hc:o.isCells=false):KpT S W (W.putObj l o'):=
 ⟨(grownBy_putObj' W l o').size,fun k cs t fr hk _=>by
  refine((grownBy_putObj' W l o').block k (lt_of_heap hk) fun e=> ?_).trans hk;cases e
  rw[h]at hk;cases hk
  cases hc⟩
theorem KpT.below (h:Below A.heap.size A B):KpT S A B:=⟨h.size,fun k cs t fr hk _=>(h.block k (lt_of_heap hk)).trans hk⟩
theorem block_of_cell {W:World} {b j:Nat} {v:Value} (h:W.cell? ⟨b,j,none⟩=some v): ∃ cs t,∃ fr:Nat×Nat,W.heap[b]? =some (.cells cs t fr)∧cs[j]? =some v:=by
 unfold World.cell? at h;cases hb:W.heap[b]? with
 | none=>rw[hb]at h;simp at h
 | some o=>
  rw[hb]at h;cases o with
  | cells cs t fr=>exact⟨cs,t,fr,rfl,by simpa using h⟩
  | _=>simp at h
theorem KpT.cell (h:KpT (fun _=>False) A B) {b j:Nat} {v:Value} (hc:A.cell? ⟨b,j,none⟩=some v):B.cell? ⟨b,j,none⟩=some v:=by
 obtain⟨cs,t,fr,hb,hj⟩:=block_of_cell hc;have:=h.kept b cs t fr hb (fun h=>h);simp[World.cell?,this,hj]
end
set_option maxRecDepth 100000 in
theorem lsall1_in (n:Nat) (hn:1≤n) (l Bs b:Nat) (fr od:List Nat) (hf:fr.length≤8) (ho:od.length≤8) (J Jx:List (Nat×Bool)→World→Prop)
  (hY: ∀ pre x W,J pre W→pre.length<(lall fr od).length→YieldAt Fence.wide (n-1) Tryz.prog l (lenc x) W fun e W'=>
   (e= .returned (.bool true)∧J (pre++[x]) W'∧KpT (fun _=>False) W W')∨(e= .returned (.bool false)∧Jx (pre++[x]) W'))
  (W:World) (hBs:W.cell? ⟨Bs,0,none⟩=some (.pointer (some ⟨b,0,none⟩))) (g:Nat→Nat) (T:Nat) (hL:LsAt W g T b fr od)
  (hJ: ∀ pre W W',J pre W→Below W.heap.size W W'→J pre W') (h0:J [] W):
  CallsIn Fence.wide n Tryz.prog 149 #[.func (.yield l) #[] #[], .pointer (some ⟨Bs,0,none⟩)] W fun e W'=>(∃ v,e= .returned v)∧
   ((∃ ys,ys=lall fr od∧J ys W')∨(∃ pre,pre<+:lall fr od∧Jx pre W')):=by
 obtain⟨vf,vo,hS,hF,hO⟩:=hL.ex;have c0:=hS.1.ce 0;have c1:=hS.1.ce 1;obtain⟨af,kf,rfl,mf⟩:=hF.rd.form;obtain⟨ao,ko,rfl,mo⟩:=hO.rd.form;refine callsIn_of_wp Tryz.func149 rfl trivial ?_ rfl;simp only[Tryz.ntmps149,List.size_toArray,List.length_cons,List.length_nil,Nat.reduceAdd,Nat.reduceSub,Array.replicate_succ,Array.replicate_zero,List.push_toArray,List.append_toArray,List.nil_append,List.cons_append];have CC:Hid (∀(b0:Nat) w,Below W.heap.size W w→At w b0 39 #[.slice af fr.length kf, .slice ao od.length ko]→Calls Tryz.prog 150 #[.slice (some ⟨b0,0,none⟩) 2 2] w fun e w'=> ∃ a cap,e= .returned (.slice a (fr++od).length cap)∧Rd w' (.slice a (fr++od).length cap) 1 (fr++od).length (ints (fr++od))∧Below w.heap.size w w'):=
  zH fun b0 w hB hA=>(concat_any b0 _ _ fr od w hA (hF.rd.below hB) (hO.rd.below hB) hf ho).mono fun e w' ⟨⟨v,he,hr⟩,hb⟩=>by obtain⟨a,cap,rfl,_⟩:=hr.form;exact⟨a,cap,he,hr,hb⟩
 obtain⟨NF,eNF⟩: ∃ NF,fr.length=NF:=⟨_,rfl⟩;obtain⟨NO,eNO⟩: ∃ NO,od.length=NO:=⟨_,rfl⟩;rw[eNF]at c0;rw[eNO]at c1;have hblt:=hS.1.lt;have HH:=zH (And.intro hF hO);have HY:=zH hY;have HM:=zH (And.intro mf mo);clear hF hO hL hY hS mf mo;gi_wp2
 gi_region_with (refine⟨trivial, ?_⟩;gi_at_call 150;refine(callsIn_wide.2 (CC.out W.heap.size _ (((Below.refl W.heap.size W).alloc (Nat.le_refl _) _).drew) (by subst eNF;subst eNO;exact(At.made W _ _).drew))).mono ?_;rintro e w1 ⟨a,cap,rfl,hr,hb⟩)
 all_goals
  have HR:=zH hr;have HB:Hid (Below W.heap.size W w1):=zH ((((Below.refl W.heap.size W).alloc (Nat.le_refl _) _).drew).trans (hb.mono (by simp)));have hNN:NF+NO≤16:=by omega
  have eLL:(lall fr od).length=NF+NO:=by rw[lall_len,List.length_append,eNF,eNO]
  have h01:=hJ _ _ _ h0 HB.out;clear hr hb c0 c1 hBs HM HH CC h0;gi_wp2
  gi_loopw [24] (fun i wr=> ∃ k:Nat,k≤NF+NO∧i= .int .i64 k∧J ((lall fr od).take k) wr∧KpT (fun _=>False) w1 wr) (fun i _=>(NF+NO)-(intOf i).toNat)
  case atStart=>exact⟨0,Nat.zero_le _,rfl,by simpa using h01,KpT.refl _ _⟩
  case round=>
   obtain⟨k,hk,rfl,hJs,hnx⟩:=hrel;by_cases hlt:k<NF+NO
   ·obtain⟨a',cap',ea,_,hx⟩:=HR.out.form
    cases ea
    obtain⟨bb,off,rfl,hbb,hcc⟩:=hx (by rw[List.length_append];omega);have hat:=lall_at fr od k (by rw[List.length_append];omega);rw[eNF]at hat;obtain⟨z,hz⟩: ∃ z,(fr++od).getD k 0=z:=⟨_,rfl⟩;rw[hz]at hat;have hc1:wr.cell? ⟨bb,off+k,none⟩=some (.int .i64 (z:Nat)):=by
     refine hnx.cell ((hcc k (by rw[List.length_append];omega)).trans ?_);have hk':k<(fr++od).length:=by rw[List.length_append];omega
     rw[←hz];exact ints_at hk'
    have hsn:=take_snoc hat;have hfl:=block_of_cell hc1;obtain⟨fn,tmps,assign,body,hy,hR⟩:=HY.out _ (z,decide (k<NF)) wr hJs (by rw[List.length_take,eLL];omega);dsimp only[lenc]at hy
    clear hcc hx hfl;gi_wp2
    refine hR.mono ?_;rintro e W3 (⟨rfl,hJ3,hk3⟩ | ⟨rfl,hJx3⟩)
    ·gi_wp2
     go_roundw
     case rel=>exact⟨k+1,by omega,by simp,by rw[hsn];exact hJ3,hnx.trans hk3⟩
     case measure=>simp[intOf];omega
    ·gi_wp2
     refine bodyPost_ret (results_none rfl _ _ _) rfl ?_;exact⟨⟨_,rfl⟩, .inr ⟨_,⟨(lall fr od).drop (k+1),by rw[←hsn,List.take_append_drop]⟩,hJx3⟩⟩
   ·obtain rfl:k=NF+NO:=by omega
    gi_wp2
    go_end0
    exact⟨⟨_,rfl⟩, .inl ⟨_,rfl,by rw[List.take_of_length_le (by omega)]at hJs;exact hJs⟩⟩
end
section
open Go.RowKit Go.Lib Go.Shelf
attribute [local go_sem] Oper.semAt_some
theorem LsAt.below {w w':World} {g:Nat→Nat} {T b:Nat} {fr od:List Nat} (h:LsAt w g T b fr od) (hb:Below w.heap.size w w'):LsAt w' g T b fr od:=by
 obtain⟨vf,vo,h1,h2,h3⟩:=h.ex;exact⟨vf,vo,h1.below hb,h2.below hb,h3.below hb⟩
theorem below_grown {w w':World} (h:Below w.heap.size w w'):w.grownBy w' none:=⟨h.os,h.tape,h.output,h.size,fun k hk _=>h.block k hk⟩
theorem ls_stops (n:Nat) (hn:1≤n) (Bs b:Nat) (fr od:List Nat) (hf:fr.length≤8) (ho:od.length≤8) (g:Nat→Nat) (T:Nat) (w:World) (hc:w.cell? ⟨Bs,0,none⟩=some (.pointer (some ⟨b,0,none⟩))) (hL:LsAt w g T b fr od):
  SeqStopsK Fence.wide n Tryz.prog 149 #[.pointer (some ⟨Bs,0,none⟩)] lenc (KpT (fun _=>False)) (fun ys=>ys=lall fr od) (fun pre=>pre<+:lall fr od) (lall fr od).length w:=fun l J Jx W hW hA _ hY h0=>
 lsall1_in n hn l Bs b fr od hf ho J Jx hY W ((hW.cell (World.block_lt_of_cell? _ _ hc)).trans hc) g T (hL.below hW)
  (fun pre W1 W2 hj hb=>hA pre W1 W2 none hj (below_grown hb) (by simp)) h0
theorem lsall_any (b:Nat) (w:World):
  Calls Tryz.prog 113 #[.pointer (some ⟨b,0,none⟩)] w fun e w'=>e= .returned (.func (.func 149) #[] #[.pointer (some ⟨w.heap.size,0,none⟩)])∧w'=w.alloc (.cells #[.pointer (some ⟨b,0,none⟩)] 101):=by
 go_enter Tryz.func113,Tryz.ntmps113
 go_wp2;go_ret
 exact⟨rfl,rfl⟩
theorem wpIn_named {F:Fence} {n:Nat} {P:Program} {c:Code} {Q:Exit→Act→World→Prop} {a:Act} {w:World} (Φ:World→Prop) (h0:Φ w) (h: ∀ w',Φ w'→Code.wpIn F n P c Q a w'):Code.wpIn F n P c Q a w:=h w h0
theorem boxed_kept {W W':World} {row:Option Nat} {B B0:Nat} {t:TypeId} {v:Value} (h:Boxed W B t v) (hg:W.grownBy W' row) (hr: ∀ r,row=some r→B0≤r∧ ∃ o:Obj,W.heap[r]? =some o∧o.isCells=false):Boxed W' B t v:=
 h.kept hg fun e=>by
  obtain⟨_,o,ho,hc⟩:=hr B e.symm;rw[show W.heap[B]? =_ from h]at ho;cases ho
  cases hc
def headV (x:Option (Nat×Bool)):Value:=match x with
 | none=> .tuple #[.int .i64 0, .bool false, .bool false]
 | some x=> .tuple #[.int .i64 (x.1:Nat), .bool x.2, .bool true]
set_option maxRecDepth 100000 in
theorem lshead_any (b:Nat) (fr od:List Nat) (hf:fr.length≤8) (ho:od.length≤8) (g:Nat→Nat) (T:Nat) (w:World) (hL:LsAt w g T b fr od):
  Calls Tryz.prog 82 #[.pointer (some ⟨b,0,none⟩)] w fun e W'=>e= .returned (headV (lall fr od).head?)∧Below w.heap.size w W':=by
 refine(callsIn_wide (n:=10)).1 ?_;refine callsIn_of_wp_marks Tryz.func82 rfl trivial ?_ rfl;simp only[Tryz.ntmps82,List.size_toArray,List.length_cons,List.length_nil,Nat.reduceAdd,Nat.reduceSub,Array.replicate_succ,Array.replicate_zero,List.push_toArray,List.append_toArray,List.nil_append,List.cons_append];have C:Hid (∀ w',Calls Tryz.prog 113 #[.pointer (some ⟨b,0,none⟩)] w' fun e w''=>e= .returned (.func (.func 149) #[] #[.pointer (some ⟨w'.heap.size,0,none⟩)])∧w''=w'.alloc (.cells #[.pointer (some ⟨b,0,none⟩)] 101)):=zH (lsall_any b);have hblt:b<w.heap.size:=by obtain⟨vf,vo,h1,h2,h3⟩:=hL.ex;exact h1.1.lt
 have HL:=zH hL;clear hL;gi_wp2_with (refine⟨trivial, ?_⟩;gi_at_call 113;refine(callsIn_wide.2 (C.out _)).mono ?_;rintro e w' ⟨rfl,rfl⟩)
 obtain⟨s,es⟩: ∃ s,w.heap.size=s:=⟨_,rfl⟩;refine wpIn_named (fun W=>Boxed W s 3 (.int .i64 0)∧Boxed W (s+1) 4 (.bool false)∧Boxed W (s+2) 4 (.bool false)∧W.cell? ⟨s+3,0,none⟩=some (.pointer (some ⟨b,0,none⟩))∧W.heap.size=s+4∧Below s w W)
  ?nm ?_
 case nm=>
   subst es;refine⟨(((Boxed.new w _ _).alloc _).alloc _).alloc _, ?_, ?_, ?_,by simp,((((Below.refl _ w).alloc (Nat.le_refl _) _).alloc (by simp) _).alloc (by simp;omega) _).alloc (by simp;omega) _⟩
   ·have:=Boxed.new (w.alloc (.cells #[.int .i64 0] 3)) 4 (.bool false)
    simp only[World.size_alloc]at this;exact(this.alloc _).alloc _
   ·have:=Boxed.new ((w.alloc (.cells #[.int .i64 0] 3)).alloc (.cells #[.bool false] 4)) 4 (.bool false)
    simp only[World.size_alloc]at this;exact this.alloc _
   ·have:=Boxed.new (((w.alloc (.cells #[.int .i64 0] 3)).alloc (.cells #[.bool false] 4)).alloc (.cells #[.bool false] 4)) 101 (.pointer (some ⟨b,0,none⟩))
    simp only[World.size_alloc]at this;exact this.cell
 rintro W ⟨B0,B1,B2,hc3,hsz,hBW⟩;simp only[es,Nat.add_assoc,Nat.reduceAdd];have hLW:LsAt W g T b fr od:=HL.out.below (by rw[es];exact hBW);refine wpIn_rangeFunc_ownF (F:=Fence.wide) rfl (by omega) (gf:=149) (lb:= #[.pointer (some ⟨s+3,0,none⟩)]) rfl trivial (enters_of Tryz.func149 (by kernel_rfl) rfl)
  (ls_stops 9 (by omega) (s+3) b fr od hf ho g T W hc3 hLW) (fun h k=>h.trans k) (fun V l o o' _ h1 h2 _=>KpT.put V l o o' h1 h2) (Below.refl _ _) (fun _=>rfl)
  (fun pre V=>pre=[]∧Boxed V s 3 (.int .i64 0)∧Boxed V (s+1) 4 (.bool false)∧Boxed V (s+2) 4 (.bool false)∧Below s w V)
  (fun c pre V=>c= .ret∧ ∃ x:Nat×Bool,pre=[x]∧Boxed V s 3 (.int .i64 (x.1:Nat))∧Boxed V (s+1) 4 (.bool x.2)∧Boxed V (s+2) 4 (.bool true)∧Below s w V)
  ?hI ?hIx ⟨rfl,B0,B1,B2,hBW⟩
  (fun x=>{ tmps:= #[.pointer (some ⟨b,0,none⟩),undef, .pointer (some ⟨s,0,none⟩), .pointer (some ⟨s+1,0,none⟩), .pointer (some ⟨s+2,0,none⟩), .int .i64 (x.1:Nat), .bool x.2, .pointer (some ⟨b,0,none⟩), .func (.func 149) #[] #[.pointer (some ⟨s+3,0,none⟩)], .int .i64 (x.1:Nat), .bool x.2,undef,undef],defers:=[] }) ?assign ?body ?done ?stop
 case hI=>
  rintro pre A B row ⟨h1,h2,h3,h4,h5⟩ hg hr;exact⟨h1,boxed_kept h2 hg hr,boxed_kept h3 hg hr,boxed_kept h4 hg hr,h5.grown hg (by rw[←es];rw[←es]at h5;exact h5.size) (fun k e=>by have:=(hr k e).1;omega)⟩
 case hIx=>
  rintro c pre A B row ⟨h0,x,h1,h2,h3,h4,h5⟩ hg hr;exact⟨h0,x,h1,boxed_kept h2 hg hr,boxed_kept h3 hg hr,boxed_kept h4 hg hr,h5.grown hg (by rw[←es];rw[←es]at h5;exact h5.size) (fun k e=>by have:=(hr k e).1;omega)⟩
 case assign=>
  intro l x V K hK;simp only[lenc];gi_wp2
  exact hK
 case body=>
  rintro l pre x V ⟨rfl,h2,h3,h4,h5⟩ _;have c0:=h2.cell;have c1:=h3.cell;have c2:=h4.cell;have f0:=h2.frozen;have f1:=h3.frozen;have f2:=h4.frozen;gi_wp2
  have g0:Boxed (((V.setCell ⟨s,0,none⟩ (.int .i64 (x.1:Nat))).setCell ⟨s+1,0,none⟩ (.bool x.2)).setCell ⟨s+2,0,none⟩ (.bool true)) s 3 (.int .i64 (x.1:Nat)):=
   ((h2.set (.int .i64 (x.1:Nat))).kept (grownBy_setCell' _ (s+1) _) (by simp)).kept (grownBy_setCell' _ (s+2) _) (by simp)
  have g1:Boxed (((V.setCell ⟨s,0,none⟩ (.int .i64 (x.1:Nat))).setCell ⟨s+1,0,none⟩ (.bool x.2)).setCell ⟨s+2,0,none⟩ (.bool true)) (s+1) 4 (.bool x.2):=
   ((h3.kept (grownBy_setCell' V s (.int .i64 (x.1:Nat))) (by simp)).set (.bool x.2)).kept (grownBy_setCell' _ (s+2) _) (by simp)
  have g2:Boxed (((V.setCell ⟨s,0,none⟩ (.int .i64 (x.1:Nat))).setCell ⟨s+1,0,none⟩ (.bool x.2)).setCell ⟨s+2,0,none⟩ (.bool true)) (s+2) 4 (.bool true):=
   ((h4.kept (grownBy_setCell' V s (.int .i64 (x.1:Nat))) (by simp)).kept (grownBy_setCell' _ (s+1) (.bool x.2)) (by simp)).set (.bool true)
  exact⟨((KeepsOthers.setCell _ _ _).trans (KeepsOthers.setCell _ _ _)).trans (KeepsOthers.setCell _ _ _),rfl,x,rfl,g0,g1,g2,
   ((h5.setCell (p:=⟨s,0,none⟩) (Nat.le_refl _) _).setCell (p:=⟨s+1,0,none⟩) (Nat.le_succ _) _).setCell (p:=⟨s+2,0,none⟩) (Nat.le_add_right _ _) _⟩
 case done=>
  rintro D ys V hD rfl ⟨he,h2,h3,h4,h5⟩ hK;have c0:=h2.cell;have c1:=h3.cell;have c2:=h4.cell;have f0:=h2.frozen;have f1:=h3.frozen;have f2:=h4.frozen;rw[hsz]at hD;gi_wp2
  have hK':=(((KeepsOthers.setCell V ⟨s,0,none⟩ (.int .i64 0)).trans (KeepsOthers.setCell _ ⟨s+1,0,none⟩ (.bool false))).trans (KeepsOthers.setCell _ ⟨s+2,0,none⟩ (.bool false))).same D _ hK rfl;have g0:Boxed (((V.setCell ⟨s,0,none⟩ (.int .i64 0)).setCell ⟨s+1,0,none⟩ (.bool false)).setCell ⟨s+2,0,none⟩ (.bool false)) s 3 (.int .i64 0):=
   ((h2.set (.int .i64 0)).kept (grownBy_setCell' _ (s+1) _) (by simp)).kept (grownBy_setCell' _ (s+2) _) (by simp)
  have g1:Boxed (((V.setCell ⟨s,0,none⟩ (.int .i64 0)).setCell ⟨s+1,0,none⟩ (.bool false)).setCell ⟨s+2,0,none⟩ (.bool false)) (s+1) 4 (.bool false):=
   ((h3.kept (grownBy_setCell' V s (.int .i64 0)) (by simp)).set (.bool false)).kept (grownBy_setCell' _ (s+2) _) (by simp)
  have g2:Boxed (((V.setCell ⟨s,0,none⟩ (.int .i64 0)).setCell ⟨s+1,0,none⟩ (.bool false)).setCell ⟨s+2,0,none⟩ (.bool false)) (s+2) 4 (.bool false):=
   ((h4.kept (grownBy_setCell' V s (.int .i64 0)) (by simp)).kept (grownBy_setCell' _ (s+1) (.bool false)) (by simp)).set (.bool false)
  refine⟨by simp, .inl ⟨_,_,rfl,run_takeDeferred hK', ?_⟩⟩;have d0:=(boxed_kept (B0:=s) g0 (grownBy_putObj' _ D (.deferred none)) (fun r e=>by cases e;exact⟨by omega,_,hK',rfl⟩)).cell;have d1:=(boxed_kept (B0:=s) g1 (grownBy_putObj' _ D (.deferred none)) (fun r e=>by cases e;exact⟨by omega,_,hK',rfl⟩)).cell;have d2:=(boxed_kept (B0:=s) g2 (grownBy_putObj' _ D (.deferred none)) (fun r e=>by cases e;exact⟨by omega,_,hK',rfl⟩)).cell;refine⟨headV (lall fr od).head?, ?_,rfl, ?_⟩
  ·rw[he]
   simp[results,Tryz.f82,go_sem,d0,d1,d2,headV]
  ·rw[es]
   exact(((h5.setCell (p:=⟨s,0,none⟩) (Nat.le_refl _) _).setCell (p:=⟨s+1,0,none⟩) (Nat.le_succ _) _).setCell (p:=⟨s+2,0,none⟩) (Nat.le_add_right _ _) _).trans (belowK_b (w:=w) (by omega) _ D _ _ (by omega) hK' rfl rfl)
 case stop=>
  rintro D c pre V hD hp ⟨rfl,x,rfl,h2,h3,h4,h5⟩ hK;rw[hsz]at hD;have c0:=h2.cell;have c1:=h3.cell;have c2:=h4.cell;gi_wp2
  refine⟨by simp, .inl ⟨_,_,rfl,run_takeDeferred hK, ?_⟩⟩;have d0:=(boxed_kept (B0:=s) h2 (grownBy_putObj' _ D (.deferred none)) (fun r e=>by cases e;exact⟨by omega,_,hK,rfl⟩)).cell;have d1:=(boxed_kept (B0:=s) h3 (grownBy_putObj' _ D (.deferred none)) (fun r e=>by cases e;exact⟨by omega,_,hK,rfl⟩)).cell;have d2:=(boxed_kept (B0:=s) h4 (grownBy_putObj' _ D (.deferred none)) (fun r e=>by cases e;exact⟨by omega,_,hK,rfl⟩)).cell;have he:(lall fr od).head?=some x:=by
   obtain⟨r,hr⟩:=hp;rw[←hr];rfl
  refine⟨headV (lall fr od).head?, ?_,rfl, ?_⟩
  ·rw[he]
   simp[results,Tryz.f82,go_sem,d0,d1,d2,headV]
  ·rw[es]
   exact h5.trans (belowK_b (w:=w) (by omega) _ D _ _ (by omega) hK rfl rfl)
end
section
open Go.RowKit Go.Lib Go.Shelf
attribute [local go_sem] Oper.semAt_some
def placeL (fr od:List Nat) (k:Nat):Nat:=match(lall fr od).find? (fun x=>decide (x.1=k))with
 | some x=>if x.2 then 1 else 2
 | none=>0
theorem find_none_of {l:List (Nat×Bool)} {k:Nat} (h: ∀ p∈l,p.1≠k):l.find? (fun x=>decide (x.1=k))=none:=by
 rw[List.find?_eq_none];intro x hx;simpa using h x hx
theorem find_pre {l pre:List (Nat×Bool)} {x:Nat×Bool} {k:Nat} (hp:pre++[x]<+:l) (h: ∀ p∈pre,p.1≠k) (hx:x.1=k):l.find? (fun x=>decide (x.1=k))=some x:=by
 obtain⟨r,rfl⟩:=hp;rw[List.append_assoc,List.find?_append,find_none_of h];simp[hx]
set_option maxRecDepth 100000 in
theorem lsplace_any (b k:Nat) (fr od:List Nat) (hf:fr.length≤8) (ho:od.length≤8) (g:Nat→Nat) (T:Nat) (w:World) (hL:LsAt w g T b fr od):
  Calls Tryz.prog 104 #[.pointer (some ⟨b,0,none⟩), .int .i64 k] w fun e W'=>e= .returned (.int .i64 (placeL fr od k:Nat))∧Below w.heap.size w W':=by
 refine(callsIn_wide (n:=10)).1 ?_;refine callsIn_of_wp_marks Tryz.func104 rfl trivial ?_ rfl;simp only[Tryz.ntmps104,List.size_toArray,List.length_cons,List.length_nil,Nat.reduceAdd,Nat.reduceSub,Array.replicate_succ,Array.replicate_zero,List.push_toArray,List.append_toArray,List.nil_append,List.cons_append];have C:Hid (∀ w',Calls Tryz.prog 113 #[.pointer (some ⟨b,0,none⟩)] w' fun e w''=>e= .returned (.func (.func 149) #[] #[.pointer (some ⟨w'.heap.size,0,none⟩)])∧w''=w'.alloc (.cells #[.pointer (some ⟨b,0,none⟩)] 101)):=zH (lsall_any b);have hblt:b<w.heap.size:=by obtain⟨vf,vo,h1,h2,h3⟩:=hL.ex;exact h1.1.lt
 have HL:=zH hL;clear hL;gi_wp2_with (refine⟨trivial, ?_⟩;gi_at_call 113;refine(callsIn_wide.2 (C.out _)).mono ?_;rintro e w' ⟨rfl,rfl⟩)
 obtain⟨s,es⟩: ∃ s,w.heap.size=s:=⟨_,rfl⟩;refine wpIn_named (fun W=>Boxed W s 3 (.int .i64 k)∧Boxed W (s+1) 3 (.int .i64 0)∧W.cell? ⟨s+2,0,none⟩=some (.pointer (some ⟨b,0,none⟩))∧W.heap.size=s+3∧Below s w W)
  ?nm ?_
 case nm=>
   subst es;refine⟨((Boxed.new w _ _).alloc _).alloc _, ?_, ?_,by simp,(((Below.refl _ w).alloc (Nat.le_refl _) _).alloc (by simp) _).alloc (by simp;omega) _⟩
   ·have:=Boxed.new (w.alloc (.cells #[.int .i64 k] 3)) 3 (.int .i64 0)
    simp only[World.size_alloc]at this;exact this.alloc _
   ·have:=Boxed.new ((w.alloc (.cells #[.int .i64 k] 3)).alloc (.cells #[.int .i64 0] 3)) 101 (.pointer (some ⟨b,0,none⟩))
    simp only[World.size_alloc]at this;exact this.cell
 rintro W ⟨B0,B1,hc3,hsz,hBW⟩;simp only[es,Nat.add_assoc,Nat.reduceAdd];have hLW:LsAt W g T b fr od:=HL.out.below (by rw[es];exact hBW);refine wpIn_rangeFunc_ownF (F:=Fence.wide) rfl (by omega) (gf:=149) (lb:= #[.pointer (some ⟨s+2,0,none⟩)]) rfl trivial (enters_of Tryz.func149 (by kernel_rfl) rfl)
  (ls_stops 9 (by omega) (s+2) b fr od hf ho g T W hc3 hLW) (fun h k=>h.trans k) (fun V l o o' _ h1 h2 _=>KpT.put V l o o' h1 h2) (Below.refl _ _) (fun _=>rfl)
  (fun pre V=>(∀ p∈pre,p.1≠k)∧Boxed V s 3 (.int .i64 k)∧Boxed V (s+1) 3 (.int .i64 0)∧Below s w V)
  (fun c pre V=>c= .ret∧ ∃(ini:List (Nat×Bool)) (x:Nat×Bool),pre=ini++[x]∧(∀ p∈ini,p.1≠k)∧x.1=k∧Boxed V (s+1) 3 (.int .i64 ((if x.2 then 1 else 2:Nat):Int))∧Below s w V)
  ?hI ?hIx ⟨by simp,B0,B1,hBW⟩
  (fun x=>{ tmps:= #[.pointer (some ⟨b,0,none⟩), .int .i64 k,undef, .pointer (some ⟨s,0,none⟩), .pointer (some ⟨s+1,0,none⟩), .int .i64 (x.1:Nat), .bool x.2, .pointer (some ⟨b,0,none⟩), .func (.func 149) #[] #[.pointer (some ⟨s+2,0,none⟩)], .int .i64 (x.1:Nat), .bool x.2,undef,undef,undef,undef],defers:=[] }) ?assign ?body ?done ?stop
 case hI=>
  rintro pre A B row ⟨h1,h2,h3,h5⟩ hg hr;exact⟨h1,boxed_kept h2 hg hr,boxed_kept h3 hg hr,h5.grown hg (by rw[←es];rw[←es]at h5;exact h5.size) (fun k e=>by have:=(hr k e).1;omega)⟩
 case hIx=>
  rintro c pre A B row ⟨h0,ini,x,h1,h2,h3,h4,h5⟩ hg hr;exact⟨h0,ini,x,h1,h2,h3,boxed_kept h4 hg hr,h5.grown hg (by rw[←es];rw[←es]at h5;exact h5.size) (fun k e=>by have:=(hr k e).1;omega)⟩
 case assign=>
  intro l x V K hK;simp only[lenc];gi_wp2
  exact hK
 case body=>
  rintro l pre x V ⟨h1,h2,h3,h5⟩ _;have c0:=h2.cell;have c1:=h3.cell;have f1:=h3.frozen;obtain⟨x1,x2⟩:=x;by_cases hx:x1=k
  ·subst hx
   cases x2
   ·gi_wp2
    exact⟨KeepsOthers.setCell _ _ _,rfl,pre,_,rfl,h1,rfl,h3.set _,h5.setCell (p:=⟨s+1,0,none⟩) (Nat.le_succ _) _⟩
   ·gi_wp2
    exact⟨KeepsOthers.setCell _ _ _,rfl,pre,_,rfl,h1,rfl,h3.set _,h5.setCell (p:=⟨s+1,0,none⟩) (Nat.le_succ _) _⟩
  ·have hb:((x1:Int)==(k:Int))=false:=by rw[beq_eq_false_iff_ne];omega
   gi_wp2
   exact⟨KeepsOthers.refl _,KpT.refl _ _,fun p hp=>(List.mem_append.1 hp).elim (h1 p) (fun e=>by simp at e;subst e;exact hx),h2,h3,h5⟩
 case done=>
  rintro D ys V hD rfl ⟨he,h2,h3,h5⟩ hK;have c0:=h2.cell;have c1:=h3.cell;have f1:=h3.frozen;rw[hsz]at hD;gi_wp2
  have hK':=(KeepsOthers.setCell V ⟨s+1,0,none⟩ (.int .i64 0)).same D _ hK rfl;have g1:=h3.set (.int .i64 0);refine⟨by simp, .inl ⟨_,_,rfl,run_takeDeferred hK', ?_⟩⟩;have d1:=(boxed_kept (B0:=s) g1 (grownBy_putObj' _ D (.deferred none)) (fun r e=>by cases e;exact⟨by omega,_,hK',rfl⟩)).cell;refine⟨.int .i64 0, ?_, ?_, ?_⟩
  ·simp[results,Tryz.f104,go_sem,d1]
  ·simp[placeL,find_none_of he]
  ·rw[es]
   exact(h5.setCell (p:=⟨s+1,0,none⟩) (Nat.le_succ _) _).trans (belowK_b (w:=w) (by omega) _ D _ _ (by omega) hK' rfl rfl)
 case stop=>
  rintro D c pre V hD hp ⟨rfl,ini,x,rfl,h2,h3,h4,h5⟩ hK;rw[hsz]at hD;have c1:=h4.cell;gi_wp2
  refine⟨by simp, .inl ⟨_,_,rfl,run_takeDeferred hK, ?_⟩⟩;have d1:=(boxed_kept (B0:=s) h4 (grownBy_putObj' _ D (.deferred none)) (fun r e=>by cases e;exact⟨by omega,_,hK,rfl⟩)).cell;refine⟨.int .i64 ((if x.2 then 1 else 2:Nat):Int), ?_, ?_, ?_⟩
  ·simp[results,Tryz.f104,go_sem,d1]
  ·simp[placeL,find_pre hp h2 h3]
  ·rw[es]
   exact h5.trans (belowK_b (w:=w) (by omega) _ D _ _ (by omega) hK rfl rfl)
end
section
open Go.RowKit Go.Lib
theorem Chg.drn {w w' w'':World} {g g':Nat→Nat} {lo hi:Nat} (h:Chg w w' g g' lo hi) (d:Below w'.heap.size w' w''):Chg w w'' g g' lo hi:=h.below d
theorem Chg.of_below {w w':World} {g:Nat→Nat} (h:Tidy w g) (lo hi:Nat) (hb:Below w.heap.size w w'):Chg w w' g g lo hi:=(Chg.refl h lo hi).below hb
theorem LsAt.chg {w w':World} {g g':Nat→Nat} {T b lo hi:Nat} {fr od:List Nat} (h:LsAt w g T b fr od) (c:Chg w w' g g' lo hi) (h1:T+3≤lo∨hi≤T):LsAt w' g' T b fr od:=by
 obtain⟨vf,vo,k1,k2,k3⟩:=h.ex;exact⟨vf,vo,k1.chg c (by omega),k2.chg c (by omega),k3.chg c (by omega)⟩
theorem LsAt.lt {w:World} {g:Nat→Nat} {T b:Nat} {fr od:List Nat} (h:LsAt w g T b fr od):b<w.heap.size∧g b=T:=by
 obtain⟨vf,vo,k1,k2,k3⟩:=h.ex;exact⟨k1.1.lt,k1.2⟩
theorem ints_snoc (l:List Nat) (k:Nat):ints (l++[k])=ints l++[.int .i64 (k:Nat)]:=by simp[ints]
def pushL (fr od:List Nat) (k:Nat) (fresh:Bool):List Nat×List Nat:=if fresh then(fr++[k],od)else(fr,od++[k])
theorem lspush_new (b k:Nat) (fresh:Bool) (hk:k<8) (fr od:List Nat) (hf:fr.length≤8) (ho:od.length≤8) (g:Nat→Nat) (T:Nat) (w:World) (hT:Tidy w g) (hL:LsAt w g T b fr od) (hp:placeL fr od k=0):
  Calls Tryz.prog 112 #[.pointer (some ⟨b,0,none⟩), .int .i64 k, .bool fresh] w fun e w'=>e= .returned (.int .i64 0)∧ ∃ g',Chg w w' g g' T (T+3)∧LsAt w' g' T b (pushL fr od k fresh).1 (pushL fr od k fresh).2:=by
 have C:Hid (∀ w',w=w'→Calls Tryz.prog 104 #[.pointer (some ⟨b,0,none⟩), .int .i64 k] w' fun e w''=>e= .returned (.int .i64 0)∧Below w'.heap.size w' w''):=zH (fun w' e=>by subst e;have:=lsplace_any b k fr od hf ho g T w hL;rw[hp]at this;exact this);obtain⟨i0,HI⟩:=infoI;obtain⟨vf,vo,h1,h2,h3⟩:=hL.ex;obtain⟨hblt,hbT⟩:=hL.lt;have H1:=zH h1;have H2:=zH h2;have H3:=zH h3;have HT:=zH hT;clear hL hp h1 h2 h3 hT;cases fresh
 ·obtain⟨a,cap,rfl,hc1,hc2⟩:=H3.out.cap_
  go_enter Tryz.func112,Tryz.ntmps112
  go_wp2_with fail
  refine(C.out _ rfl).mono ?_;rintro e w1 ⟨rfl,hB⟩;have A1:=H1.out.below hB;have R1:=H3.out.below hB;have c1:=A1.1.ce 1;have CB:=zH (Chg.of_below HT.out T (T+3) hB);have AA:=zH A1;have RR:=zH R1;have RF:=zH (H2.out.below hB);have hsz:=hB.size;clear A1 R1 hB;go_wp2_with (at_builtin;refine wpList_append_sli _ rfl _ _ 39 rfl g (T+2) 3 i0 (.int .i64 0) 1 8 Tryz.underlying39 HI.out.1 HI.out.2.1 HI.out.2.2.1 HI.out.2.2.2 rfl (by decide) _ od.length (ints od) rfl (RR.out.alloc _) ?t1 ⟨w1.heap.size,0,none⟩ 1 1 [.int .i64 (k:Nat)] rfl rfl ?t2 ?t3 (by decide) ?t4 ?t5 ?_)
  case t1=>exact CB.out.tidy.alloc _
  case t2=>exact cell_one_new _ _ _
  case t3=>simp[Value.oneCell']
  case t4=>unfold maxLen;omega
  case t5=>omega
  intro b2 o2 cap2 w2 g2 hS hC;have A2:=((AA.out.alloc (.cells #[.int .i64 (k:Nat)] 3))).chg hC (by omega);have c2:=A2.1.ce 1;have f2:=A2.1.free 1;have AX:=zH A2;have SX:=zH hS;have FX:=zH ((RF.out.alloc (.cells #[.int .i64 (k:Nat)] 3)).chg hC (by omega));have CX:=zH ((CB.out.alloc (.cells #[.int .i64 (k:Nat)] 3)).trans (hC.mono (by omega) (by omega)));clear A2 hS hC;go_wp2;go_ret
  have hb2:=AX.out.2;refine⟨rfl,g2,CX.out.set (fun _=>by omega) _,_,_,AX.out.put (Put.set AX.out.1 1),FX.out.set_other _ (by rw[show(⟨b,1,none⟩:Addr).block=b from rfl,hb2];omega), ?_⟩;rw[show(pushL fr od k false).2=od++[k]from rfl,List.length_append,ints_snoc];exact SX.out.set_other _ (by rw[show(⟨b,1,none⟩:Addr).block=b from rfl,hb2];omega)
 ·obtain⟨a,cap,rfl,hc1,hc2⟩:=H2.out.cap_
  go_enter Tryz.func112,Tryz.ntmps112
  go_wp2_with fail
  refine(C.out _ rfl).mono ?_;rintro e w1 ⟨rfl,hB⟩;have A1:=H1.out.below hB;have R1:=H2.out.below hB;have c1:=A1.1.ce 0;have CB:=zH (Chg.of_below HT.out T (T+3) hB);have AA:=zH A1;have RR:=zH R1;have RF:=zH (H3.out.below hB);have hsz:=hB.size;clear A1 R1 hB;go_wp2_with (at_builtin;refine wpList_append_sli _ rfl _ _ 39 rfl g (T+1) 3 i0 (.int .i64 0) 1 8 Tryz.underlying39 HI.out.1 HI.out.2.1 HI.out.2.2.1 HI.out.2.2.2 rfl (by decide) _ fr.length (ints fr) rfl (RR.out.alloc _) ?t1 ⟨w1.heap.size,0,none⟩ 1 1 [.int .i64 (k:Nat)] rfl rfl ?t2 ?t3 (by decide) ?t4 ?t5 ?_)
  case t1=>exact CB.out.tidy.alloc _
  case t2=>exact cell_one_new _ _ _
  case t3=>simp[Value.oneCell']
  case t4=>unfold maxLen;omega
  case t5=>omega
  intro b2 o2 cap2 w2 g2 hS hC;have A2:=((AA.out.alloc (.cells #[.int .i64 (k:Nat)] 3))).chg hC (by omega);have c2:=A2.1.ce 0;have f2:=A2.1.free 0;have AX:=zH A2;have SX:=zH hS;have FX:=zH ((RF.out.alloc (.cells #[.int .i64 (k:Nat)] 3)).chg hC (by omega));have CX:=zH ((CB.out.alloc (.cells #[.int .i64 (k:Nat)] 3)).trans (hC.mono (by omega) (by omega)));clear A2 hS hC;go_wp2;go_ret
  have hb2:=AX.out.2;refine⟨rfl,g2,CX.out.set (fun _=>by omega) _,_,_,AX.out.put (Put.set AX.out.1 0), ?_,FX.out.set_other _ (by rw[show(⟨b,0,none⟩:Addr).block=b from rfl,hb2];omega)⟩;rw[show(pushL fr od k true).1=fr++[k]from rfl,List.length_append,ints_snoc];exact SX.out.set_other _ (by rw[show(⟨b,0,none⟩:Addr).block=b from rfl,hb2];omega)
end
section
open Go.RowKit Go.Lib
def delL (l:List Nat) (k:Nat):List Nat:=l.filter (fun x=> !decide (x=k))
theorem lsremove_no (b k:Nat) (fr od:List Nat) (hf:fr.length≤8) (ho:od.length≤8) (g:Nat→Nat) (T:Nat) (w:World) (hL:LsAt w g T b fr od) (hp:placeL fr od k=0):
  Calls Tryz.prog 114 #[.pointer (some ⟨b,0,none⟩), .int .i64 k] w fun e w'=>e= .returned (.bool false)∧Below w.heap.size w w':=by
 have C:Hid (∀ w',Below w.heap.size w w'→Calls Tryz.prog 104 #[.pointer (some ⟨b,0,none⟩), .int .i64 k] w' fun e w''=>e= .returned (.int .i64 0)∧Below w'.heap.size w' w''):=zH (fun w' e=>by have:=lsplace_any b k fr od hf ho g T w' (hL.below e);rw[hp]at this;exact this);clear hL;go_enter Tryz.func114,Tryz.ntmps114
 go_wp2_with fail
 refine(C.out _ ((Below.refl _ w).alloc (Nat.le_refl _) _)).mono ?_;rintro e w' ⟨rfl,hB⟩;go_wp2_with fail
 go_ret
 exact⟨rfl,((Below.refl w.heap.size w).alloc (Nat.le_refl _) _).trans (hB.mono (by simp))⟩
theorem lsremove_yes (b k:Nat) (fr od:List Nat) (hf:fr.length≤8) (ho:od.length≤8) (g:Nat→Nat) (T:Nat) (hT1:1≤T) (w:World) (hT:Tidy w g) (hL:LsAt w g T b fr od) (hp:placeL fr od k≠0):
  Calls Tryz.prog 114 #[.pointer (some ⟨b,0,none⟩), .int .i64 k] w fun e w'=>e= .returned (.bool true)∧ ∃ g',Chg w w' g g' T (T+3)∧LsAt w' g' T b (delL fr k) (delL od k):=by
 have C:Hid (∀ w',Below w.heap.size w w'→Calls Tryz.prog 104 #[.pointer (some ⟨b,0,none⟩), .int .i64 k] w' fun e w''=>e= .returned (.int .i64 (placeL fr od k:Nat))∧Below w'.heap.size w' w''):=zH (fun w' e=>lsplace_any b k fr od hf ho g T w' (hL.below e));obtain⟨vf,vo,h1,h2,h3⟩:=hL.ex;obtain⟨hblt,hbT⟩:=hL.lt;obtain⟨af,kf,rfl,_,_⟩:=h2.cap_;obtain⟨ao,ko,rfl,_,_⟩:=h3.cap_;have D1:Hid (∀ B w',g B=0→Sli w' g (T+1) 3 1 (.slice af fr.length kf) fr.length (ints fr)→w'.cell? ⟨B,0,none⟩=some (.int .i64 k)→Calls Tryz.prog 152 #[.slice af fr.length kf, .func (.func 151) #[] #[.pointer (some ⟨B,0,none⟩)]] w' fun e w''=>
   ∃ v',e= .returned v'∧Sli w'' g (T+1) 3 1 v' (delL fr k).length (ints (delL fr k))∧ ∃ row,w'.grownBy w'' row∧ ∀ b,row=some b→g b=T+1):=zH fun B w' hB hs hc=>del_any g (T+1) B k _ fr w' hf hs hc (by omega)
 have D2:Hid (∀ B w',g B=0→Sli w' g (T+2) 3 1 (.slice ao od.length ko) od.length (ints od)→w'.cell? ⟨B,0,none⟩=some (.int .i64 k)→Calls Tryz.prog 152 #[.slice ao od.length ko, .func (.func 151) #[] #[.pointer (some ⟨B,0,none⟩)]] w' fun e w''=>
   ∃ v',e= .returned v'∧Sli w'' g (T+2) 3 1 v' (delL od k).length (ints (delL od k))∧ ∃ row,w'.grownBy w'' row∧ ∀ b,row=some b→g b=T+2):=zH fun B w' hB hs hc=>del_any g (T+2) B k _ od w' ho hs hc (by omega)
 have gs:g w.heap.size=0:=hT _ (Nat.le_refl _);obtain⟨p,ep⟩: ∃ p,placeL fr od k=p:=⟨_,rfl⟩;rw[ep]at C hp;have hb:((p:Int)==0)=false:=by rw[beq_eq_false_iff_ne];omega
 obtain⟨s,es⟩: ∃ s,w.heap.size=s:=⟨_,rfl⟩;have H1:=zH h1;have H2:=zH h2;have H3:=zH h3;have HT:=zH hT;clear hL h1 h2 h3 hT ep;go_enter Tryz.func114,Tryz.ntmps114
 go_wp2_with fail
 refine(C.out _ ((Below.refl _ w).alloc (Nat.le_refl _) _)).mono ?_;rintro e w1 ⟨rfl,hB⟩;have hB1:Below w.heap.size w w1:=((Below.refl w.heap.size w).alloc (Nat.le_refl _) _).trans (hB.mono (by simp));have cs:w1.cell? ⟨s,0,none⟩=some (.int .i64 k):=by
  rw[←es];exact(hB.cell (p:=⟨w.heap.size,0,none⟩) (by simp)).trans (by simp)
 have A1:=H1.out.below hB1;have c0:=A1.1.ce 0;have c1:=A1.1.ce 1;have AA:=zH A1;have RF:=zH (H2.out.below hB1);have RO:=zH (H3.out.below hB1);have CB:=zH (Chg.of_below HT.out T (T+3) hB1);rw[es]at gs;rw[es]at hblt;clear A1 hB1 hB H1 H2 H3 HT C;go_wp2_with fail
 refine wp_region_held_drew (S:=fun _=>True) (by kernel_rfl) trivial (fun hHeld=> ?_);have c0d:w1.drew.cell? ⟨b,0,none⟩=some (.slice af fr.length kf):=c0;have c1d:w1.drew.cell? ⟨b,1,none⟩=some (.slice ao od.length ko):=c1;refine zt 0 ?_;refine zt 1 ?_;refine zt 2 ?_;refine zt 3 ?_;refine zt 4 ?_;refine zt 6 ?_;refine zt 8 ?_;refine zt 9 ?_;refine zt 10 ?_;refine zt 12 ?_;refine rdZ [5,11] ?_;refine(cnZ 5 rfl (fun K hK=> ?_) (cnZ 11 rfl (fun K hK=> ?_) AllReadyH.nil))
 ·go_simp
  refine hK.out _ _ ?_ (fun hHeld=> ?_);focus trivial
  clear hK K;refine zl ?_;refine rdZ [7,11] ?_;refine(cnZ 7 rfl (fun K hK=> ?_) (cnZ 11 rfl (fun K hK=> ?_) AllReadyH.nil))
  ·go_simp
   refine(D1.out s _ gs RF.out.drew cs).mono ?_;rintro e w2 ⟨v2,rfl,hS2,row2,hg2,hr2⟩;obtain⟨a2,k2,rfl,_,_⟩:=hS2.cap_;have A2:=AA.out.other (w':=w2) (row:=row2) ⟨hg2.os,hg2.tape,hg2.output,hg2.size,hg2.block⟩ (fun e=>by have:=hr2 b e.symm;omega);have q0:w2.cell? ⟨b,0,none⟩=some (.slice af fr.length kf):=A2.1.cell 0;have q1:w2.cell? ⟨b,1,none⟩=some (.slice ao od.length ko):=A2.1.cell 1;have qs:w2.cell? ⟨s,0,none⟩=some (.int .i64 k):=hg2.cell (w:=w1.drew) cs (fun e=>by have:=hr2 s e.symm;omega);have RO2:=zH (RO.out.drew.other hg2 (fun b' e _=>by have:=hr2 b' e;omega));have RF2:=zH hS2;have CB2:=zH (CB.out.drew.by hg2 (fun b' e _=>by have:=hr2 b' e;omega));have AA2:=zH A2;clear A2 hS2 hg2 hr2;refine hK.out _ _ ?_ (fun hHeld=> ?_);focus trivial
   clear hK K;refine zl ?_;refine zc 11 (fun K hK=> ?_);go_simp;refine hK.out _ _ ?_ (fun hHeld=> ?_);focus trivial
   clear hK K;refine zl ?_;refine zc 13 (fun K hK=> ?_);go_simp;refine(D2.out s _ gs RO2.out qs).mono ?_;rintro e w3 ⟨v3,rfl,hS3,row3,hg3,hr3⟩;obtain⟨a3,k3,rfl,_,_⟩:=hS3.cap_;have A3:=AA2.out.other hg3 (fun e=>by have:=hr3 b e.symm;omega);have r0:w3.cell? ⟨b,0,none⟩=some (.slice af fr.length kf):=A3.1.cell 0;have r1:w3.cell? ⟨b,1,none⟩=some (.slice ao od.length ko):=A3.1.cell 1;have f0:=A3.1.free 0;have f1:=A3.1.free 1;have RF3:=zH (RF2.out.other hg3 (fun b' e _=>by have:=hr3 b' e;omega));have RO3:=zH hS3;have CB3:=zH (CB2.out.by hg3 (fun b' e _=>by have:=hr3 b' e;omega));have AA3:=zH A3;clear A3 hS3 hg3 hr3;refine hK.out _ _ ?_ (fun hHeld=> ?_);focus trivial
   clear hK K;refine zl ?_;refine zt 14 ?_;refine zt 15 ?_;refine zc 16 (fun K hK=> ?_);go_simp;refine hK.out _ _ ?_ (fun hHeld=> ?_);focus trivial
   clear hK K;refine zl ?_;refine zt 17 ?_;refine zt 18 ?_;refine zc 19 (fun K hK=> ?_);go_simp;refine hK.out _ _ ?_ (fun hHeld=> ?_);focus trivial
   clear hK K;refine zl ?_;refine dnZ ?_;go_wp2;go_ret
   have e0: ∀ i,g (⟨b,i,none⟩:Addr).block=T:=fun i=>hbT
   have P1:=AA3.out.put (Put.set AA3.out.1 0 (u:= .slice a2 (delL fr k).length k2));exact⟨rfl,g,(CB3.out.set (fun _=>⟨by omega,by omega⟩) _).set (fun _=>⟨by omega,by omega⟩) _,_,_,P1.put (Put.set P1.1 1),(RF3.out.set_other _ (by rw[e0];omega)).set_other _ (by rw[e0];omega),(RO3.out.set_other _ (by rw[e0];omega)).set_other _ (by rw[e0];omega)⟩
  ·go_simp
   refine hK.out _ _ ?_ (fun hHeld=> ?_);focus trivial
   clear hK K;refine zl ?_;refine zc 7 (fun K hK=> ?_);go_simp;refine(D1.out s _ gs RF.out.drew cs).mono ?_;rintro e w2 ⟨v2,rfl,hS2,row2,hg2,hr2⟩;obtain⟨a2,k2,rfl,_,_⟩:=hS2.cap_;have A2:=AA.out.other (w':=w2) (row:=row2) ⟨hg2.os,hg2.tape,hg2.output,hg2.size,hg2.block⟩ (fun e=>by have:=hr2 b e.symm;omega);have q0:w2.cell? ⟨b,0,none⟩=some (.slice af fr.length kf):=A2.1.cell 0;have q1:w2.cell? ⟨b,1,none⟩=some (.slice ao od.length ko):=A2.1.cell 1;have qs:w2.cell? ⟨s,0,none⟩=some (.int .i64 k):=hg2.cell (w:=w1.drew) cs (fun e=>by have:=hr2 s e.symm;omega);have RO2:=zH (RO.out.drew.other hg2 (fun b' e _=>by have:=hr2 b' e;omega));have RF2:=zH hS2;have CB2:=zH (CB.out.drew.by hg2 (fun b' e _=>by have:=hr2 b' e;omega));have AA2:=zH A2;clear A2 hS2 hg2 hr2;refine hK.out _ _ ?_ (fun hHeld=> ?_);focus trivial
   clear hK K;refine zl ?_;refine zc 13 (fun K hK=> ?_);go_simp;refine(D2.out s _ gs RO2.out qs).mono ?_;rintro e w3 ⟨v3,rfl,hS3,row3,hg3,hr3⟩;obtain⟨a3,k3,rfl,_,_⟩:=hS3.cap_;have A3:=AA2.out.other hg3 (fun e=>by have:=hr3 b e.symm;omega);have r0:w3.cell? ⟨b,0,none⟩=some (.slice af fr.length kf):=A3.1.cell 0;have r1:w3.cell? ⟨b,1,none⟩=some (.slice ao od.length ko):=A3.1.cell 1;have f0:=A3.1.free 0;have f1:=A3.1.free 1;have RF3:=zH (RF2.out.other hg3 (fun b' e _=>by have:=hr3 b' e;omega));have RO3:=zH hS3;have CB3:=zH (CB2.out.by hg3 (fun b' e _=>by have:=hr3 b' e;omega));have AA3:=zH A3;clear A3 hS3 hg3 hr3;refine hK.out _ _ ?_ (fun hHeld=> ?_);focus trivial
   clear hK K;refine zl ?_;refine zt 14 ?_;refine zt 15 ?_;refine zc 16 (fun K hK=> ?_);go_simp;refine hK.out _ _ ?_ (fun hHeld=> ?_);focus trivial
   clear hK K;refine zl ?_;refine zt 17 ?_;refine zt 18 ?_;refine zc 19 (fun K hK=> ?_);go_simp;refine hK.out _ _ ?_ (fun hHeld=> ?_);focus trivial
   clear hK K;refine zl ?_;refine dnZ ?_;go_wp2;go_ret
   have e0: ∀ i,g (⟨b,i,none⟩:Addr).block=T:=fun i=>hbT
   have P1:=AA3.out.put (Put.set AA3.out.1 0 (u:= .slice a2 (delL fr k).length k2));exact⟨rfl,g,(CB3.out.set (fun _=>⟨by omega,by omega⟩) _).set (fun _=>⟨by omega,by omega⟩) _,_,_,P1.put (Put.set P1.1 1),(RF3.out.set_other _ (by rw[e0];omega)).set_other _ (by rw[e0];omega),(RO3.out.set_other _ (by rw[e0];omega)).set_other _ (by rw[e0];omega)⟩
 ·go_simp
  refine hK.out _ _ ?_ (fun hHeld=> ?_);focus trivial
  clear hK K;refine zl ?_;refine zc 5 (fun K hK=> ?_);go_simp;refine hK.out _ _ ?_ (fun hHeld=> ?_);focus trivial
  clear hK K;refine zl ?_;refine zc 7 (fun K hK=> ?_);go_simp;refine(D1.out s _ gs RF.out.drew cs).mono ?_;rintro e w2 ⟨v2,rfl,hS2,row2,hg2,hr2⟩;obtain⟨a2,k2,rfl,_,_⟩:=hS2.cap_;have A2:=AA.out.other (w':=w2) (row:=row2) ⟨hg2.os,hg2.tape,hg2.output,hg2.size,hg2.block⟩ (fun e=>by have:=hr2 b e.symm;omega);have q0:w2.cell? ⟨b,0,none⟩=some (.slice af fr.length kf):=A2.1.cell 0;have q1:w2.cell? ⟨b,1,none⟩=some (.slice ao od.length ko):=A2.1.cell 1;have qs:w2.cell? ⟨s,0,none⟩=some (.int .i64 k):=hg2.cell (w:=w1.drew) cs (fun e=>by have:=hr2 s e.symm;omega);have RO2:=zH (RO.out.drew.other hg2 (fun b' e _=>by have:=hr2 b' e;omega));have RF2:=zH hS2;have CB2:=zH (CB.out.drew.by hg2 (fun b' e _=>by have:=hr2 b' e;omega));have AA2:=zH A2;clear A2 hS2 hg2 hr2;refine hK.out _ _ ?_ (fun hHeld=> ?_);focus trivial
  clear hK K;refine zl ?_;refine zc 13 (fun K hK=> ?_);go_simp;refine(D2.out s _ gs RO2.out qs).mono ?_;rintro e w3 ⟨v3,rfl,hS3,row3,hg3,hr3⟩;obtain⟨a3,k3,rfl,_,_⟩:=hS3.cap_;have A3:=AA2.out.other hg3 (fun e=>by have:=hr3 b e.symm;omega);have r0:w3.cell? ⟨b,0,none⟩=some (.slice af fr.length kf):=A3.1.cell 0;have r1:w3.cell? ⟨b,1,none⟩=some (.slice ao od.length ko):=A3.1.cell 1;have f0:=A3.1.free 0;have f1:=A3.1.free 1;have RF3:=zH (RF2.out.other hg3 (fun b' e _=>by have:=hr3 b' e;omega));have RO3:=zH hS3;have CB3:=zH (CB2.out.by hg3 (fun b' e _=>by have:=hr3 b' e;omega));have AA3:=zH A3;clear A3 hS3 hg3 hr3;refine hK.out _ _ ?_ (fun hHeld=> ?_);focus trivial
  clear hK K;refine zl ?_;refine zt 14 ?_;refine zt 15 ?_;refine zc 16 (fun K hK=> ?_);go_simp;refine hK.out _ _ ?_ (fun hHeld=> ?_);focus trivial
  clear hK K;refine zl ?_;refine zt 17 ?_;refine zt 18 ?_;refine zc 19 (fun K hK=> ?_);go_simp;refine hK.out _ _ ?_ (fun hHeld=> ?_);focus trivial
  clear hK K;refine zl ?_;refine dnZ ?_;go_wp2;go_ret
  have e0: ∀ i,g (⟨b,i,none⟩:Addr).block=T:=fun i=>hbT
  have P1:=AA3.out.put (Put.set AA3.out.1 0 (u:= .slice a2 (delL fr k).length k2));exact⟨rfl,g,(CB3.out.set (fun _=>⟨by omega,by omega⟩) _).set (fun _=>⟨by omega,by omega⟩) _,_,_,P1.put (Put.set P1.1 1),(RF3.out.set_other _ (by rw[e0];omega)).set_other _ (by rw[e0];omega),(RO3.out.set_other _ (by rw[e0];omega)).set_other _ (by rw[e0];omega)⟩
theorem lall_mem {fr od:List Nat} {x:Nat×Bool} (h:(lall fr od).head?=some x):x∈lall fr od:=List.mem_of_head? h
theorem place_ne {fr od:List Nat} {x:Nat×Bool} (h:x∈lall fr od):placeL fr od x.1≠0:=by
 unfold placeL;cases hf:(lall fr od).find? (fun y=>decide (y.1=x.1))with
 | none=>
  rw[List.find?_eq_none]at hf;exact absurd (hf x h) (by simp)
 | some y=>
  show(if y.2=true then 1 else 2)≠0
  split<;>simp
theorem place_del (fr od:List Nat) (k:Nat):placeL (delL fr k) (delL od k) k=0:=by
 unfold placeL;rw[find_none_of];intro p hp;simp only[lall,delL,List.mem_append,List.mem_map,List.mem_filter]at hp;rcases hp with⟨a,⟨_,ha⟩,rfl⟩ | ⟨a,⟨_,ha⟩,rfl⟩<;>simpa using ha
theorem delL_len (l:List Nat) (k:Nat):(delL l k).length≤l.length:=List.length_filter_le _ _
theorem lsdrop_any (b:Nat) (x:Nat×Bool) (fr od:List Nat) (hf:fr.length≤8) (ho:od.length≤8) (g:Nat→Nat) (T:Nat) (hT1:1≤T) (w:World) (hT:Tidy w g) (hL:LsAt w g T b fr od) (hh:(lall fr od).head?=some x):
  Calls Tryz.prog 85 #[.pointer (some ⟨b,0,none⟩)] w fun e w'=>e= .returned (.bool true)∧ ∃ g',Chg w w' g g' T (T+3)∧LsAt w' g' T b (delL fr x.1) (delL od x.1):=by
 obtain⟨k,f⟩:=x;have C:Hid (∀ w',w=w'→Calls Tryz.prog 82 #[.pointer (some ⟨b,0,none⟩)] w' fun e w''=>e= .returned (.tuple #[.int .i64 (k:Nat), .bool f, .bool true])∧Below w.heap.size w w''):=zH (fun w' e=>by subst e;have:=lshead_any b fr od hf ho g T w hL;rw[hh]at this;exact this);have D:Hid (∀ w',Below w.heap.size w w'→Calls Tryz.prog 114 #[.pointer (some ⟨b,0,none⟩), .int .i64 k] w' fun e w''=>e= .returned (.bool true)∧ ∃ g',Chg w w'' g g' T (T+3)∧LsAt w'' g' T b (delL fr k) (delL od k)):=
  zH fun w' hB=>(lsremove_yes b k fr od hf ho g T hT1 w' (Chg.of_below hT T (T+3) hB).tidy (hL.below hB) (place_ne (x:=(k,f)) (lall_mem hh))).mono fun e w'' ⟨he,g',hc,hl⟩=>⟨he,g',(Chg.of_below hT T (T+3) hB).trans hc,hl⟩
 clear hL hT hh;go_enter Tryz.func85,Tryz.ntmps85
 go_wp2_with fail
 refine(C.out _ rfl).mono ?_;rintro e w1 ⟨rfl,hB⟩;go_wp2_with fail
 refine(D.out _ hB).mono ?_;rintro e w2 ⟨rfl,hC⟩;go_wp2_with fail
 go_ret
 exact⟨rfl,hC⟩
theorem lsback_any (b:Nat) (x:Nat×Bool) (hx:x.1<8) (fr od:List Nat) (hf:fr.length≤8) (ho:od.length≤8) (g:Nat→Nat) (T:Nat) (hT1:1≤T) (w:World) (hT:Tidy w g) (hL:LsAt w g T b fr od) (hh:(lall fr od).head?=some x):
  Calls Tryz.prog 83 #[.pointer (some ⟨b,0,none⟩)] w fun e w'=>e= .returned (.bool true)∧ ∃ g',Chg w w' g g' T (T+3)∧LsAt w' g' T b (delL fr x.1) (delL od x.1++[x.1]):=by
 obtain⟨k,f⟩:=x;have C:Hid (∀ w',w=w'→Calls Tryz.prog 82 #[.pointer (some ⟨b,0,none⟩)] w' fun e w''=>e= .returned (.tuple #[.int .i64 (k:Nat), .bool f, .bool true])∧Below w.heap.size w w''):=zH (fun w' e=>by subst e;have:=lshead_any b fr od hf ho g T w hL;rw[hh]at this;exact this);have D:Hid (∀ w',Below w.heap.size w w'→Calls Tryz.prog 114 #[.pointer (some ⟨b,0,none⟩), .int .i64 k] w' fun e w''=>e= .returned (.bool true)∧ ∃ g',Chg w w'' g g' T (T+3)∧LsAt w'' g' T b (delL fr k) (delL od k)):=
  zH fun w' hB=>(lsremove_yes b k fr od hf ho g T hT1 w' (Chg.of_below hT T (T+3) hB).tidy (hL.below hB) (place_ne (x:=(k,f)) (lall_mem hh))).mono fun e w'' ⟨he,g',hc,hl⟩=>⟨he,g',(Chg.of_below hT T (T+3) hB).trans hc,hl⟩
 have E:Hid (∀ g' w',Chg w w' g g' T (T+3)→LsAt w' g' T b (delL fr k) (delL od k)→Calls Tryz.prog 112 #[.pointer (some ⟨b,0,none⟩), .int .i64 k, .bool false] w' fun e w''=>e= .returned (.int .i64 0)∧ ∃ g',Chg w w'' g g' T (T+3)∧LsAt w'' g' T b (delL fr k) (delL od k++[k])):=
  zH fun g' w' hc hl=>(lspush_new b k false hx (delL fr k) (delL od k) (Nat.le_trans (delL_len _ _) hf) (Nat.le_trans (delL_len _ _) ho) g' T w' hc.tidy hl (place_del fr od k)).mono fun e w'' ⟨he,g'',hc2,hl2⟩=>⟨he,g'',hc.trans hc2,hl2⟩
 clear hL hT hh;go_enter Tryz.func83,Tryz.ntmps83
 go_wp2_with fail
 refine(C.out _ rfl).mono ?_;rintro e w1 ⟨rfl,hB⟩;go_wp2_with fail
 refine(D.out _ hB).mono ?_;rintro e w2 ⟨rfl,g2,hC,hL2⟩;go_wp2_with fail
 refine(E.out g2 _ hC hL2).mono ?_;rintro e w3 ⟨rfl,hC3⟩;go_wp2_with fail
 go_ret
 exact⟨rfl,hC3⟩
theorem lsnew_any (w:World):
  Calls Tryz.prog 46 #[] w fun e w'=>e= .returned (.pointer (some ⟨w.heap.size,0,none⟩))∧w'=w.alloc (.cells #[.slice none 0 0, .slice none 0 0] 150):=by
 go_enter Tryz.func46,Tryz.ntmps46
 go_wp2;go_ret
 exact⟨rfl,rfl⟩
end
end Go.Proofs.YtojgokiobdpclaaGreat
