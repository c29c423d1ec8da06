import Derived.Test.YtojgokiobdpclaaGreatP17
import Derived.Test.YtojgokiobdpclaaGreatP20
import Derived.BigRegion
namespace Go.Proofs.YtojgokiobdpclaaGreat
set_option linter.unusedVariables false
set_option linter.unusedSimpArgs false
set_option maxRecDepth 8000
set_option maxHeartbeats 8000000
section
open Go.RowKit Go.Lib Go.Shelf
attribute [local go_sem] Oper.semAt_some
structure PC where
 frm:Nat
 til:Nat
 sent:ST
 sacked:Bool
 lost:Bool
def pcl (p:PC):List Value:=[.int .u64 p.frm, .int .u64 p.til, .int .u64 p.sent.at_, .int .u64 p.sent.d, .int .u64 p.sent.da, .int .u64 p.sent.fa, .bool p.sent.lim, .bool p.sacked, .bool p.lost]
def pcv (p:PC):Value:= .agg #[.int .u64 p.frm, .int .u64 p.til, .int .u64 p.sent.at_, .int .u64 p.sent.d, .int .u64 p.sent.da, .int .u64 p.sent.fa, .bool p.sent.lim, .bool p.sacked, .bool p.lost]
def pca (p:PC):Array Value:= #[.int .u64 p.frm, .int .u64 p.til, .int .u64 p.sent.at_, .int .u64 p.sent.d, .int .u64 p.sent.da, .int .u64 p.sent.fa, .bool p.sent.lim, .bool p.sacked, .bool p.lost]
section
variable {α:Type} {f:α→List Value} {m:Nat}
theorem flat_len (hf: ∀ x,(f x).length=m) (xs:List α):(xs.flatMap f).length=xs.length*m:=by
 induction xs with
 | nil=>simp
 | cons x xs ih=>rw[List.flatMap_cons,List.length_append,ih,hf,List.length_cons,Nat.add_mul];omega
theorem flat_at (hf: ∀ x,(f x).length=m) {xs:List α} {j:Nat} {x:α} (h:xs[j]? =some x) (q:Nat) (hq:q<m):(xs.flatMap f)[j*m+q]? =(f x)[q]? :=by
 induction xs generalizing j with
 | nil=>simp at h
 | cons y ys ih=>
  rw[List.flatMap_cons];cases j with
  | zero=>
   simp at h
   subst h;rw[List.getElem?_append_left (by rw[hf];omega)];simp
  | succ j=>
   rw[List.getElem?_append_right (by rw[hf,Nat.add_mul];omega),hf,show(j+1)*m+q-m=j*m+q from by rw[Nat.add_mul];omega];exact ih (by simpa using h)
theorem flat_snoc (xs:List α) (x:α):(xs++[x]).flatMap f=xs.flatMap f++f x:=by simp[List.flatMap_append]
end
theorem pcl_len (p:PC):(pcl p).length=9:=rfl
theorem pcl_one (p:PC): ∀ u∈pcl p,u.oneCell'=true:=by
 intro u hu;simp only[pcl,List.mem_cons,List.not_mem_nil,or_false]at hu;rcases hu with rfl | rfl | rfl | rfl | rfl | rfl | rfl | rfl | rfl<;>rfl
structure BdAt (w:World) (g:Nat→Nat) (T b:Nat) (l:List PC) (e:Nat):Prop where
 ex: ∃ v,Of w g T b 220 #[v, .int .u64 e]∧Sli w g (T+1) 192 9 v l.length (l.flatMap pcl)
section
variable {w w':World} {g g':Nat→Nat} {T b lo hi e:Nat} {l:List PC}
theorem BdAt.below (h:BdAt w g T b l e) (hb:Below w.heap.size w w'):BdAt w' g T b l e:=by
 obtain⟨v,h1,h2⟩:=h.ex;exact⟨v,h1.below hb,h2.below hb⟩
theorem BdAt.chg (h:BdAt w g T b l e) (c:Chg w w' g g' lo hi) (h1:T+2≤lo∨hi≤T):BdAt w' g' T b l e:=by
 obtain⟨v,k1,k2⟩:=h.ex;exact⟨v,k1.chg c (by omega),k2.chg c (by omega)⟩
theorem BdAt.lt (h:BdAt w g T b l e):b<w.heap.size∧g b=T:=by
 obtain⟨v,k1,k2⟩:=h.ex;exact⟨k1.1.lt,k1.2⟩
end
def penc (p:PC):Array Value:= #[pcv p]
set_option maxRecDepth 100000 in
theorem bdall1_in (n:Nat) (hn:1≤n) (lp Bs b e:Nat) (l:List PC) (hl:l.length≤5000) (J Jx:List PC→World→Prop)
  (hY: ∀ pre x W,J pre W→pre.length<l.length→YieldAt Fence.wide (n-1) Tryz.prog lp (penc x) W fun e W'=>
   (e= .returned (.bool true)∧J (pre++[x]) W'∧KpT (fun t=>t=22∨t=3) W W')∨(e= .returned (.bool false)∧Jx (pre++[x]) W'))
  (W:World) (hBs:W.cell? ⟨Bs,0,none⟩=some (.pointer (some ⟨b,0,none⟩))) (g:Nat→Nat) (T:Nat) (hL:BdAt W g T b l e)
  (hJ: ∀ pre W W',J pre W→Below W.heap.size W W'→J pre W') (h0:J [] W):
  CallsIn Fence.wide n Tryz.prog 143 #[.func (.yield lp) #[] #[], .pointer (some ⟨Bs,0,none⟩)] W fun e W'=>(∃ v,e= .returned v)∧
   ((∃ ys,ys=l∧J ys W')∨(∃ pre,pre<+:l∧Jx pre W')):=by
 obtain⟨v,hS,hR⟩:=hL.ex;have c0:=hS.1.ce 0;obtain⟨a,cap,rfl,_,_⟩:=hR.cap_;have hblt:=hS.1.lt;have HR:=zH hR;have HY:=zH hY;obtain⟨N,eN⟩: ∃ N,l.length=N:=⟨_,rfl⟩;rw[eN]at c0;clear hR hL hY hS;refine callsIn_of_wp Tryz.func143 rfl trivial ?_ rfl;simp only[Tryz.ntmps143,List.size_toArray,List.length_cons,List.length_nil,Nat.reduceAdd,Nat.reduceSub,Array.replicate_succ,Array.replicate_zero,List.push_toArray,List.append_toArray,List.nil_append,List.cons_append];gi_wp2
 gi_loopw [12] (fun i wr=> ∃ k:Nat,k≤N∧i= .int .i64 k∧J (l.take k) wr∧KpT (fun t=>t=22∨t=3) W wr) (fun i _=>N-(intOf i).toNat)
 case atStart=>exact⟨0,Nat.zero_le _,rfl,by simpa using h0,KpT.refl _ _⟩
 case round=>
  obtain⟨k,hk,rfl,hJs,hnx⟩:=hrel;by_cases hlt:k<N
  ·have hpos:0<l.length:=by omega
   rcases HR.out.form with⟨h1,h2,_⟩ | ⟨bb,off,cap',ea,ht,hbb,_,_⟩
   ·omega
   cases ea
   obtain⟨x,hx⟩: ∃ x,l[k]? =some x:=⟨_,List.getElem?_eq_getElem (by omega)⟩;have hrow: ∀ q,q<9→wr.cell? ⟨bb,off+k*9+q,none⟩=(pcl x)[q]? :=by
    intro q hq;have hk9:k*9+q<l.length*9:=by omega
    have hc:=HR.out.cells (k*9+q) hk9;rw[flat_at pcl_len hx q hq]at hc;obtain⟨y,hy⟩: ∃ y,(pcl x)[q]? =some y:=⟨_,List.getElem?_eq_getElem (by rw[pcl_len];exact hq)⟩;rw[hy]at hc ⊢;rcases HR.out.2 with⟨h1,_⟩ | ⟨b',off',cap',cur,h1,h2,h3,_⟩
    ·cases h1
    ·cases h1
     have:=hnx.kept bb cur 192 (0,0) h3 (by decide);rw[←Nat.add_assoc]at hc;rw[cell_of_row W bb _ cur 192 (0,0) h3]at hc;rw[cell_of_row wr bb _ cur 192 (0,0) this];exact hc
   have r0:=hrow 0 (by omega);have r1:=hrow 1 (by omega);have r2:=hrow 2 (by omega);have r3:=hrow 3 (by omega);have r4:=hrow 4 (by omega);have r5:=hrow 5 (by omega);have r6:=hrow 6 (by omega);have r7:=hrow 7 (by omega);have r8:=hrow 8 (by omega);simp only[pcl,List.getElem?_cons_zero,List.getElem?_cons_succ,Nat.add_zero]at r0 r1 r2 r3 r4 r5 r6 r7 r8;have hsn:=take_snoc hx;clear hrow;obtain⟨fn,tmps,assign,body,hy,hR⟩:=HY.out _ x (wr.alloc (.cells (pca x) 192)) (hJ _ _ _ hJs ((Below.refl _ wr).alloc (Nat.le_refl _) _)) (by rw[List.length_take,eN];omega);have hk0:KpT (fun t=>t=22∨t=3) wr (wr.alloc (.cells (pca x) 192)):=KpT.below ((Below.refl _ wr).alloc (Nat.le_refl _) _);simp only[penc,pcv,pca]at hy hR hk0;gi_wp2
   refine hR.mono ?_;rintro e W3 (⟨rfl,hJ3,hk3⟩ | ⟨rfl,hJx3⟩)
   ·gi_wp2
    go_roundw
    case rel=>exact⟨k+1,by omega,by simp,by rw[hsn];exact hJ3,(hnx.trans hk0).trans hk3⟩
    case measure=>simp[intOf];omega
   ·gi_wp2
    refine bodyPost_ret (results_none rfl _ _ _) rfl ?_;exact⟨⟨_,rfl⟩, .inr ⟨_,⟨l.drop (k+1),by rw[←hsn,List.take_append_drop]⟩,hJx3⟩⟩
  ·obtain rfl:k=N:=by omega
   gi_wp2
   go_end0
   exact⟨⟨_,rfl⟩, .inl ⟨_,rfl,by rw[List.take_of_length_le (by omega)]at hJs;exact hJs⟩⟩
end
section
open Go.RowKit Go.Lib Go.Shelf
attribute [local go_sem] Oper.semAt_some
abbrev kpN:TypeId→Prop:=fun t=>t=22∨t=3
theorem bd_stops (n:Nat) (hn:1≤n) (Bs b e:Nat) (l:List PC) (hl:l.length≤5000) (g:Nat→Nat) (T:Nat) (w:World) (hc:w.cell? ⟨Bs,0,none⟩=some (.pointer (some ⟨b,0,none⟩))) (hL:BdAt w g T b l e):
  SeqStopsK Fence.wide n Tryz.prog 143 #[.pointer (some ⟨Bs,0,none⟩)] penc (KpT kpN) (fun ys=>ys=l) (fun pre=>pre<+:l) l.length w:=fun lp J Jx W hW hA _ hY h0=>
 bdall1_in n hn lp Bs b e l hl J Jx hY W ((hW.cell (World.block_lt_of_cell? _ _ hc)).trans hc) g T (hL.below hW)
  (fun pre W1 W2 hj hb=>hA pre W1 W2 none hj (below_grown hb) (by simp)) h0
theorem bdall_any (b:Nat) (w:World):
  Calls Tryz.prog 105 #[.pointer (some ⟨b,0,none⟩)] w fun e w'=>e= .returned (.func (.func 143) #[] #[.pointer (some ⟨w.heap.size,0,none⟩)])∧w'=w.alloc (.cells #[.pointer (some ⟨b,0,none⟩)] 120):=by
 go_enter Tryz.func105,Tryz.ntmps105
 go_wp2;go_ret
 exact⟨rfl,rfl⟩
def flyB (p:PC):Bool:= !p.sacked&& !p.lost
theorem flying_any (p:PC) (w:World):
  Calls Tryz.prog 106 #[pcv p] w fun e w'=>e= .returned (.bool (flyB p))∧w'=w.alloc (.cells (pca p) 192):=by
 obtain⟨a,b,s,sk,lo⟩:=p;unfold pcv pca flyB;cases sk<;>cases lo
 all_goals
  go_enter Tryz.func106,Tryz.ntmps106
  go_wp2;go_ret
  exact⟨rfl,rfl⟩
def flW (n:Int) (p:PC):Int:=if flyB p then IntKind.u64.wrap (n+IntKind.u64.wrap ((p.til:Int)-(p.frm:Int)))else n
def flSum (l:List PC):Int:=l.foldl flW 0
theorem flSum_snoc (l:List PC) (p:PC):flSum (l++[p])=flW (flSum l) p:=by simp[flSum]
theorem at_keep {W W':World} {row:Option Nat} {B B0:Nat} {t:TypeId} {cs:Array Value} (h:At W B t cs) (hg:W.grownBy W' row) (hr: ∀ r,row=some r→B0≤r∧ ∃ o:Obj,W.heap[r]? =some o∧o.isCells=false):At W' B t cs:=
 h.kept hg fun e=>by
  obtain⟨_,o,ho,hc⟩:=hr B e.symm;unfold At at h;rw[h]at ho;cases ho
  cases hc
theorem Boxed.heap_ {W:World} {B:Nat} {t:TypeId} {v:Value} (h:Boxed W B t v):W.heap[B]? =some (.cells #[v] t (0,0)):=h
theorem kp_set {S:TypeId→Prop} (W:World) {B i:Nat} {t:TypeId} {cs:Array Value} {fr:Nat×Nat} (h:W.heap[B]? =some (.cells cs t fr)) (ht:S t) (u:Value):KpT S W (W.setCell ⟨B,i,none⟩ u):=
 ⟨by simp[World.setCell],fun k cs' t' fr' hk hs=>by
  refine(Below.heap_setCell W ⟨B,i,none⟩ u k fun e=> ?_).trans hk;obtain rfl:k=B:=e;rw[h]at hk;cases hk
  exact hs ht⟩
set_option maxRecDepth 100000 in
theorem bdflight_any (b e0:Nat) (l:List PC) (hl:l.length≤5000) (g:Nat→Nat) (T:Nat) (w:World) (hL:BdAt w g T b l e0):
  Calls Tryz.prog 69 #[.pointer (some ⟨b,0,none⟩)] w fun e W'=>e= .returned (.int .u64 (flSum l))∧Below w.heap.size w W':=by
 refine(callsIn_wide (n:=10)).1 ?_;refine callsIn_of_wp_marks Tryz.func69 rfl trivial ?_ rfl;simp only[Tryz.ntmps69,List.size_toArray,List.length_cons,List.length_nil,Nat.reduceAdd,Nat.reduceSub,Array.replicate_succ,Array.replicate_zero,List.push_toArray,List.append_toArray,List.nil_append,List.cons_append];have C:Hid (∀ w',Calls Tryz.prog 105 #[.pointer (some ⟨b,0,none⟩)] w' fun e w''=>e= .returned (.func (.func 143) #[] #[.pointer (some ⟨w'.heap.size,0,none⟩)])∧w''=w'.alloc (.cells #[.pointer (some ⟨b,0,none⟩)] 120)):=zH (bdall_any b);have hblt:=hL.lt.1;have HL:=zH hL;clear hL;gi_wp2_with (refine⟨trivial, ?_⟩;gi_at_call 105;refine(callsIn_wide.2 (C.out _)).mono ?_;rintro e w' ⟨rfl,rfl⟩)
 obtain⟨s,es⟩: ∃ s,w.heap.size=s:=⟨_,rfl⟩;refine wpIn_named (fun W=>Boxed W s 22 (.int .u64 0)∧W.cell? ⟨s+1,0,none⟩=some (.pointer (some ⟨b,0,none⟩))∧W.heap.size=s+2∧Below s w W)
  ?nm ?_
 case nm=>
   subst es;refine⟨(Boxed.new w _ _).alloc _, ?_,by simp,((Below.refl _ w).alloc (Nat.le_refl _) _).alloc (by simp) _⟩;have:=Boxed.new (w.alloc (.cells #[.int .u64 0] 22)) 120 (.pointer (some ⟨b,0,none⟩));simp only[World.size_alloc]at this;exact this.cell
 rintro W ⟨B0,hc3,hsz,hBW⟩;simp only[es];have hLW:BdAt W g T b l e0:=HL.out.below (by rw[es];exact hBW);refine wpIn_rangeFunc_ownH (F:=Fence.wide) rfl (by omega) (gf:=143) (lb:= #[.pointer (some ⟨s+1,0,none⟩)]) rfl trivial (enters_of Tryz.func143 (by kernel_rfl) rfl)
  (bd_stops 9 (by omega) (s+1) b e0 l hl g T W hc3 hLW) (fun h k=>h.trans k) (fun V l o o' _ h1 h2 _=>KpT.put V l o o' h1 h2) (Below.refl _ _) (fun _=>rfl)
  (fun pre V=>Boxed V s 22 (.int .u64 (flSum pre))∧Below s w V)
  (fun c pre V=>False)
  ?hI (fun _ _ _ _ _ hs _ _=>hs) ⟨B0,hBW⟩
  (fun x a' V=> ∃ Bx,s<Bx∧At V Bx 192 (pca x)∧a'={ tmps:= #[.pointer (some ⟨b,0,none⟩),undef, .int .u64 0, .pointer (some ⟨s,0,none⟩), .pointer (some ⟨Bx,0,none⟩), .pointer (some ⟨b,0,none⟩), .func (.func 143) #[] #[.pointer (some ⟨s+1,0,none⟩)],pcv x,undef,undef,undef,undef,undef,undef,undef,undef,undef,undef],defers:=[] }) ?hAx ?assign ?body ?done ?stop
 case hI=>
  rintro pre A B row ⟨h1,h5⟩ hg hr;exact⟨boxed_kept h1 hg hr,h5.grown hg (by rw[←es];rw[←es]at h5;exact h5.size) (fun k e=>by have:=(hr k e).1;omega)⟩
 case hAx=>
  rintro x a' _ A B row ⟨Bx,h1,h2,h3⟩ hg hr;exact⟨Bx,h1,at_keep h2 hg hr,h3⟩
 case assign=>
  rintro lp pre x V K ⟨h1,h5⟩ hK;have hV:=h1.lt;simp only[penc];unfold pcv;gi_wp2
  exact hK _ _ ((KeepsOthers.alloc _ _).from _) (KpT.below ((Below.refl _ V).alloc (Nat.le_refl _) _)) ⟨h1.alloc _,h5.alloc (by omega) _⟩ ⟨V.heap.size,hV,At.made V _ _,rfl⟩
 case body=>
  rintro lp pre x a' V hlp hr0 ⟨h1,h5⟩ ⟨Bx,hBx,hAt,rfl⟩ _;have CF:Hid (∀ w',Calls Tryz.prog 106 #[pcv x] w' fun e w''=>e= .returned (.bool (flyB x))∧w''=w'.alloc (.cells (pca x) 192)):=zH (flying_any x);have hV:=hAt.lt;have hVs:=h1.lt;have h1a:=h1.alloc (.cells (pca x) 192);have hAa:=hAt.kept (World.grownBy_alloc V (.cells (pca x) 192) none) (by simp);have h5a:=h5.alloc (Nat.le_of_lt hVs) (.cells (pca x) 192);have hkf:KeepsFrom W.heap.size V (V.alloc (.cells (pca x) 192)):=(KeepsOthers.alloc _ _).from _;have hkp:KpT kpN V (V.alloc (.cells (pca x) 192)):=KpT.below ((Below.refl _ V).alloc (Nat.le_refl _) _);have c0:=h1.cell;have f0:=h1.frozen;have r0:=hAt.cell 0;have r1:=hAt.cell 1;have r2:=hAt.cell 2;have r3:=hAt.cell 3;have r4:=hAt.cell 4;have r5:=hAt.cell 5;have r6:=hAt.cell 6;have r7:=hAt.cell 7;have r8:=hAt.cell 8;simp only[pca,List.getElem?_toArray,List.getElem?_cons_zero,List.getElem?_cons_succ]at r0 r1 r2 r3 r4 r5 r6 r7 r8;have hsn:=flSum_snoc pre x;generalize hfb:flyB x=fb at CF
  unfold flW at hsn;rw[hfb]at hsn;unfold pcv at CF;cases fb
  ·gi_wp2_with (refine⟨trivial, ?_⟩;gi_at_call 106;refine(CallsIn.inRound lp (callsIn_wide.2 (CF.out _))).mono ?_;rintro e w' ⟨rfl,rfl⟩)
   exact⟨hkf,hkp,by rw[hsn];exact h1a,h5a⟩
  ·gi_wp2_with (refine⟨trivial, ?_⟩;gi_at_call 106;refine(CallsIn.inRound lp (callsIn_wide.2 (CF.out _))).mono ?_;rintro e w' ⟨rfl,rfl⟩)
   rw[if_pos trivial]at hsn;rw[←hsn];have h5s:=h5.setCell (p:=⟨s,0,none⟩) (Nat.le_refl _) (.int .u64 (flSum (pre++[x])));exact⟨((KeepsOthers.setCell _ _ _).trans (KeepsOthers.alloc _ _)).from _,(kp_set (S:=kpN) V (Boxed.heap_ h1) (Or.inl rfl) _).trans (KpT.below ((Below.refl _ _).alloc (Nat.le_refl _) _)),(h1.set _).alloc _,h5s.alloc (by simp[World.setCell];omega) _⟩
 case done=>
  rintro D ys V hD rfl ⟨h2,h5⟩ hK;have c0:=h2.cell;rw[hsz]at hD;gi_wp2
  refine⟨by simp, .inl ⟨_,_,rfl,run_takeDeferred hK, ?_⟩⟩;exact⟨_,results_tmp rfl _ _ _,rfl,by rw[es];exact h5.trans (belowK_b (w:=w) (by omega) _ D _ _ (by omega) hK rfl rfl)⟩
 case stop=>
  rintro D c pre V hD hp h hK;exact h.elim
def lostIx (l:List PC):Int:=match l.findIdx? (fun p=>p.lost)with
 | some i=>i
 | none=> -1
theorem lostIx_none {l:List PC} (h: ∀ p∈l,p.lost=false):lostIx l= -1:=by
 unfold lostIx;rw[List.findIdx?_eq_none_iff.2 (fun p hp=>by simpa using h p hp)]
theorem lostIx_pre {l pre:List PC} {x:PC} (hp:pre++[x]<+:l) (h: ∀ p∈pre,p.lost=false) (hx:x.lost=true):lostIx l=pre.length:=by
 obtain⟨r,rfl⟩:=hp;unfold lostIx;have:List.findIdx? (fun p:PC=>p.lost) (pre++[x]++r)=some pre.length:=by
  rw[List.append_assoc,List.findIdx?_append,List.findIdx?_eq_none_iff.2 (fun p hp=>by simpa using h p hp)];simp[List.findIdx?_cons,hx]
 rw[this]
set_option maxRecDepth 100000 in
theorem bdlost_any (b e0:Nat) (l:List PC) (hl:l.length≤5000) (g:Nat→Nat) (T:Nat) (w:World) (hL:BdAt w g T b l e0):
  Calls Tryz.prog 170 #[.pointer (some ⟨b,0,none⟩)] w fun e W'=>e= .returned (.int .i64 (lostIx l))∧Below w.heap.size w W':=by
 refine(callsIn_wide (n:=10)).1 ?_;refine callsIn_of_wp_marks Tryz.func170 rfl trivial ?_ rfl;simp only[Tryz.ntmps170,List.size_toArray,List.length_cons,List.length_nil,Nat.reduceAdd,Nat.reduceSub,Array.replicate_succ,Array.replicate_zero,List.push_toArray,List.append_toArray,List.nil_append,List.cons_append];have C:Hid (∀ w',Calls Tryz.prog 105 #[.pointer (some ⟨b,0,none⟩)] w' fun e w''=>e= .returned (.func (.func 143) #[] #[.pointer (some ⟨w'.heap.size,0,none⟩)])∧w''=w'.alloc (.cells #[.pointer (some ⟨b,0,none⟩)] 120)):=zH (bdall_any b);have hblt:=hL.lt.1;have HL:=zH hL;clear hL;gi_wp2_with (refine⟨trivial, ?_⟩;gi_at_call 105;refine(callsIn_wide.2 (C.out _)).mono ?_;rintro e w' ⟨rfl,rfl⟩)
 obtain⟨s,es⟩: ∃ s,w.heap.size=s:=⟨_,rfl⟩;refine wpIn_named (fun W=>Boxed W s 3 (.int .i64 0)∧Boxed W (s+1) 3 (.int .i64 0)∧W.cell? ⟨s+2,0,none⟩=some (.pointer (some ⟨b,0,none⟩))∧W.heap.size=s+3∧Below s w W)
  ?nm ?_
 case nm=>
   subst es;refine⟨((Boxed.new w _ _).alloc _).alloc _, ?_, ?_,by simp,(((Below.refl _ w).alloc (Nat.le_refl _) _).alloc (by simp) _).alloc (by simp;omega) _⟩
   ·have:=Boxed.new (w.alloc (.cells #[.int .i64 0] 3)) 3 (.int .i64 0)
    simp only[World.size_alloc]at this;exact this.alloc _
   ·have:=Boxed.new ((w.alloc (.cells #[.int .i64 0] 3)).alloc (.cells #[.int .i64 0] 3)) 120 (.pointer (some ⟨b,0,none⟩))
    simp only[World.size_alloc]at this;exact this.cell
 rintro W ⟨B0,B1,hc3,hsz,hBW⟩;simp only[es,Nat.add_assoc,Nat.reduceAdd];have hLW:BdAt W g T b l e0:=HL.out.below (by rw[es];exact hBW);refine wpIn_rangeFunc_ownH (F:=Fence.wide) rfl (by omega) (gf:=143) (lb:= #[.pointer (some ⟨s+2,0,none⟩)]) rfl trivial (enters_of Tryz.func143 (by kernel_rfl) rfl)
  (bd_stops 9 (by omega) (s+2) b e0 l hl g T W hc3 hLW) (fun h k=>h.trans k) (fun V l o o' _ h1 h2 _=>KpT.put V l o o' h1 h2) (Below.refl _ _) (fun _=>rfl)
  (fun pre V=>(∀ p∈pre,p.lost=false)∧Boxed V s 3 (.int .i64 0)∧Boxed V (s+1) 3 (.int .i64 (pre.length:Nat))∧Below s w V)
  (fun c pre V=>c= .ret∧ ∃(ini:List PC) (x:PC),pre=ini++[x]∧(∀ p∈ini,p.lost=false)∧x.lost=true∧Boxed V s 3 (.int .i64 (ini.length:Nat))∧Below s w V)
  ?hI ?hIx ⟨by simp,B0,B1,hBW⟩
  (fun x a' V=> ∃ Bx,s+1<Bx∧At V Bx 192 (pca x)∧a'={ tmps:= #[.pointer (some ⟨b,0,none⟩),undef, .pointer (some ⟨s,0,none⟩), .pointer (some ⟨s+1,0,none⟩), .pointer (some ⟨Bx,0,none⟩), .pointer (some ⟨b,0,none⟩), .func (.func 143) #[] #[.pointer (some ⟨s+2,0,none⟩)],pcv x,undef,undef,undef,undef,undef],defers:=[] }) ?hAx ?assign ?body ?done ?stop
 case hI=>
  rintro pre A B row ⟨h0,h1,h2,h5⟩ hg hr;exact⟨h0,boxed_kept h1 hg hr,boxed_kept h2 hg hr,h5.grown hg (by rw[←es];rw[←es]at h5;exact h5.size) (fun k e=>by have:=(hr k e).1;omega)⟩
 case hIx=>
  rintro c pre A B row ⟨h0,ini,x,k1,k2,k3,h1,h5⟩ hg hr;exact⟨h0,ini,x,k1,k2,k3,boxed_kept h1 hg hr,h5.grown hg (by rw[←es];rw[←es]at h5;exact h5.size) (fun k e=>by have:=(hr k e).1;omega)⟩
 case hAx=>
  rintro x a' _ A B row ⟨Bx,h1,h2,h3⟩ hg hr;exact⟨Bx,h1,at_keep h2 hg hr,h3⟩
 case assign=>
  rintro lp pre x V K ⟨h0,h1,h2,h5⟩ hK;have hV:=h2.lt;simp only[penc];unfold pcv;gi_wp2
  exact hK _ _ ((KeepsOthers.alloc _ _).from _) (KpT.below ((Below.refl _ V).alloc (Nat.le_refl _) _)) ⟨h0,h1.alloc _,h2.alloc _,h5.alloc (by omega) _⟩ ⟨V.heap.size,hV,At.made V _ _,rfl⟩
 case body=>
  rintro lp pre x a' V hlp hr0 ⟨h0,h1,h2,h5⟩ ⟨Bx,hBx,hAt,rfl⟩ hpl;have c0:=h1.cell;have f0:=h1.frozen;have c1:=h2.cell;have f1:=h2.frozen;have r8:=hAt.cell 8;simp only[pca,List.getElem?_toArray,List.getElem?_cons_zero,List.getElem?_cons_succ]at r8;generalize hfb:x.lost=fb at r8
  cases fb
  ·gi_wp2
   have ew:(pre.length:Int)+1=(((pre++[x]).length:Nat):Int):=by simp
   rw[ew];exact⟨(KeepsOthers.setCell _ _ _).from _,kp_set (S:=kpN) V (Boxed.heap_ h2) (Or.inr rfl) _,fun p hp=>(List.mem_append.1 hp).elim (h0 p) (fun e=>by simp at e;subst e;exact hfb),h1.kept (grownBy_setCell' V (s+1) _) (by simp),h2.set _,h5.setCell (p:=⟨s+1,0,none⟩) (Nat.le_succ _) _⟩
  ·gi_wp2
   exact⟨(KeepsOthers.setCell _ _ _).from _,rfl,pre,x,rfl,h0,hfb,h1.set _,h5.setCell (p:=⟨s,0,none⟩) (Nat.le_refl _) _⟩
 case done=>
  rintro D ys V hD rfl ⟨h0,h1,h2,h5⟩ hK;have c0:=h1.cell;have f0:=h1.frozen;rw[hsz]at hD;gi_wp2
  have hK':=(KeepsOthers.setCell V ⟨s,0,none⟩ (.int .i64 (-1))).same D _ hK rfl;have g1:=h1.set (.int .i64 (-1));refine⟨by simp, .inl ⟨_,_,rfl,run_takeDeferred hK', ?_⟩⟩;have d1:=(boxed_kept (B0:=s) g1 (grownBy_putObj' _ D (.deferred none)) (fun r e=>by cases e;exact⟨by omega,_,hK',rfl⟩)).cell;refine⟨.int .i64 (-1), ?_, ?_, ?_⟩
  ·simp[results,Tryz.f170,go_sem,d1]
  ·rw[lostIx_none h0]
  ·rw[es]
   exact(h5.setCell (p:=⟨s,0,none⟩) (Nat.le_refl _) _).trans (belowK_b (w:=w) (by omega) _ D _ _ (by omega) hK' rfl rfl)
 case stop=>
  rintro D c pre V hD hp ⟨rfl,ini,x,rfl,h2,h3,h4,h5⟩ hK;rw[hsz]at hD;have c1:=h4.cell;gi_wp2
  refine⟨by simp, .inl ⟨_,_,rfl,run_takeDeferred hK, ?_⟩⟩;have d1:=(boxed_kept (B0:=s) h4 (grownBy_putObj' _ D (.deferred none)) (fun r e=>by cases e;exact⟨by omega,_,hK,rfl⟩)).cell;refine⟨.int .i64 (ini.length:Nat), ?_, ?_, ?_⟩
  ·simp[results,Tryz.f170,go_sem,d1]
  ·rw[lostIx_pre hp h2 h3]
  ·rw[es]
   exact h5.trans (belowK_b (w:=w) (by omega) _ D _ _ (by omega) hK rfl rfl)
end
section
open Go.RowKit Go.Lib
def zeroR:Value:= .agg #[.int .u64 0, .int .u64 0]
def rgv (p:PC):Value:= .agg #[.int .u64 p.frm, .int .u64 p.til]
theorem lostIx_cases (l:List PC):(lostIx l= -1∧l.find? (fun p=>p.lost)=none)∨ ∃(i:Nat) (x:PC),lostIx l=(i:Nat)∧l[i]? =some x∧l.find? (fun p=>p.lost)=some x∧x.lost=true:=by
 unfold lostIx;cases h:l.findIdx? (fun p=>p.lost)with
 | none=>
  refine .inl ⟨rfl, ?_⟩;rw[List.find?_eq_none];intro x hx;have:=(List.findIdx?_eq_none_iff.1 h) x hx;simpa using this
 | some i=>
  rw[List.findIdx?_eq_some_iff_getElem]at h;obtain⟨hi,hx,hlt⟩:=h;refine .inr ⟨i,l[i],rfl,List.getElem?_eq_getElem hi, ?_,by simpa using hx⟩;rw[List.find?_eq_some_iff_getElem];exact⟨hx,i,hi,rfl,fun j hj=>by simpa using hlt j hj⟩
theorem bd_cells {w:World} {g:Nat→Nat} {T b e:Nat} {l:List PC} (h:BdAt w g T b l e) {i:Nat} {x:PC} (hx:l[i]? =some x):
  ∃ bb off cap,w.cell? ⟨b,0,none⟩=some (.slice (some ⟨bb,off,none⟩) l.length cap)∧Of w g T b 220 #[.slice (some ⟨bb,off,none⟩) l.length cap, .int .u64 e]∧Sli w g (T+1) 192 9 (.slice (some ⟨bb,off,none⟩) l.length cap) l.length (l.flatMap pcl)∧bb≠b∧
   (∀ q,q<9→w.cell? ⟨bb,off+i*9+q,none⟩=(pcl x)[q]?)∧ ∀ j,w.frozen? ⟨bb,j,none⟩=false:=by
 obtain⟨v,h1,h2⟩:=h.ex;have hi:=(List.getElem?_eq_some_iff.1 hx).1;rcases h2.form with⟨k1,k2,_⟩ | ⟨bb,off,cap,rfl,ht,hbb,_,_⟩
 ·omega
 ·refine⟨bb,off,cap,h1.1.cell 0,h1,h2, ?_, ?_,fun j=>h2.free j⟩
  ·rintro rfl;have:=h1.2;omega
  ·intro q hq
   have:=h2.cells (i*9+q) (by omega);rw[flat_at pcl_len hx q hq,←Nat.add_assoc]at this;exact this
theorem bdLost_none (b e:Nat) (l:List PC) (hl:l.length≤5000) (g:Nat→Nat) (T:Nat) (w:World) (hL:BdAt w g T b l e) (hn:lostIx l= -1):
  Calls Tryz.prog 165 #[.pointer (some ⟨b,0,none⟩)] w fun e w'=>e= .returned (.tuple #[zeroR, .bool false])∧Below w.heap.size w w':=by
 have C:Hid (∀ w',Below w.heap.size w w'→Calls Tryz.prog 170 #[.pointer (some ⟨b,0,none⟩)] w' fun e w''=>e= .returned (.int .i64 (-1))∧Below w'.heap.size w' w''):=zH fun w' hB=>by have:=bdlost_any b e l hl g T w' (hL.below hB);rw[hn]at this;exact this
 clear hL hn;go_enter Tryz.func165,Tryz.ntmps165
 go_wp2_with fail
 refine(C.out _ ((Below.refl _ w).alloc (Nat.le_refl _) _)).mono ?_;rintro e w1 ⟨rfl,hB⟩;have hB1:Below w.heap.size w w1:=((Below.refl w.heap.size w).alloc (Nat.le_refl _) _).trans (hB.mono (by simp));have A1:At w1 w.heap.size 64 #[.int .u64 0, .int .u64 0]:=(At.made w _ _).below hB (by simp);have c0:=A1.cell 0;have c1:=A1.cell 1;have f0:=A1.free 0;have f1:=A1.free 1;simp only[List.getElem?_toArray,List.getElem?_cons_zero,List.getElem?_cons_succ]at c0 c1;have HB:=zH hB1;clear hB hB1 A1;go_wp2_with fail
 refine bodyPost_ret (v:= .tuple #[zeroR, .bool false]) (by simp[results,Tryz.results165,go_sem,c0,c1,zeroR]) rfl ⟨rfl, ?_⟩;exact(HB.out.setCell (p:=⟨w.heap.size,0,none⟩) (Nat.le_refl _) _).setCell (p:=⟨w.heap.size,1,none⟩) (Nat.le_refl _) _
theorem bdLost_some (b e i:Nat) (x:PC) (l:List PC) (hl:l.length≤5000) (g:Nat→Nat) (T:Nat) (w:World) (hL:BdAt w g T b l e) (hn:lostIx l=(i:Nat)) (hx:l[i]? =some x):
  Calls Tryz.prog 165 #[.pointer (some ⟨b,0,none⟩)] w fun e w'=>e= .returned (.tuple #[rgv x, .bool true])∧Below w.heap.size w w':=by
 have C:Hid (∀ w',Below w.heap.size w w'→Calls Tryz.prog 170 #[.pointer (some ⟨b,0,none⟩)] w' fun e w''=>e= .returned (.int .i64 (i:Nat))∧Below w'.heap.size w' w''):=zH fun w' hB=>by have:=bdlost_any b e l hl g T w' (hL.below hB);rw[hn]at this;exact this
 have HL:=zH hL;have hi:=(List.getElem?_eq_some_iff.1 hx).1;have hblt:=hL.lt.1;have hpos: ¬(i:Int)<0:=by omega
 clear hL hn;obtain⟨N,eN⟩: ∃ N,l.length=N:=⟨_,rfl⟩;go_enter Tryz.func165,Tryz.ntmps165
 go_wp2_with fail
 refine(C.out _ ((Below.refl _ w).alloc (Nat.le_refl _) _)).mono ?_;rintro e2 w1 ⟨rfl,hB⟩;have hB1:Below w.heap.size w w1:=((Below.refl w.heap.size w).alloc (Nat.le_refl _) _).trans (hB.mono (by simp));have A1:At w1 w.heap.size 64 #[.int .u64 0, .int .u64 0]:=(At.made w _ _).below hB (by simp);have c0:=A1.cell 0;have c1:=A1.cell 1;have f0:=A1.free 0;have f1:=A1.free 1;simp only[List.getElem?_toArray,List.getElem?_cons_zero,List.getElem?_cons_succ]at c0 c1;obtain⟨bb,off,cap,k0,kO,kS,kne,kc,kf⟩:=bd_cells (HL.out.below hB1) hx;have hbb:bb<w.heap.size:=by
  obtain⟨v,q1,q2⟩:=HL.out.ex;have e1:=(q1.below hB1).1.cell 0;rw[k0]at e1;simp at e1
  subst e1;exact q2.tag_.2
 have r0:=kc 0 (by omega);have r1:=kc 1 (by omega);simp only[pcl,List.getElem?_cons_zero,List.getElem?_cons_succ,Nat.add_zero]at r0 r1;rw[eN]at k0 hi;have n1:w.heap.size≠bb:=by omega
 have n2:w.heap.size≠b:=by omega
 have HB:=zH hB1;have H1:=zH A1;clear hB hB1 A1 kO kS kc kf hbb hblt kne;go_wp2_with fail
 go_region
 go_wp2_with fail
 refine bodyPost_ret (v:= .tuple #[rgv x, .bool true]) (by simp[results,Tryz.results165,go_sem,c0,c1,rgv]) rfl ⟨rfl, ?_⟩;exact((HB.out.setCell (p:=⟨w.heap.size,0,none⟩) (Nat.le_refl _) _).setCell (p:=⟨w.heap.size,1,none⟩) (Nat.le_refl _) _).drew
theorem Sli.storedA {w:World} {g:Nat→Nat} {i:Nat} {e:TypeId} {size:Nat} {n:Nat} {xs:List Value} {b off cap:Nat} (h:Sli w g i e size (.slice (some ⟨b,off,none⟩) n cap) n xs) (A j:Nat) (u:Value) (hA:A=off+j) (hj:j<n*size):Sli (w.setCell ⟨b,A,none⟩ u) g i e size (.slice (some ⟨b,off,none⟩) n cap) n (xs.set j u):=by
 subst hA;exact h.stored j u hj
theorem flat_split {α:Type} {f:α→List Value} {m:Nat} (hf: ∀ x,(f x).length=m) {l:List α} {i:Nat} {x:α} (hx:l[i]? =some x):
  ∃ A B,l.flatMap f=A++f x++B∧A.length=i*m∧ ∀ y,(l.set i y).flatMap f=A++f y++B:=by
 obtain⟨hi,e⟩:=List.getElem?_eq_some_iff.1 hx;have e0:l=l.take i++x::l.drop (i+1):=by
  rw[←e];simp
 refine⟨(l.take i).flatMap f,(l.drop (i+1)).flatMap f, ?_, ?_,fun y=> ?_⟩
 ·conv=>lhs;rw[e0]
  simp
 ·rw[flat_len hf,List.length_take]
  congr 1
  omega
 ·rw[List.set_eq_take_append_cons_drop,if_pos hi]
  simp
theorem set_mid (A X B:List Value) (n k q:Nat) (u:Value) (hA:A.length=n) (hk:k=n+q) (hq:q<X.length):(A++X++B).set k u=A++X.set q u++B:=by
 subst hA;subst hk;rw[List.append_assoc,List.set_append_right _ _ (by omega),List.set_append_left _ _ (by omega),List.append_assoc];congr 2
 congr 1
 omega
theorem bdlen_any (b e:Nat) (l:List PC) (g:Nat→Nat) (T:Nat) (w:World) (hL:BdAt w g T b l e):
  Calls Tryz.prog 169 #[.pointer (some ⟨b,0,none⟩)] w fun e w'=>e= .returned (.int .i64 (l.length:Nat))∧w=w':=by
 obtain⟨v,h1,h2⟩:=hL.ex;obtain⟨a,cap,rfl,_,_⟩:=h2.cap_;have c0:=h1.1.ce 0;clear hL h1 h2;go_enter Tryz.func169,Tryz.ntmps169
 go_wp2;go_ret
 exact⟨rfl,rfl⟩
theorem bdAgain_none (b e:Nat) (l:List PC) (y:ST) (hl:l.length≤5000) (g:Nat→Nat) (T:Nat) (w:World) (hL:BdAt w g T b l e) (hn:lostIx l= -1):
  Calls Tryz.prog 137 #[.pointer (some ⟨b,0,none⟩),stv y] w fun e w'=>e= .returned (.tuple #[zeroR, .bool false])∧Below w.heap.size w w':=by
 have C:Hid (∀ w',Below w.heap.size w w'→Calls Tryz.prog 165 #[.pointer (some ⟨b,0,none⟩)] w' fun e w''=>e= .returned (.tuple #[.agg #[.int .u64 0, .int .u64 0], .bool false])∧Below w'.heap.size w' w''):=zH fun w' hB=>bdLost_none b e l hl g T w' (hL.below hB) hn
 clear hL hn;unfold stv;go_enter Tryz.func137,Tryz.ntmps137
 go_wp2_with fail
 refine(C.out _ (((Below.refl _ w).alloc (Nat.le_refl _) _).alloc (by simp) _)).mono ?_;rintro e w1 ⟨rfl,hB⟩;have hB1:Below w.heap.size w w1:=(((Below.refl w.heap.size w).alloc (Nat.le_refl _) _).alloc (by simp) _).trans (hB.mono (by simp;omega));obtain⟨s,es⟩: ∃ s,w.heap.size=s:=⟨_,rfl⟩;have A1:At w1 (s+1) 64 #[.int .u64 0, .int .u64 0]:=by
  subst es;refine At.below (w:=(w.alloc (.cells #[.int .u64 y.at_, .int .u64 y.d, .int .u64 y.da, .int .u64 y.fa, .bool y.lim] 190)).alloc (.cells #[.int .u64 0, .int .u64 0] 64)) ?_ hB (by simp);have:=At.made (w.alloc (.cells #[.int .u64 y.at_, .int .u64 y.d, .int .u64 y.da, .int .u64 y.fa, .bool y.lim] 190)) 64 #[.int .u64 0, .int .u64 0];simp only[World.size_alloc]at this;exact this
 have c0:=A1.cell 0;have c1:=A1.cell 1;have f0:=A1.free 0;have f1:=A1.free 1;simp only[List.getElem?_toArray,List.getElem?_cons_zero,List.getElem?_cons_succ]at c0 c1;have hlt:=A1.lt;have HB:=zH hB1;have AA:=zH A1;clear hB hB1 A1;simp only[es];go_wp2_with fail
 refine q_named (fun W=>At W (s+1) 64 #[.int .u64 0, .int .u64 0]∧Below w.heap.size w W) ⟨((AA.out.set 0).set 1).kept (World.grownBy_alloc _ _ none) (by simp), ?_⟩ (fun W hW=> ?_)
 ·exact((HB.out.setCell (p:=⟨s+1,0,none⟩) (by simp;omega) _).setCell (p:=⟨s+1,1,none⟩) (by simp;omega) _).alloc (by simp[World.setCell];omega) _
 ·have d0:=hW.1.cell 0
  have d1:=hW.1.cell 1;simp only[List.getElem?_toArray,List.getElem?_cons_zero,List.getElem?_cons_succ]at d0 d1;exact bodyPost_ret (v:= .tuple #[zeroR, .bool false]) (by simp[results,Tryz.results137,go_sem,d0,d1,zeroR]) rfl ⟨rfl,hW.2⟩
theorem bdAgain_some (b e i:Nat) (x:PC) (l:List PC) (y:ST) (hl:l.length≤5000) (g:Nat→Nat) (T:Nat) (hT1:1≤T) (w:World) (hT:Tidy w g) (hL:BdAt w g T b l e) (hn:lostIx l=(i:Nat)) (hx:l[i]? =some x):
  Calls Tryz.prog 137 #[.pointer (some ⟨b,0,none⟩),stv y] w fun e2 w'=>e2= .returned (.tuple #[rgv x, .bool true])∧ ∃ g',Chg w w' g g' T (T+2)∧BdAt w' g' T b (l.set i { x with sent:=y,lost:=false }) e:=by
 have C:Hid (∀ w',Below w.heap.size w w'→Calls Tryz.prog 165 #[.pointer (some ⟨b,0,none⟩)] w' fun e w''=>e= .returned (.tuple #[.agg #[.int .u64 x.frm, .int .u64 x.til], .bool true])∧Below w'.heap.size w' w''):=zH fun w' hB=>bdLost_some b e i x l hl g T w' (hL.below hB) hn hx
 have D:Hid (∀ w',Below w.heap.size w w'→Calls Tryz.prog 170 #[.pointer (some ⟨b,0,none⟩)] w' fun e w''=>e= .returned (.int .i64 (i:Nat))∧Below w'.heap.size w' w''):=zH fun w' hB=>by have:=bdlost_any b e l hl g T w' (hL.below hB);rw[hn]at this;exact this
 have HL:=zH hL;have HT:=zH hT;have hi:=(List.getElem?_eq_some_iff.1 hx).1;have hblt:=hL.lt.1;obtain⟨bb,off,cap,k0,kO,kS,kne,kc,kf⟩:=bd_cells hL hx;have hbb:=kS.tag_.2;clear hL hn hT k0 kO kS kc kf;unfold stv;go_enter Tryz.func137,Tryz.ntmps137
 go_wp2_with fail
 refine(C.out _ (((Below.refl _ w).alloc (Nat.le_refl _) _).alloc (by simp) _)).mono ?_;rintro e2 w1 ⟨rfl,hB⟩;have hB1:Below w.heap.size w w1:=(((Below.refl w.heap.size w).alloc (Nat.le_refl _) _).alloc (by simp) _).trans (hB.mono (by simp;omega));obtain⟨s,es⟩: ∃ s,w.heap.size=s:=⟨_,rfl⟩;have A0:At w1 s 190 #[.int .u64 y.at_, .int .u64 y.d, .int .u64 y.da, .int .u64 y.fa, .bool y.lim]:=by
  subst es;exact At.below (w:=(w.alloc (.cells #[.int .u64 y.at_, .int .u64 y.d, .int .u64 y.da, .int .u64 y.fa, .bool y.lim] 190)).alloc (.cells #[.int .u64 0, .int .u64 0] 64)) ((At.made w _ _).kept (World.grownBy_alloc _ _ none) (by simp)) hB (by simp;omega)
 have A1:At w1 (s+1) 64 #[.int .u64 0, .int .u64 0]:=by
  subst es;refine At.below (w:=(w.alloc (.cells #[.int .u64 y.at_, .int .u64 y.d, .int .u64 y.da, .int .u64 y.fa, .bool y.lim] 190)).alloc (.cells #[.int .u64 0, .int .u64 0] 64)) ?_ hB (by simp);have:=At.made (w.alloc (.cells #[.int .u64 y.at_, .int .u64 y.d, .int .u64 y.da, .int .u64 y.fa, .bool y.lim] 190)) 64 #[.int .u64 0, .int .u64 0];simp only[World.size_alloc]at this;exact this
 have hlt:=A1.lt;have HB:=zH hB1;have AA0:=zH A0;have AA1:=zH A1;clear hB hB1 A0 A1;simp only[es];go_wp2_with fail
 obtain⟨u,eu⟩: ∃ u,w1.heap.size=u:=⟨_,rfl⟩;refine wp_named (fun W=>At W s 190 #[.int .u64 y.at_, .int .u64 y.d, .int .u64 y.da, .int .u64 y.fa, .bool y.lim]∧At W (s+1) 64 #[.int .u64 0, .int .u64 0]∧At W u 64 #[.int .u64 x.frm, .int .u64 x.til]∧Below w.heap.size w W) ⟨AA0.out.kept (World.grownBy_alloc _ _ none) (by simp),AA1.out.kept (World.grownBy_alloc _ _ none) (by simp),by rw[←eu];exact At.made w1 _ _,HB.out.alloc (by omega) _⟩ ?_;rintro w2 ⟨A0,A1,A2,hB2⟩;obtain⟨bb2,off2,cap2,k0,kO,kS,kne2,kc,kf⟩:=bd_cells (HL.out.below hB2) hx;have hu:=A2.lt;have AA0:=zH A0;have AA1:=zH A1;have AA2:=zH A2;have HB2:=zH hB2;have KO:=zH kO;have KS:=zH kS;clear A0 A1 A2 hB2 kO kS kc kf HB;simp only[eu];refine wp_region_held_drew (S:=fun wq=>wq.cell? ⟨b,0,none⟩=some (.slice (some ⟨bb2,off2,none⟩) l.length cap2)) (by kernel_rfl) k0 (fun hHeld=> ?_);refine zt 0 ?_;refine zt 1 ?_;refine zt 2 ?_;refine zt 3 ?_;refine zt 4 ?_;refine zc 5 (fun K hK=> ?_);go_simp;refine(D.out _ HB2.out.drew).mono ?_;rintro e3 w3 ⟨rfl,hB3⟩;refine hK.out _ _ ?_ (fun hHeld=> ?_);focus exact(hB3.cell (p:=⟨b,0,none⟩) (by show b<w2.heap.size;omega)).trans k0
 clear hK K;refine zl ?_;refine zt 6 ?_;refine zt 7 ?_;refine dnZ ?_;have HB3:=zH (HB2.out.drew.trans (hB3.mono (by show w.heap.size≤w2.heap.size;omega)));have BA0:=zH ((AA0.out.drew).below hB3 (by show s<w2.heap.size;omega));have BA1:=zH ((AA1.out.drew).below hB3 (by show s+1<w2.heap.size;omega));have BA2:=zH ((AA2.out.drew).below hB3 hu);have KO3:=(show Of w2.drew g T b _ _ from⟨KO.out.1.drew,KO.out.2⟩).below (w':=w3) hB3;have KS3:=KS.out.drew.below (w':=w3) hB3;have hrow: ∀ q,q<9→w3.cell? ⟨bb2,off2+i*9+q,none⟩=(pcl x)[q]? :=by
  intro q hq;have:=KS3.cells (i*9+q) (by omega);rw[flat_at pcl_len hx q hq,←Nat.add_assoc]at this;exact this
 have r2:=hrow 2 (by omega);have r3:=hrow 3 (by omega);have r4:=hrow 4 (by omega);have r5:=hrow 5 (by omega);have r6:=hrow 6 (by omega);have r8:=hrow 8 (by omega);have f2:=KS3.free (off2+i*9+2);have f3:=KS3.free (off2+i*9+3);have f4:=KS3.free (off2+i*9+4);have f5:=KS3.free (off2+i*9+5);have f6:=KS3.free (off2+i*9+6);have f8:=KS3.free (off2+i*9+8);have y0:=BA0.out.cell 0;have y1:=BA0.out.cell 1;have y2:=BA0.out.cell 2;have y3:=BA0.out.cell 3;have y4:=BA0.out.cell 4;simp only[pcl,List.getElem?_toArray,List.getElem?_cons_zero,List.getElem?_cons_succ]at r2 r3 r4 r5 r6 r8 y0 y1 y2 y3 y4;have hsb:bb2≠s:=by
  have:=KS.out.tag_;have h0:=HT.out s (by omega);rintro rfl;omega
 have HO3:=zH KO3;have HS3:=zH KS3;clear hHeld KO3 KS3 hrow hB3 KO KS AA0 AA1 AA2 k0 C D HB2;go_wp2_with fail
 go_region
 have gb:g bb2=T+1:=HS3.out.tag_.1;have hlen:i*9+9≤l.length*9:=by omega
 obtain⟨A,B,e1,e2,e3⟩:=flat_split pcl_len hx;have S1:=HS3.out;rw[e1]at S1;have S2:=S1.storedA (off2+i*9+8) (i*9+8) (.bool false) (by omega) (by omega);rw[set_mid A _ B (i*9) _ 8 _ e2 rfl (by rw[pcl_len];omega)]at S2;have S3:=S2.storedA (off2+i*9+2) (i*9+2) (.int .u64 y.at_) (by omega) (by omega);rw[set_mid A _ B (i*9) _ 2 _ e2 rfl (by simp[pcl_len])]at S3;have S4:=S3.storedA (off2+i*9+2+1) (i*9+3) (.int .u64 y.d) (by omega) (by omega);rw[set_mid A _ B (i*9) _ 3 _ e2 rfl (by simp[pcl_len])]at S4;have S5:=S4.storedA (off2+i*9+2+2) (i*9+4) (.int .u64 y.da) (by omega) (by omega);rw[set_mid A _ B (i*9) _ 4 _ e2 rfl (by simp[pcl_len])]at S5;have S6:=S5.storedA (off2+i*9+2+3) (i*9+5) (.int .u64 y.fa) (by omega) (by omega);rw[set_mid A _ B (i*9) _ 5 _ e2 rfl (by simp[pcl_len])]at S6;have S7:=S6.storedA (off2+i*9+2+4) (i*9+6) (.bool y.lim) (by omega) (by omega);rw[set_mid A _ B (i*9) _ 6 _ e2 rfl (by simp[pcl_len]),show List.set (List.set (List.set (List.set (List.set (List.set (pcl x) 8 (Value.bool false)) 2 (.int .u64 y.at_)) 3 (.int .u64 y.d)) 4 (.int .u64 y.da)) 5 (.int .u64 y.fa)) 6 (.bool y.lim)=pcl { x with sent:=y,lost:=false }from rfl,←e3]at S7;have hsn:g s=0:=HT.out s (by omega);refine q_named (fun W=>w3.grownBy W (some bb2)∧Sli W g (T+1) 192 9 (.slice (some ⟨bb2,off2,none⟩) l.length cap2) l.length ((l.set i { x with sent:=y,lost:=false }).flatMap pcl)) ⟨?_,S7.drew⟩ (fun W hW=> ?_)
 ·exact((((((grown_set w3 bb2 (off2+i*9+8) (.bool false)).trans (grown_set _ bb2 (off2+i*9+2) (.int .u64 y.at_))).trans (grown_set _ bb2 (off2+i*9+2+1) (.int .u64 y.d))).trans (grown_set _ bb2 (off2+i*9+2+2) (.int .u64 y.da))).trans (grown_set _ bb2 (off2+i*9+2+3) (.int .u64 y.fa))).trans (grown_set _ bb2 (off2+i*9+2+4) (.bool y.lim))).trans (by_drew _ _)
 ·obtain⟨hG,hS⟩:=hW
  have h0:g (s+1)=0:=HT.out _ (by omega);have hu0:g u=0:=HT.out _ (by omega);have E1:=BA1.out.kept hG (by intro h;cases h;omega);have E2:=BA2.out.kept hG (by intro h;cases h;omega);have E0:=HO3.out.other hG (by intro h;cases h;exact kne2 rfl);have c0:=E1.cell 0;have c1:=E1.cell 1;have f0:=E1.free 0;have f1:=E1.free 1;have d0:=E2.cell 0;have d1:=E2.cell 1;simp only[List.getElem?_toArray,List.getElem?_cons_zero,List.getElem?_cons_succ]at c0 c1 d0 d1;have hC:=(Chg.of_below HT.out T (T+2) HB3.out).by hG (fun b' e' _=>by cases e';omega)
  have HE0:=zH E0;have HE1:=zH E1;have HC:=zH hC;have HS:=zH hS;clear E0 E1 E2 hC hS hG S1 S2 S3 S4 S5 S6 S7 e1 e2 e3 r2 r3 r4 r5 r6 r8 f2 f3 f4 f5 f6 f8 y0 y1 y2 y3 y4;go_wp2_with fail
  refine q_named (fun W2=>At W2 (s+1) 64 #[.int .u64 x.frm, .int .u64 x.til]∧W.grownBy W2 (some (s+1))) ⟨(HE1.out.set 0).set 1,(grown_set _ _ _ _).trans (grown_set _ _ _ _)⟩ (fun W2 hW2=> ?_);obtain⟨k1,k2⟩:=hW2;have d0:=k1.cell 0;have d1:=k1.cell 1;simp only[List.getElem?_toArray,List.getElem?_cons_zero,List.getElem?_cons_succ]at d0 d1;refine bodyPost_ret (v:= .tuple #[rgv x, .bool true]) (by simp[results,Tryz.results137,go_sem,d0,d1,rgv]) rfl ⟨rfl,g,HC.out.by k2 (fun b' e' hlt'=>by cases e';omega),_,HE0.out.other k2 (by intro h;cases h;omega), ?_⟩;rw[List.length_set];exact HS.out.other k2 (fun b' e' _=>by cases e';omega)
end
section
open Go.RowKit Go.Lib
theorem infoPc: ∃ i0:TypeInfo,Hid (Tryz.prog.info? 192=some i0∧i0.zero=some (.agg #[.int .u64 0, .int .u64 0, .int .u64 0, .int .u64 0, .int .u64 0, .int .u64 0, .bool false, .bool false, .bool false])∧i0.size=9∧i0.bytes=64):=by
 obtain⟨i0,h1,h2,h3,h4⟩:=info_parts (show(Tryz.prog.info? 192).map (fun i=>(i.zero,i.size,i.bytes))=some (some (.agg #[.int .u64 0, .int .u64 0, .int .u64 0, .int .u64 0, .int .u64 0, .int .u64 0, .bool false, .bool false, .bool false]),9,64) by kernel_rfl);exact⟨i0,zH ⟨h1,h2,h3,h4⟩⟩
theorem bdSent_any (b til e:Nat) (l:List PC) (y:ST) (hl:l.length<4096) (he:e<til) (g:Nat→Nat) (T:Nat) (hT1:1≤T) (w:World) (hT:Tidy w g) (hL:BdAt w g T b l e):
  Calls Tryz.prog 139 #[.pointer (some ⟨b,0,none⟩), .int .u64 e, .int .u64 til,stv y] w fun e2 w'=>e2= .returned (.int .i64 0)∧ ∃ g',Chg w w' g g' T (T+2)∧BdAt w' g' T b (l++[⟨e,til,y,false,false⟩]) til:=by
 obtain⟨i0,HI⟩:=infoPc;obtain⟨v,h1,h2⟩:=hL.ex;obtain⟨a,cap,rfl,_,_⟩:=h2.cap_;obtain⟨hblt,hbT⟩:=hL.lt;obtain⟨s,es⟩: ∃ s,w.heap.size=s:=⟨_,rfl⟩;have gs:g s=0:=hT _ (by omega);obtain⟨N,eN⟩: ∃ N,l.length=N:=⟨_,rfl⟩;have n1: ¬(til:Int)≤e:=by omega
 have n2: ¬(4096:Int)≤(N:Int):=by omega
 have H1:=zH h1;have H2:=zH h2;have HT:=zH hT;have c0:w.cell? ⟨b,0,none⟩=some (.slice a N cap):=by rw[←eN];exact h1.1.cell 0
 have c1:=h1.1.ce 1;rw[es]at hblt;clear hL h1 h2 hT;unfold stv;go_enter Tryz.func139,Tryz.ntmps139
 go_wp2_with fail
 refine wp_named (fun W=>At W s 190 #[.int .u64 y.at_, .int .u64 y.d, .int .u64 y.da, .int .u64 y.fa, .bool y.lim]∧Of W g T b 220 #[.slice a N cap, .int .u64 e]∧Sli W g (T+1) 192 9 (.slice a N cap) N (l.flatMap pcl)∧Chg w W g g T (T+2)) ⟨?_, ?_, ?_, ?_⟩ ?_
 ·rw[←es];exact At.made w _ _
 ·rw[←eN];exact H1.out.alloc _
 ·rw[←eN];exact H2.out.alloc _
 ·exact(Chg.refl HT.out _ _).alloc _
 rintro w1 ⟨A0,A1,A2,A3⟩;have y0:=A0.cell 0;have y1:=A0.cell 1;have y2:=A0.cell 2;have y3:=A0.cell 3;have y4:=A0.cell 4;have k0:=A1.1.ce 0;simp only[List.getElem?_toArray,List.getElem?_cons_zero,List.getElem?_cons_succ]at y0 y1 y2 y3 y4;have hs1:=A0.lt;have hb1:=A1.1.lt;have AA0:=zH A0;have AA1:=zH A1;have AA2:=zH A2;have AA3:=zH A3;clear A0 A1 A2 A3 c0 c1 H1 H2;have k0w:w1.cell? ⟨b,0,none⟩=some (.slice a N cap):=k0;refine wp_region_held_drew (S:=fun wq=>wq.cell? ⟨s,0,none⟩=some (.int .u64 y.at_)∧wq.cell? ⟨s,1,none⟩=some (.int .u64 y.d)∧wq.cell? ⟨s,2,none⟩=some (.int .u64 y.da)∧wq.cell? ⟨s,3,none⟩=some (.int .u64 y.fa)∧wq.cell? ⟨s,4,none⟩=some (.bool y.lim)) (by kernel_rfl) ⟨y0,y1,y2,y3,y4⟩ (fun hHeld=> ?_);refine zt 0 ?_;refine zt 1 ?_;refine zt 2 ?_;refine zt 3 ?_;refine zt 5 ?_;refine zt 6 ?_;refine zt 7 ?_;refine zt 8 ?_;refine rdZ [4,9] ?_;refine(cnZ 4 rfl (fun K hK=> ?_) (cnZ 9 rfl (fun K hK=> ?_) AllReadyH.nil))
 ·go_simp
  refine hK.out _ _ ?_ (fun hHeld=> ?_);focus exact hHeld
  clear hK K;refine zl ?_;refine zc 9 (fun K hK=> ?_);go_simp;refine hK.out _ _ ?_ (fun hHeld=> ?_);focus have Bq:=AA0.out.drew.kept (World.grownBy_alloc w1.drew (.cells (pca ⟨e,til,y,false,false⟩) 192) none) (by simp);exact⟨Bq.cell 0,Bq.cell 1,Bq.cell 2,Bq.cell 3,Bq.cell 4⟩
  clear hK K;refine zl ?_;refine zc 10 (fun K hK=> ?_);refine step_append_sli _ rfl _ _ 218 rfl g (T+1) 192 i0 _ 9 64 Tryz.underlying218 HI.out.1 HI.out.2.1 HI.out.2.2.1 HI.out.2.2.2 rfl (by decide) _ N (l.flatMap pcl) rfl (AA2.out.drew.alloc _) ((AA3.out.drew.tidy).alloc _) ⟨w1.heap.size,0,none⟩ 1 1 (pcl ⟨e,til,y,false,false⟩) rfl rfl (World.news_of_block (At.made w1.drew 192 (pca ⟨e,til,y,false,false⟩))) (pcl_one _) (by decide) (by unfold maxLen;omega) (by omega) ?_;intro b2 o2 cap2 w2 g2 hS hC;have B0:=(AA0.out.drew.kept (World.grownBy_alloc w1.drew (.cells (pca ⟨e,til,y,false,false⟩) 192) none) (by simp)).chg hC (by omega);have B1:=(show Of (w1.drew.alloc (.cells (pca ⟨e,til,y,false,false⟩) 192)) g T b 220 #[.slice a N cap, .int .u64 e]from⟨AA1.out.1.drew.kept (World.grownBy_alloc w1.drew _ none) (by simp),AA1.out.2⟩).chg hC (by omega);have q0:=B1.1.cell 0;have q1:=B1.1.cell 1;have p0:=B1.1.free 0;have p1:=B1.1.free 1;simp only[List.getElem?_toArray,List.getElem?_cons_zero,List.getElem?_cons_succ]at q0 q1;refine hK.out _ _ ?_ (fun hHeld=> ?_);focus exact⟨B0.cell 0,B0.cell 1,B0.cell 2,B0.cell 3,B0.cell 4⟩
  clear hK K;refine zl ?_;refine zt 11 ?_;refine zt 12 ?_;refine zc 13 (fun K hK=> ?_);go_simp;refine hK.out _ _ ?_ (fun hHeld=> ?_);focus have Bq:=B0.far (p:=⟨b,0,none⟩) (u:= .slice (some ⟨b2,o2,none⟩) (N+1) cap2) (by show s≠b;omega);exact⟨Bq.cell 0,Bq.cell 1,Bq.cell 2,Bq.cell 3,Bq.cell 4⟩
  clear hK K;refine zl ?_;refine dnZ ?_;have X1:=B1.put (Put.set B1.1 0 (u:= .slice (some ⟨b2,o2,none⟩) (N+1) cap2));have x0:=X1.1.cell 1;have x1:=X1.1.free 1;simp only[List.getElem?_toArray,List.getElem?_cons_zero,List.getElem?_cons_succ,List.setIfInBounds_toArray,List.set_cons_zero]at x0;have XS:=hS.set_other (p:=⟨b,0,none⟩) (.slice (some ⟨b2,o2,none⟩) (N+1) cap2) (by show g2 b≠T+1;have:=B1.2;omega);have hC2:=(((AA3.out.drew).alloc (.cells (pca ⟨e,til,y,false,false⟩) 192)).trans (hC.mono (by omega) (by omega))).set (b:=b) (i:=0) (fun _=>by omega) (.slice (some ⟨b2,o2,none⟩) (N+1) cap2);have HX:=zH X1;have HXS:=zH XS;have HC2:=zH hC2;clear X1 XS hC2 hHeld q0 q1 p0 p1 B0 hC hS;go_wp2_with fail
  go_ret
  refine⟨rfl,g2,HC2.out.set (fun _=>by omega) _, .slice (some ⟨b2,o2,none⟩) (N+1) cap2,HX.out.put (Put.set HX.out.1 1), ?_⟩;rw[List.length_append,eN,flat_snoc];exact HXS.out.set_other _ (by show g2 b≠T+1;have:=HX.out.2;omega)
 ·go_simp
  refine hK.out _ _ ?_ (fun hHeld=> ?_);focus have Bq:=AA0.out.drew.kept (World.grownBy_alloc w1.drew (.cells (pca ⟨e,til,y,false,false⟩) 192) none) (by simp);exact⟨Bq.cell 0,Bq.cell 1,Bq.cell 2,Bq.cell 3,Bq.cell 4⟩
  clear hK K;refine zl ?_;refine zc 4 (fun K hK=> ?_);go_simp;refine hK.out _ _ ?_ (fun hHeld=> ?_);focus exact hHeld
  clear hK K;refine zl ?_;refine zc 10 (fun K hK=> ?_);refine step_append_sli _ rfl _ _ 218 rfl g (T+1) 192 i0 _ 9 64 Tryz.underlying218 HI.out.1 HI.out.2.1 HI.out.2.2.1 HI.out.2.2.2 rfl (by decide) _ N (l.flatMap pcl) rfl (AA2.out.drew.alloc _) ((AA3.out.drew.tidy).alloc _) ⟨w1.heap.size,0,none⟩ 1 1 (pcl ⟨e,til,y,false,false⟩) rfl rfl (World.news_of_block (At.made w1.drew 192 (pca ⟨e,til,y,false,false⟩))) (pcl_one _) (by decide) (by unfold maxLen;omega) (by omega) ?_;intro b2 o2 cap2 w2 g2 hS hC;have B0:=(AA0.out.drew.kept (World.grownBy_alloc w1.drew (.cells (pca ⟨e,til,y,false,false⟩) 192) none) (by simp)).chg hC (by omega);have B1:=(show Of (w1.drew.alloc (.cells (pca ⟨e,til,y,false,false⟩) 192)) g T b 220 #[.slice a N cap, .int .u64 e]from⟨AA1.out.1.drew.kept (World.grownBy_alloc w1.drew _ none) (by simp),AA1.out.2⟩).chg hC (by omega);have q0:=B1.1.cell 0;have q1:=B1.1.cell 1;have p0:=B1.1.free 0;have p1:=B1.1.free 1;simp only[List.getElem?_toArray,List.getElem?_cons_zero,List.getElem?_cons_succ]at q0 q1;refine hK.out _ _ ?_ (fun hHeld=> ?_);focus exact⟨B0.cell 0,B0.cell 1,B0.cell 2,B0.cell 3,B0.cell 4⟩
  clear hK K;refine zl ?_;refine zt 11 ?_;refine zt 12 ?_;refine zc 13 (fun K hK=> ?_);go_simp;refine hK.out _ _ ?_ (fun hHeld=> ?_);focus have Bq:=B0.far (p:=⟨b,0,none⟩) (u:= .slice (some ⟨b2,o2,none⟩) (N+1) cap2) (by show s≠b;omega);exact⟨Bq.cell 0,Bq.cell 1,Bq.cell 2,Bq.cell 3,Bq.cell 4⟩
  clear hK K;refine zl ?_;refine dnZ ?_;have X1:=B1.put (Put.set B1.1 0 (u:= .slice (some ⟨b2,o2,none⟩) (N+1) cap2));have x0:=X1.1.cell 1;have x1:=X1.1.free 1;simp only[List.getElem?_toArray,List.getElem?_cons_zero,List.getElem?_cons_succ,List.setIfInBounds_toArray,List.set_cons_zero]at x0;have XS:=hS.set_other (p:=⟨b,0,none⟩) (.slice (some ⟨b2,o2,none⟩) (N+1) cap2) (by show g2 b≠T+1;have:=B1.2;omega);have hC2:=(((AA3.out.drew).alloc (.cells (pca ⟨e,til,y,false,false⟩) 192)).trans (hC.mono (by omega) (by omega))).set (b:=b) (i:=0) (fun _=>by omega) (.slice (some ⟨b2,o2,none⟩) (N+1) cap2);have HX:=zH X1;have HXS:=zH XS;have HC2:=zH hC2;clear X1 XS hC2 hHeld q0 q1 p0 p1 B0 hC hS;go_wp2_with fail
  go_ret
  refine⟨rfl,g2,HC2.out.set (fun _=>by omega) _, .slice (some ⟨b2,o2,none⟩) (N+1) cap2,HX.out.put (Put.set HX.out.1 1), ?_⟩;rw[List.length_append,eN,flat_snoc];exact HXS.out.set_other _ (by show g2 b≠T+1;have:=HX.out.2;omega)
end
section
open Go.RowKit Go.Lib Go.Shelf Go.Sort
def rgl (r:Nat×Nat):List Value:=[.int .u64 r.1, .int .u64 r.2]
theorem rgl_len (r:Nat×Nat):(rgl r).length=2:=rfl
theorem cont_any (gf:Nat) (lb:Array Value) (eg: ∀ args w,(callFunc gf args).run Tryz.prog w= .ok (.enter gf args) w) (p:Nat×Nat→Bool) (v:Value) (l:List (Nat×Nat)) (w:World) (hl:l.length≤1000)
  (hp:PredBelow Tryz.prog gf lb (fun x=> .agg (rgl x).toArray) p w) (hr:Rd w v 2 l.length (l.flatMap rgl)):
  Calls Tryz.prog 183 #[v, .func (.func gf) #[] lb] w fun e w'=>e= .returned (.bool (l.any p))∧Below w.heap.size w w':=by
 rcases hr.2 with⟨⟨a0,c0,rfl⟩,h0⟩ | ⟨b,off,cap,rfl,hb,hn,hm,hc⟩
 ·obtain rfl:l=[]:=List.eq_nil_of_length_eq_zero h0
  have D:Hid (∀ w',w=w'→Calls Tryz.prog 201 #[.slice a0 0 c0, .func (.func gf) #[] lb] w' fun e w''=>e= .returned (.int .i64 (-1))∧w'=w''):=by
   refine zH fun w' e=> ?_
   subst e;clear hp hr;go_enter Tryz.func201,Tryz.ntmps201
   go_wp2;refine wp_loop_rounds 1 ?_;rw[rounds_succ];go_wp2;go_ret
   exact⟨rfl,rfl⟩
  clear hp hr;go_enter Tryz.func183,Tryz.ntmps183
  go_wp2_with fail
  refine(D.out _ rfl).mono ?_;rintro e w' ⟨rfl,rfl⟩;go_wp2_with fail
  go_ret
  exact⟨rfl,Below.refl _ _⟩
 ·have hcon:=AnyQ.slices_ContainsFunc Tryz.l183 2 (fun w=>Tryz.isAgg64 w) (fun w=>Tryz.sizeOf64 w) rgl rgl_len p gf lb eg b off l.length cap l w hp (Nat.le_refl _) (by omega) hb (fun j hj i u hu=>by
   have hx:l[j]? =some l[j]! :=by rw[List.getElem?_eq_getElem hj,getElem!_pos l j hj]
   have hi:i<2:=by
    have:=(List.getElem?_eq_some_iff.1 hu).1;simpa [rgl]using this
   have:=hc (j*2+i) (by omega);rw[flat_at rgl_len hx i hi,←Nat.add_assoc]at this;rw[this];exact hu)
  change Calls Tryz.prog 183 _ _ _ at hcon
  rw[List.take_length]at hcon;exact hcon
def mayP (e:Nat) (r:Nat×Nat):Bool:=decide (e<r.2)||decide (r.2≤r.1)
def holdP (p:PC) (r:Nat×Nat):Bool:=decide (r.1≤p.frm)&&decide (p.til≤r.2)
theorem may1_any (B b e:Nat) (x:Value) (r:Nat×Nat) (w:World) (hB:w.cell? ⟨B,0,none⟩=some (.pointer (some ⟨b,0,none⟩))) (hb:w.cell? ⟨b,1,none⟩=some (.int .u64 e)):
  Calls Tryz.prog 184 #[.agg (rgl r).toArray, .pointer (some ⟨B,0,none⟩)] w fun e2 w'=>e2= .returned (.bool (mayP e r))∧Below w.heap.size w w':=by
 obtain⟨r1,r2⟩:=r;have hBl:=World.block_lt_of_cell? _ _ hB;have hbl:=World.block_lt_of_cell? _ _ hb;have n1:w.heap.size≠B:=Nat.ne_of_gt hBl;have n2:w.heap.size≠b:=Nat.ne_of_gt hbl;unfold rgl mayP;by_cases h1:e<r2
 ·have hd:decide ((e:Int)<(r2:Int))=true:=by simpa using h1
  have e1:decide (e<r2)=true:=by simpa using h1
  rw[e1];go_enter Tryz.func184,Tryz.ntmps184
  go_wp2;go_quiet (fail)
  go_wp2;go_ret
  exact⟨by simp,belowN ((Below.refl w.heap.size w).alloc (Nat.le_refl _) _) _⟩
 ·have hd:decide ((e:Int)<(r2:Int))=false:=by simpa using h1
  have e1:decide (e<r2)=false:=by simpa using h1
  rw[e1];go_enter Tryz.func184,Tryz.ntmps184
  go_wp2;go_quiet (fail)
  go_wp2;go_ret
  exact⟨by simp,belowN ((Below.refl w.heap.size w).alloc (Nat.le_refl _) _) _⟩
theorem hold1_any (B:Nat) (p:PC) (r:Nat×Nat) (w:World) (h0:w.cell? ⟨B,0,none⟩=some (.int .u64 p.frm)) (h1:w.cell? ⟨B,1,none⟩=some (.int .u64 p.til)):
  Calls Tryz.prog 185 #[.agg (rgl r).toArray, .pointer (some ⟨B,0,none⟩)] w fun e2 w'=>e2= .returned (.bool (holdP p r))∧Below w.heap.size w w':=by
 obtain⟨r1,r2⟩:=r;have hBl:=World.block_lt_of_cell? _ _ h0;have n1:w.heap.size≠B:=Nat.ne_of_gt hBl;unfold rgl holdP;by_cases h1:r1≤p.frm
 ·have e1:decide (r1≤p.frm)=true:=by simpa using h1
  rw[e1];go_enter Tryz.func185,Tryz.ntmps185
  go_wp2;go_ret
  exact⟨by simp,(Below.refl w.heap.size w).alloc (Nat.le_refl _) _⟩
 ·have e1:decide (r1≤p.frm)=false:=by simpa using h1
  rw[e1];go_enter Tryz.func185,Tryz.ntmps185
  go_wp2;go_ret
  exact⟨by simp,(Below.refl w.heap.size w).alloc (Nat.le_refl _) _⟩
end
section
open Go.RowKit Go.Lib Go.Shelf Go.Sort
def mayF (upto e:Nat) (l:List (Nat×Nat)):Bool:=decide (upto≤e)&& !(l.any (mayP e))
theorem bdmay_any (b e upto:Nat) (l:List PC) (v:Value) (sk:List (Nat×Nat)) (hk:sk.length≤1000) (g:Nat→Nat) (T:Nat) (w:World) (hL:BdAt w g T b l e) (hr:Rd w v 2 sk.length (sk.flatMap rgl)):
  Calls Tryz.prog 159 #[.pointer (some ⟨b,0,none⟩), .int .u64 upto,v] w fun e2 w'=>e2= .returned (.bool (mayF upto e sk))∧Below w.heap.size w w':=by
 have eg: ∀ args w,(callFunc 184 args).run Tryz.prog w= .ok (.enter 184 args) w:=enters_of Tryz.func184 (by kernel_rfl) rfl;obtain⟨vl,h1,_⟩:=hL.ex;have c1:=h1.1.ce 1;have hblt:=hL.lt.1;have C:Hid (∀ w',Below w.heap.size w w'→w'.cell? ⟨w.heap.size,0,none⟩=some (.pointer (some ⟨b,0,none⟩))→Calls Tryz.prog 183 #[v, .func (.func 184) #[] #[.pointer (some ⟨w.heap.size,0,none⟩)]] w' fun e2 w''=>e2= .returned (.bool (sk.any (mayP e)))∧Below w'.heap.size w' w''):=
  zH fun w' hB hc=>cont_any _ _ eg (mayP e) v sk w' hk (fun W x hW=>(may1_any w.heap.size b e (.bool true) x W ((hW.cell (World.block_lt_of_cell? _ _ hc)).trans hc) ((hW.cell (p:=⟨b,1,none⟩) (Nat.lt_of_lt_of_le hblt hB.size)).trans ((hB.cell (p:=⟨b,1,none⟩) hblt).trans c1))).mono fun e2 w2 ⟨q1,q2⟩=>⟨q1,hW.trans (q2.mono hW.size)⟩) (hr.below hB)
 obtain⟨a,cap,rfl,_,_⟩:=hr.form;clear hL h1 hr;unfold mayF;by_cases hu:upto≤e
 ·have e1:decide (upto≤e)=true:=by simpa using hu
  rw[e1,Bool.true_and];generalize sk.any (mayP e)=A at C ⊢
  go_enter Tryz.func159,Tryz.ntmps159
  go_wp2_with fail
  refine(C.out _ ((Below.refl _ w).alloc (Nat.le_refl _) _) (by simp)).mono ?_;rintro e2 w1 ⟨rfl,hB⟩;have HB:=zH (((Below.refl w.heap.size w).alloc (Nat.le_refl _) (.cells #[.pointer (some ⟨b,0,none⟩)] 120)).trans (hB.mono (by simp)));clear hB;go_wp2_with fail
  go_ret
  exact⟨by simp,HB.out⟩
 ·have e1:decide (upto≤e)=false:=by simpa using hu
  rw[e1,Bool.false_and];go_enter Tryz.func159,Tryz.ntmps159
  go_wp2_with fail
  go_ret
  exact⟨rfl,(Below.refl w.heap.size w).alloc (Nat.le_refl _) _⟩
theorem bdholds_any (p:PC) (v:Value) (sk:List (Nat×Nat)) (hk:sk.length≤1000) (w:World) (hr:Rd w v 2 sk.length (sk.flatMap rgl)):
  Calls Tryz.prog 160 #[v,pcv p] w fun e2 w'=>e2= .returned (.bool (sk.any (holdP p)))∧Below w.heap.size w w':=by
 have eg: ∀ args w,(callFunc 185 args).run Tryz.prog w= .ok (.enter 185 args) w:=enters_of Tryz.func185 (by kernel_rfl) rfl;have C:Hid (∀ w',Below w.heap.size w w'→At w' w.heap.size 192 (pca p)→Calls Tryz.prog 183 #[v, .func (.func 185) #[] #[.pointer (some ⟨w.heap.size,0,none⟩)]] w' fun e2 w''=>e2= .returned (.bool (sk.any (holdP p)))∧Below w'.heap.size w' w''):=
  zH fun w' hB hc=>cont_any _ _ eg (holdP p) v sk w' hk (fun W x hW=>(hold1_any w.heap.size p x W ((hc.below hW hc.lt).cell 0) ((hc.below hW hc.lt).cell 1)).mono fun e2 w2 ⟨q1,q2⟩=>⟨q1,hW.trans (q2.mono hW.size)⟩) (hr.below hB)
 obtain⟨a,cap,rfl,_,_⟩:=hr.form;clear hr;generalize sk.any (holdP p)=A at C ⊢
 unfold pcv;go_enter Tryz.func160,Tryz.ntmps160
 go_wp2_with fail
 refine(C.out _ ((Below.refl _ w).alloc (Nat.le_refl _) _) (At.made w _ _)).mono ?_;rintro e2 w1 ⟨rfl,hB⟩;have HB:=zH (((Below.refl w.heap.size w).alloc (Nat.le_refl _) (.cells (pca p) 192)).trans (hB.mono (by simp)));clear hB;go_wp2_with fail
 go_ret
 exact⟨rfl,HB.out⟩
def loseP (p:PC):PC:=if flyB p then { p with lost:=true }else p
theorem loseP_no {p:PC} (h:flyB p=false):loseP p=p:=by simp[loseP,h]
theorem half_at {α:Type} (f:α→α) {l:List α} {k:Nat} {x:α} (hx:l[k]? =some x):((l.take k).map f++l.drop k)[k]? =some x:=by
 have hk:=(List.getElem?_eq_some_iff.1 hx).1;rw[List.getElem?_append_right (by simp;omega)];simp only[List.length_map,List.length_take,List.getElem?_drop,Nat.min_eq_left (Nat.le_of_lt hk)];simpa using hx
theorem half_set {α:Type} (f:α→α) {l:List α} {k:Nat} {x:α} (hx:l[k]? =some x):((l.take k).map f++l.drop k).set k (f x)=(l.take (k+1)).map f++l.drop (k+1):=by
 obtain⟨hk,e⟩:=List.getElem?_eq_some_iff.1 hx;rw[take_snoc hx,List.map_append,List.append_assoc,List.set_append_right _ _ (by simp;omega),List.drop_eq_getElem_cons hk,e];congr 1
 simp[Nat.min_eq_left (Nat.le_of_lt hk)]
theorem half_len {α:Type} (f:α→α) (l:List α) (k:Nat):((l.take k).map f++l.drop k).length=l.length:=by simp;omega
theorem bdLose_any (b e:Nat) (l:List PC) (hl:l.length≤5000) (g:Nat→Nat) (T:Nat) (hT1:1≤T) (w:World) (hT:Tidy w g) (hL:BdAt w g T b l e):
  Calls Tryz.prog 134 #[.pointer (some ⟨b,0,none⟩)] w fun e2 w'=>e2= .returned (.int .u64 (flSum l))∧Chg w w' g g T (T+2)∧BdAt w' g T b (l.map loseP) e:=by
 obtain⟨v,h1,h2⟩:=hL.ex;obtain⟨hblt,hbT⟩:=hL.lt;obtain⟨a,cap,rfl,_,hcap⟩:=h2.cap_;obtain⟨N,eN⟩: ∃ N,l.length=N:=⟨_,rfl⟩;rw[eN]at h1 h2;have c0:=h1.1.ce 0;have H1:=zH h1;have H2:=zH h2;have HT:=zH hT;clear hL h1 h2 hT;go_enter Tryz.func134,Tryz.ntmps134
 go_wp2_with fail
 go_loopw [3,13] (fun n i wr=> ∃ k:Nat,k≤N∧i= .int .i64 k∧n= .int .u64 (flSum (l.take k))∧Chg w wr g g T (T+2)∧Of wr g T b 220 #[.slice a N cap, .int .u64 e]∧Sli wr g (T+1) 192 9 (.slice a N cap) N (((l.take k).map loseP++l.drop k).flatMap pcl)) (fun _ i _=>N-(intOf i).toNat)
 case atStart=>exact⟨0,Nat.zero_le _,rfl,by simp[flSum],Chg.refl HT.out _ _,H1.out,by simpa using H2.out⟩
 case round=>
  obtain⟨k,hk,rfl,rfl,hC,hO,hS⟩:=hrel;have k0:=hO.1.ce 0;by_cases hlt:k<N
  ·rcases hS.form with⟨q1,q2,_⟩ | ⟨bb,off,cap',ea,ht,hbb,_,_⟩
   ·omega
   cases ea
   obtain⟨x,hx⟩: ∃ x,l[k]? =some x:=⟨_,List.getElem?_eq_getElem (by omega)⟩;have hxy:=half_at loseP hx;have hset:=half_set loseP hx;have hlen:=half_len loseP l k;obtain⟨ys,eys⟩: ∃ ys,(l.take k).map loseP++l.drop k=ys:=⟨_,rfl⟩;rw[eys]at hS hxy hset hlen;have hrow: ∀ q,q<9→wr.cell? ⟨bb,off+k*9+q,none⟩=(pcl x)[q]? :=by
    intro q hq;have:=hS.cells (k*9+q) (by omega);rw[flat_at pcl_len hxy q hq,←Nat.add_assoc]at this;exact this
   have r0:=hrow 0 (by omega);have r1:=hrow 1 (by omega);have r2:=hrow 2 (by omega);have r3:=hrow 3 (by omega);have r4:=hrow 4 (by omega);have r5:=hrow 5 (by omega);have r6:=hrow 6 (by omega);have r7:=hrow 7 (by omega);have r8:=hrow 8 (by omega);have f8:=hS.free (off+k*9+8);simp only[pcl,List.getElem?_cons_zero,List.getElem?_cons_succ,Nat.add_zero]at r0 r1 r2 r3 r4 r5 r6 r7 r8;have hsn:flSum (l.take (k+1))=flW (flSum (l.take k)) x:=by rw[take_snoc hx,flSum_snoc]
   have CF:Hid (∀ w',Calls Tryz.prog 106 #[pcv x] w' fun e w''=>e= .returned (.bool (flyB x))∧w''=w'.alloc (.cells (pca x) 192)):=zH (flying_any x);have hb2:=hO.1.lt;have HC:=zH hC;have HO:=zH hO;have HS:=zH hS;generalize hfb:flyB x=fb at CF
   unfold flW at hsn;rw[hfb]at hsn;unfold pcv pca at CF;clear hC hO hS hrow;cases fb
   ·go_wp2_with fail
    refine(CF.out _).mono ?_;rintro e2 w1 ⟨rfl,rfl⟩;go_wp2_with fail
    go_roundw
    case rel=>
     have e3:loseP x=x:=loseP_no hfb;rw[e3]at hset;have e4:ys.set k x=ys:=by
      obtain⟨h1,h2⟩:=List.getElem?_eq_some_iff.1 hxy;rw[←h2];exact List.set_getElem_self h1
     rw[e4]at hset;refine⟨k+1,by omega,by simp,by rw[hsn];simp,(HC.out.alloc _).alloc _,(HO.out.alloc _).alloc _, ?_⟩;rw[←hset];exact(HS.out.alloc _).alloc _
    case measure=>simp[intOf];omega
   ·go_wp2_with fail
    refine(CF.out _).mono ?_;rintro e2 w1 ⟨rfl,rfl⟩;go_wp2_with fail
    go_roundw
    case rel=>
     have e3:loseP x={ x with lost:=true }:=by unfold loseP;rw[hfb];rfl
     rw[e3]at hset;obtain⟨A,B,s1,s2,s3⟩:=flat_split pcl_len hxy;have S1:=HS.out;rw[s1]at S1;have hk9:k*9+8<N*9:=by omega
     have S2:=S1.storedA (off+k*9+8) (k*9+8) (.bool true) (by omega) hk9;rw[set_mid A _ B (k*9) _ 8 _ s2 rfl (by rw[pcl_len];omega),show List.set (pcl x) 8 (Value.bool true)=pcl { x with lost:=true }from rfl,←s3,hset]at S2;have gb:g bb=T+1:=S1.tag_.1;refine⟨k+1,by omega,by simp,by rw[hsn];simp,((HC.out.set (fun _=>by omega) _).alloc _).alloc _,((HO.out.other (grown_set _ _ _ _) (by intro h;cases h;have:=HO.out.2;omega)).alloc _).alloc _,(S2.alloc _).alloc _⟩
    case measure=>simp[intOf];omega
  ·obtain rfl:k=N:=by omega
   have HC:=zH hC;have HO:=zH hO;have HS:=zH hS;clear hC hO hS;go_wp2;go_ret
   have e1:l.take l.length=l:=List.take_length;rw[←eN,e1]at HS;refine⟨by rw[←eN,e1];rfl,HC.out, .slice a l.length cap,by rw[eN];exact HO.out, ?_⟩;have:=HS.out;rw[List.drop_length,List.append_nil]at this;rw[List.length_map];exact this
end
section
open Go.RowKit Go.Lib
def psF:List PC→List PC×Int×Nat
 | []=>([],0,0)
 | p::r=>
  let q:=psF r
  let ab:=if p.sacked then q.2.2+1 else q.2.2
  if flyB p&&decide (3≤ab)then({ p with lost:=true }::q.1,IntKind.u64.wrap (q.2.1+IntKind.u64.wrap ((p.til:Int)-(p.frm:Int))),ab)else(p::q.1,q.2.1,ab)
theorem psF_len (l:List PC):(psF l).1.length=l.length:=by
 induction l with
 | nil=>rfl
 | cons p r ih=>
  unfold psF;simp only
  repeat' split
  all_goals simp[ih]
theorem psF_ab (l:List PC):(psF l).2.2≤l.length:=by
 induction l with
 | nil=>simp[psF]
 | cons p r ih=>
  unfold psF;simp only
  repeat' split
  all_goals (simp only[List.length_cons];omega)
theorem bdpassed_any (b e:Nat) (l:List PC) (hl:l.length≤5000) (g:Nat→Nat) (T:Nat) (hT1:1≤T) (w:World) (hT:Tidy w g) (hL:BdAt w g T b l e):
  Calls Tryz.prog 161 #[.pointer (some ⟨b,0,none⟩)] w fun e2 w'=>e2= .returned (.int .u64 (psF l).2.1)∧Chg w w' g g T (T+2)∧BdAt w' g T b (psF l).1 e:=by
 obtain⟨v,h1,h2⟩:=hL.ex;obtain⟨hblt,hbT⟩:=hL.lt;obtain⟨a,cap,rfl,_,hcap⟩:=h2.cap_;obtain⟨N,eN⟩: ∃ N,l.length=N:=⟨_,rfl⟩;rw[eN]at h1 h2;have c0:=h1.1.ce 0;have H1:=zH h1;have H2:=zH h2;have HT:=zH hT;clear hL h1 h2 hT;go_enter Tryz.func161,Tryz.ntmps161
 go_wp2_with fail
 go_loopw [3,4,5] (fun n m i wr=> ∃ j:Nat,j≤N∧i= .int .i64 ((j:Int)-1)∧n= .int .u64 (psF (l.drop j)).2.1∧m= .int .i64 ((psF (l.drop j)).2.2:Nat)∧Chg w wr g g T (T+2)∧Of wr g T b 220 #[.slice a N cap, .int .u64 e]∧Sli wr g (T+1) 192 9 (.slice a N cap) N ((l.take j++(psF (l.drop j)).1).flatMap pcl)) (fun _ _ i _=>(intOf i+1).toNat)
 case atStart=>exact⟨N,Nat.le_refl _,by simp,by rw[←eN,List.drop_length];rfl,by rw[←eN,List.drop_length];rfl,Chg.refl HT.out _ _,H1.out,by rw[←eN,List.drop_length,List.take_length];simpa [psF,eN]using H2.out⟩
 case round=>
  obtain⟨j,hj,rfl,rfl,rfl,hC,hO,hS⟩:=hrel;have k0:=hO.1.ce 0;cases j with
  | zero=>
   have HC:=zH hC;have HO:=zH hO;have HS:=zH hS;clear hC hO hS;go_wp2;go_ret
   refine⟨rfl,HC.out, .slice a N cap,HO.out, ?_⟩;have:=HS.out;rw[psF_len,eN];simpa using this
  | succ k=>
   have hlt:k<N:=by omega
   rcases hS.form with⟨q1,q2,_⟩ | ⟨bb,off,cap',ea,ht,hbb,_,_⟩
   ·omega
   cases ea
   obtain⟨x,hx⟩: ∃ x,l[k]? =some x:=⟨_,List.getElem?_eq_getElem (by omega)⟩;have hdrop:l.drop k=x::l.drop (k+1):=by
    obtain⟨h1,h2⟩:=List.getElem?_eq_some_iff.1 hx;rw[List.drop_eq_getElem_cons h1,h2]
   have htake:=take_snoc hx;obtain⟨q,eq⟩: ∃ q,psF (l.drop (k+1))=q:=⟨_,rfl⟩;have hpk:psF (l.drop k)=(if flyB x&&decide (3≤(if x.sacked then q.2.2+1 else q.2.2))then({ x with lost:=true }::q.1,IntKind.u64.wrap (q.2.1+IntKind.u64.wrap ((x.til:Int)-(x.frm:Int))),if x.sacked then q.2.2+1 else q.2.2)else(x::q.1,q.2.1,if x.sacked then q.2.2+1 else q.2.2)):=by
    rw[hdrop,psF,eq]
   have hab:=psF_ab (l.drop (k+1));rw[eq]at hab;have hab2:q.2.2≤5000:=by rw[List.length_drop]at hab;omega
   obtain⟨ys,eys⟩: ∃ ys,l.take (k+1)++q.1=ys:=⟨_,rfl⟩;rw[eq,eys]at hS;have hys:ys=l.take k++x::q.1:=by rw[←eys,htake];simp
   have hxy:ys[k]? =some x:=by rw[hys,List.getElem?_append_right (by simp;omega)];simp[Nat.min_eq_left (show k≤l.length by omega)]
   have hset: ∀ z,ys.set k z=l.take k++z::q.1:=fun z=>by rw[hys,List.set_append_right _ _ (by simp;omega)];simp[Nat.min_eq_left (show k≤l.length by omega)]
   have hrow: ∀ q,q<9→wr.cell? ⟨bb,off+k*9+q,none⟩=(pcl x)[q]? :=by
    intro q hq;have:=hS.cells (k*9+q) (by omega);rw[flat_at pcl_len hxy q hq,←Nat.add_assoc]at this;exact this
   have r0:=hrow 0 (by omega);have r1:=hrow 1 (by omega);have r2:=hrow 2 (by omega);have r3:=hrow 3 (by omega);have r4:=hrow 4 (by omega);have r5:=hrow 5 (by omega);have r6:=hrow 6 (by omega);have r7:=hrow 7 (by omega);have r8:=hrow 8 (by omega);have f8:=hS.free (off+k*9+8);simp only[pcl,List.getElem?_cons_zero,List.getElem?_cons_succ,Nat.add_zero]at r0 r1 r2 r3 r4 r5 r6 r7 r8;have CF:Hid (∀ w',Calls Tryz.prog 106 #[pcv x] w' fun e w''=>e= .returned (.bool (flyB x))∧w''=w'.alloc (.cells (pca x) 192)):=zH (flying_any x);have hb2:=hO.1.lt;have HC:=zH hC;have HO:=zH hO;have HS:=zH hS;have ek:((k+1:Nat):Int)-1=(k:Int):=by omega
   rw[eq,ek];obtain⟨q1,lo,ab⟩:=q;simp only at hpk hab2 hys hset
   clear hC hO hS hrow hab ek eys htake hdrop eq;unfold pcv pca at CF;generalize hsk:x.sacked=sk at*
   generalize hfb:flyB x=fb at*
   cases sk
   ·cases fb
    ·have hnot:(psF (l.drop k))=(x::q1,lo,ab):=by rw[hpk];simp
     clear hpk;go_wp2_with fail
     refine(CF.out _).mono ?_;rintro e2 w1 ⟨rfl,rfl⟩;go_wp2_with fail
     go_roundw
     case rel=>
      refine⟨k,by omega,rfl,by rw[hnot],by rw[hnot],HC.out.alloc _,HO.out.alloc _, ?_⟩;rw[hnot,←hys];exact HS.out.alloc _
     case measure=>simp[intOf]
    ·by_cases h3:3≤ab
     ·have hnot:(psF (l.drop k))=({ x with lost:=true }::q1,IntKind.u64.wrap (lo+IntKind.u64.wrap ((x.til:Int)-(x.frm:Int))),ab):=by rw[hpk];simp[h3,hsk]
      have h3':(3:Int)≤ab:=by omega
      clear hpk;go_wp2_with fail
      refine(CF.out _).mono ?_;rintro e2 w1 ⟨rfl,rfl⟩;go_wp2_with fail
      go_quiet (fail)
      go_wp2_with fail
      go_roundw
      case rel=>
       obtain⟨A,B,s1,s2,s3⟩:=flat_split pcl_len hxy;have S1:=HS.out;rw[s1]at S1;have hk9:k*9+8<N*9:=by omega
       have S2:=S1.storedA (off+k*9+8) (k*9+8) (.bool true) (by omega) hk9;rw[set_mid A _ B (k*9) _ 8 _ s2 rfl (by rw[pcl_len];omega),show List.set (pcl x) 8 (Value.bool true)=pcl { x with lost:=true }from rfl,←s3,hset]at S2;have gb:g bb=T+1:=S1.tag_.1;refine⟨k,by omega,rfl,by rw[hnot],by rw[hnot],((HC.out.set (fun _=>by omega) _).alloc _).drewN _, ?_, ?_⟩
       ·have:=(HO.out.other (grown_set wr bb (off+k*9+8) (.bool true)) (by intro h;cases h;have:=HO.out.2;omega)).alloc (.cells #[.int .u64 x.frm, .int .u64 x.til, .int .u64 x.sent.at_, .int .u64 x.sent.d, .int .u64 x.sent.da, .int .u64 x.sent.fa, .bool x.sent.lim, .bool false, .bool x.lost] 192)
        exact⟨this.1,this.2⟩
       ·rw[hnot]
        exact(S2.alloc _).drewN _
      case measure=>simp[intOf]
     ·have hnot:(psF (l.drop k))=(x::q1,lo,ab):=by rw[hpk];simp[h3]
      have h3': ¬(3:Int)≤ab:=by omega
      clear hpk;go_wp2_with fail
      refine(CF.out _).mono ?_;rintro e2 w1 ⟨rfl,rfl⟩;go_wp2_with fail
      go_roundw
      case rel=>
       refine⟨k,by omega,rfl,by rw[hnot],by rw[hnot],HC.out.alloc _,HO.out.alloc _, ?_⟩;rw[hnot,←hys];exact HS.out.alloc _
      case measure=>simp[intOf]
   ·obtain rfl:fb=false:=by rw[←hfb];simp[flyB,hsk]
    have hnot:(psF (l.drop k))=(x::q1,lo,ab+1):=by rw[hpk];simp
    clear hpk;go_wp2_with fail
    refine(CF.out _).mono ?_;rintro e2 w1 ⟨rfl,rfl⟩;go_wp2_with fail
    go_roundw
    case rel=>
     refine⟨k,by omega,rfl,by rw[hnot],by rw[hnot];simp,HC.out.alloc _,HO.out.alloc _, ?_⟩;rw[hnot,←hys];exact HS.out.alloc _
    case measure=>simp[intOf]
end
section
open Go.RowKit Go.Lib
def Apt (v v':Value):Prop:=v.ownBlock=none∨v'.ownBlock=none∨v.ownBlock≠v'.ownBlock
theorem Apt.symm {v v':Value} (h:Apt v v'):Apt v' v:=by
 rcases h with h | h | h
 ·exact .inr (.inl h)
 ·exact .inl h
 ·exact .inr (.inr (Ne.symm h))
theorem own_apt {w w':World} {B:Nat} {e:TypeId} {size n:Nat} {v v':Value} {xs:List Value} (h:w.ownsRow B e size v n xs) (hg:w.grownBy w' v'.ownBlock) (ha:Apt v v'):w'.ownsRow B e size v n xs:=by
 refine h.kept hg ?_;rcases ha with h | h | h
 ·exact .inl h
 ·cases hv:v.ownBlock with
  | none=>exact .inl rfl
  | some k=>exact .inr (by rw[h];simp)
 ·exact .inr h
theorem apt_new {w:World} {g n cap H B:Nat} {v v':Value} {xs':List Value} {n' size:Nat} {e:TypeId} (hv:v.ownBlock=some g∨g=H) (h':w.ownsRow B e size v' n' xs') (hH:w.heap.size=H) (ha:Apt v v'):Apt (.slice (some ⟨g,0,none⟩) n cap) v':=by
 cases hb:v'.ownBlock with
 | none=>exact .inr (.inl hb)
 | some k=>
  refine .inr (.inr ?_);rw[hb];intro h;simp[Value.ownBlock]at h
  subst h;rcases hv with h | h
  ·rcases ha with h2 | h2 | h2
   ·rw[h]at h2;cases h2
   ·rw[hb]at h2;cases h2
   ·rw[h,hb]at h2;exact h2 rfl
  ·have:=(h'.lt g hb).2
   omega
theorem own_form {w:World} {B:Nat} {e:TypeId} {size n:Nat} {v:Value} {xs:List Value} (h:w.ownsRow B e size v n xs): ∃ a cap,v= .slice a n cap∧n≤cap:=by
 rcases h.2 with⟨h1,h2⟩ | ⟨g,cap,cur,h1,_,_,h3,_⟩
 ·exact⟨none,0,by rw[h2];exact h1,by omega⟩
 ·exact⟨_,cap,h1,h3⟩
theorem own_below {w w':World} {B:Nat} {e:TypeId} {size n:Nat} {v:Value} {xs:List Value} (h:w.ownsRow B e size v n xs) (hb:Below w.heap.size w w'):w'.ownsRow B e size v n xs:=
 h.kept (below_grown hb) (by cases v.ownBlock<;>simp)
theorem app_facts {w0 W w2:World} {s g1 cap1 n n' sz:Nat} {e:TypeId} {v v':Value} {xs xs' ys:List Value} (o1:W.ownsRow s e sz v n xs) (o2:W.ownsRow s e sz v' n' xs') (ap:Apt v v') (hb:Below s w0 W) (hs:s≤W.heap.size) (el:Obj)
  (ho:w2.ownsRow s e sz (.slice (some ⟨g1,0,none⟩) (n+1) cap1) (n+1) ys) (hg:(W.alloc el).grownBy w2 v.ownBlock) (hat:v.ownBlock=some g1∨g1=W.heap.size+1):
  w2.ownsRow s e sz v' n' xs'∧Apt (.slice (some ⟨g1,0,none⟩) (n+1) cap1) v'∧Below s w0 w2:=
 ⟨own_apt (o2.alloc el) hg ap.symm,apt_new hat (o2.alloc el) (by simp) ap,(hb.alloc hs el).grown hg (by simp;omega) (fun k e=>(o1.lt k e).1)⟩
def ackT (upto:Nat) (sk:List (Nat×Nat)) (p:PC):Bool:= !p.sacked&&(decide (p.til≤upto)||sk.any (holdP p))
def ackP (upto:Nat) (sk:List (Nat×Nat)) (p:PC):PC:=if ackT upto sk p then { p with sacked:=true,lost:=false }else p
def toldF (upto:Nat) (sk:List (Nat×Nat)) (l:List PC):List PC:=l.filter (ackT upto sk)
def restF (upto:Nat) (sk:List (Nat×Nat)) (l:List PC):List PC:=(l.filter (fun p=> !decide (p.til≤upto))).map (ackP upto sk)
theorem bdAck_no (b e upto:Nat) (l:List PC) (v:Value) (sk:List (Nat×Nat)) (hk:sk.length≤1000) (g:Nat→Nat) (T:Nat) (w:World) (hL:BdAt w g T b l e) (hr:Rd w v 2 sk.length (sk.flatMap rgl)) (hm:mayF upto e sk=false):
  Calls Tryz.prog 130 #[.pointer (some ⟨b,0,none⟩), .int .u64 upto,v] w fun e2 w'=>e2= .returned (.tuple #[.slice none 0 0, .int .u64 0, .int .i64 11])∧Below w.heap.size w w':=by
 have C:Hid (∀ w',w=w'→Calls Tryz.prog 159 #[.pointer (some ⟨b,0,none⟩), .int .u64 upto,v] w' fun e2 w''=>e2= .returned (.bool false)∧Below w'.heap.size w' w''):=zH fun w' e1=>by subst e1;have:=bdmay_any b e upto l v sk hk g T w hL hr;rw[hm]at this;exact this
 obtain⟨a,cap,rfl,_⟩:=hr.form;clear hL hr;go_enter Tryz.func130,Tryz.ntmps130
 go_wp2;go_step3
 go_wp2_with fail
 refine(C.out _ rfl).mono ?_;rintro e2 w1 ⟨rfl,hB⟩;go_wp2_with fail
 (try rw[Exit.noGoto_ret])
 refine bodyPost_ret (v:= .tuple #[.slice none 0 0, .int .u64 0, .int .i64 11]) (by simp[results,Tryz.results130,go_sem]) rfl ⟨rfl,hB⟩
theorem bdAck_yes (b e upto:Nat) (l:List PC) (hl:l.length≤5000) (v:Value) (sk:List (Nat×Nat)) (hks:sk.length≤1000) (g:Nat→Nat) (T:Nat) (hT1:1≤T) (w:World) (hT:Tidy w g) (hL:BdAt w g T b l e) (hr:Rd w v 2 sk.length (sk.flatMap rgl)) (hm:mayF upto e sk=true):
  Calls Tryz.prog 130 #[.pointer (some ⟨b,0,none⟩), .int .u64 upto,v] w fun e2 w'=> ∃ vt,e2= .returned (.tuple #[vt, .int .u64 (psF (restF upto sk l)).2.1, .int .i64 0])∧Rd w' vt 9 (toldF upto sk l).length ((toldF upto sk l).flatMap pcl)∧(∀ bt,vt.ownBlock=some bt→w.heap.size≤bt)∧ ∃ g',Chg w w' g g' T (T+2)∧BdAt w' g' T b (psF (restF upto sk l)).1 e:=by
 obtain⟨i0,HI⟩:=infoPc;have C:Hid (∀ w',w=w'→Calls Tryz.prog 159 #[.pointer (some ⟨b,0,none⟩), .int .u64 upto,v] w' fun e2 w''=>e2= .returned (.bool true)∧Below w'.heap.size w' w''):=zH fun w' e1=>by subst e1;have:=bdmay_any b e upto l v sk hks g T w hL hr;rw[hm]at this;exact this
 have HR:=zH hr;obtain⟨ask,csk,rfl,_⟩:=hr.form;obtain⟨vl,h1,h2⟩:=hL.ex;obtain⟨hblt,hbT⟩:=hL.lt;obtain⟨a,cap,rfl,_,hcap⟩:=h2.cap_;obtain⟨N,eN⟩: ∃ N,l.length=N:=⟨_,rfl⟩;rw[eN]at h1 h2;have H1:=zH h1;have H2:=zH h2;have HT:=zH hT;clear hL h1 h2 hT hr hm;go_enter Tryz.func130,Tryz.ntmps130
 go_wp2;go_step3
 go_wp2_with fail
 refine(C.out _ rfl).mono ?_;rintro e2 w1 ⟨rfl,hB⟩;have c0:w1.cell? ⟨b,0,none⟩=some (.slice a N cap):=(H1.out.below hB).1.cell 0;have HB:=zH hB;clear hB C;go_wp2_with fail
 go_step3
 go_wp2_with fail
 obtain⟨s,es⟩: ∃ s,w.heap.size=s:=⟨_,rfl⟩;have HB1:Hid (Below s w w1):=zH (es▸HB.out);go_loopw [9,10,28] (fun v9 v10 i wr=> ∃ k:Nat,k≤N∧i= .int .i64 k∧wr.ownsRow s 192 9 v9 (toldF upto sk (l.take k)).length ((toldF upto sk (l.take k)).flatMap pcl)∧wr.ownsRow s 192 9 v10 (restF upto sk (l.take k)).length ((restF upto sk (l.take k)).flatMap pcl)∧Apt v9 v10∧Below s w wr) (fun _ _ i _=>N-(intOf i).toNat)
 case atStart=>exact⟨0,Nat.zero_le _,rfl,by simpa [toldF]using World.ownsRow_nil _ _ _ _,by simpa [restF]using World.ownsRow_nil _ _ _ _, .inl rfl,HB1.out⟩
 case round=>
  obtain⟨k,hk,rfl,o9,o10,ap9,hBr⟩:=hrel;by_cases hlt:k<N
  ·have hS:=H2.out.below (w':=wr) (by rw[es];exact hBr)
   have hO:=H1.out.below (w':=wr) (by rw[es];exact hBr);rcases hS.form with⟨q1,q2,_⟩ | ⟨bb,off,cap',ea,ht,hbb,_,_⟩
   ·omega
   cases ea
   obtain⟨x,hx⟩: ∃ x,l[k]? =some x:=⟨_,List.getElem?_eq_getElem (by omega)⟩;obtain⟨xf,xt,xs,xk,xl⟩:=x;have htk:=take_snoc hx;have hrow: ∀ q,q<9→wr.cell? ⟨bb,off+k*9+q,none⟩=(pcl ⟨xf,xt,xs,xk,xl⟩)[q]? :=by
    intro q hq;have:=hS.cells (k*9+q) (by omega);rw[flat_at pcl_len hx q hq,←Nat.add_assoc]at this;exact this
   have r0:=hrow 0 (by omega);have r1:=hrow 1 (by omega);have r2:=hrow 2 (by omega);have r3:=hrow 3 (by omega);have r4:=hrow 4 (by omega);have r5:=hrow 5 (by omega);have r6:=hrow 6 (by omega);have r7:=hrow 7 (by omega);have r8:=hrow 8 (by omega);simp only[pcl,List.getElem?_cons_zero,List.getElem?_cons_succ,Nat.add_zero]at r0 r1 r2 r3 r4 r5 r6 r7 r8;have hl9:=zH o9.lt;have hl10:=zH o10.lt;have hsz:s≤wr.heap.size:=by rw[←es];exact hBr.size
   have hn9:(toldF upto sk (l.take k)).length≤5000:=by unfold toldF;have:=List.length_filter_le (ackT upto sk) (l.take k);rw[List.length_take]at this;omega
   have hn10:(restF upto sk (l.take k)).length≤5000:=by unfold restF;rw[List.length_map];have:=List.length_filter_le (fun p=> !decide (p.til≤upto)) (l.take k);rw[List.length_take]at this;omega
   obtain⟨n9,e9⟩: ∃ n9,(toldF upto sk (l.take k)).length=n9:=⟨_,rfl⟩;obtain⟨n10,e10⟩: ∃ n10,(restF upto sk (l.take k)).length=n10:=⟨_,rfl⟩;rw[e9]at o9 hn9;rw[e10]at o10 hn10;have CH0:Hid (∀ w',Below s w w'→Calls Tryz.prog 160 #[.slice ask sk.length csk,pcv ⟨xf,xt,xs,xk,xl⟩] w' fun e2 w''=>e2= .returned (.bool (sk.any (holdP ⟨xf,xt,xs,xk,xl⟩)))∧Below w'.heap.size w' w''):=zH fun w' hB=>bdholds_any ⟨xf,xt,xs,xk,xl⟩ _ sk hks w' (HR.out.below (by rw[es];exact hB))
   have CH:=CH0;unfold pcv at CH;obtain⟨a9,k9,rfl,m9⟩:=own_form o9;obtain⟨a10,k10,rfl,m10⟩:=own_form o10;obtain⟨pb,epb⟩: ∃ pb,wr.heap.size=pb:=⟨_,rfl⟩;have O9:=zH o9;have O10:=zH o10;have AP9:=zH ap9;have HBr:=zH hBr;clear hS hO hrow o9 o10 ap9 hBr CH0;go_upto_region 9 with fail
   refine wp_named (fun W=>At W pb 192 (pca ⟨xf,xt,xs,xk,xl⟩)∧Below s w W∧W.ownsRow s 192 9 (.slice a9 n9 k9) n9 ((toldF upto sk (l.take k)).flatMap pcl)∧W.ownsRow s 192 9 (.slice a10 n10 k10) n10 ((restF upto sk (l.take k)).flatMap pcl)∧pb<W.heap.size) ⟨by rw[←epb];exact At.made wr _ _,HBr.out.alloc (by omega) _,O9.out.alloc _,O10.out.alloc _,by simp[epb]⟩ ?_;rintro w2 ⟨A2,B2,P9,P10,hpb⟩;replace O9:=zH P9;replace O10:=zH P10;have AP:=zH A2;have HB2:=zH B2;have hsz2:s≤w2.heap.size:=by rw[←es];exact B2.size
   clear r0 r1 r2 r3 r4 r5 r6 r7 r8 P9 P10 B2;have r0:=A2.cell 0;have r1:=A2.cell 1;have r2:=A2.cell 2;have r3:=A2.cell 3;have r4:=A2.cell 4;have r5:=A2.cell 5;have r6:=A2.cell 6;have r7:=A2.cell 7;have r8:=A2.cell 8;have f7:=A2.free 7;have f8:=A2.free 8;simp only[pca,List.getElem?_toArray,List.getElem?_cons_zero,List.getElem?_cons_succ]at r0 r1 r2 r3 r4 r5 r6 r7 r8;clear A2;cases xk
   ·by_cases hgn:xt≤upto
    ·have hg':(xt:Int)≤upto:=by omega
     go_wp2_with (at_builtin;refine wpList_append_lies _ rfl _ _ 218 rfl s 192 i0 (.agg #[.int .u64 0, .int .u64 0, .int .u64 0, .int .u64 0, .int .u64 0, .int .u64 0, .bool false, .bool false, .bool false]) 9 64 Tryz.underlying218 HI.out.1 HI.out.2.1 HI.out.2.2.1 HI.out.2.2.2 rfl (by decide) _ n9 ((toldF upto sk (l.take k)).flatMap pcl) rfl (O9.out.alloc _) ⟨w2.heap.size,0,none⟩ 1 1 (pcl ⟨xf,xt,xs,false,xl⟩) rfl rfl (World.news_of_block (At.made w2 192 (pca ⟨xf,xt,xs,false,xl⟩))) (pcl_one _) (by decide) ?c1 ?c2 ?c3 _ rfl ?_)
     case c1=>unfold maxLen;omega
     case c2=>omega
     case c3=>first | omega | (simp;omega)
     intro g4 cap4 w4 ho hg hat hlt4;obtain⟨K1,K2,K3⟩:=app_facts O9.out O10.out AP9.out HB2.out hsz2 _ ho hg hat;have A4:=(AP.out.kept (World.grownBy_alloc w2 _ none) (by simp)).kept hg (fun e=>by have:=hl9.out pb e.symm;omega);clear r0 r1 r2 r3 r4 r5 r6 r7 r8 f7 f8;have r0:=A4.cell 0;have r1:=A4.cell 1;have r2:=A4.cell 2;have r3:=A4.cell 3;have r4:=A4.cell 4;have r5:=A4.cell 5;have r6:=A4.cell 6;have r7:=A4.cell 7;have r8:=A4.cell 8;have f7:=A4.free 7;have f8:=A4.free 8;simp only[pca,List.getElem?_toArray,List.getElem?_cons_zero,List.getElem?_cons_succ]at r0 r1 r2 r3 r4 r5 r6 r7 r8;have AP_:=zH A4;have hpbW:=AP.out.lt;have AP:=AP_;have h9n:g4≠pb:=by
      rcases hat with h | h
      ·have:=hl9.out g4 h;omega
      ·omega
     have O9:=zH ho;have O10:=zH K1;have AP9:=zH K2;have HB2:=zH K3;have hsz2:s≤w4.heap.size:=by rw[←es];exact K3.size
     clear A4 ho hg hat K1 K2 K3;go_upto_region 13 with fail
     have A5:=(AP.out.set (u:= .bool true) 7).set (u:= .bool false) 8;have G5:w4.grownBy _ (some pb):=(grown_set w4 pb 7 (.bool true)).trans (grown_set _ pb 8 (.bool false));refine wp_named (fun W=>At W pb 192 (pca ⟨xf,xt,xs,true,false⟩)∧w4.grownBy W (some pb)) ⟨A5,G5⟩ ?_;rintro w5 ⟨A5,G5⟩;have hpb5:s≤pb:=by omega
     have O9:=zH (O9.out.kept G5 (by right;intro h;simp[Value.ownBlock]at h;exact h9n h));have O10:=zH (O10.out.kept G5 (by cases hb10:(Value.slice a10 n10 k10).ownBlock with | none=>exact .inl rfl | some q=>exact .inr (fun h=>by cases h;have:=hl10.out pb hb10;omega)));have HB2:=zH (HB2.out.grown G5 hsz2 (fun q h=>by cases h;omega));have hsz2:s≤w5.heap.size:=by rw[←es];exact HB2.out.size
     have AP:=zH A5;clear r0 r1 r2 r3 r4 r5 r6 r7 r8 f7 f8;have r0:=A5.cell 0;have r1:=A5.cell 1;have r2:=A5.cell 2;have r3:=A5.cell 3;have r4:=A5.cell 4;have r5:=A5.cell 5;have r6:=A5.cell 6;have r7:=A5.cell 7;have r8:=A5.cell 8;have f7:=A5.free 7;have f8:=A5.free 8;simp only[pca,List.getElem?_toArray,List.getElem?_cons_zero,List.getElem?_cons_succ]at r0 r1 r2 r3 r4 r5 r6 r7 r8;clear A5 G5;go_wp2_with fail
     go_roundw
     case rel=>
      have eT:toldF upto sk (l.take (k+1))=toldF upto sk (l.take k)++[⟨xf,xt,xs,false,xl⟩]:=by rw[htk];simp[toldF,ackT,hgn]
      have eR:restF upto sk (l.take (k+1))=restF upto sk (l.take k)++[]:=by rw[htk];simp[restF,hgn]
      refine⟨k+1,by omega,by simp, ?_, ?_,AP9.out,HB2.out⟩
      ·rw[eT];first | (rw[List.length_append,e9,flat_snoc];exact O9.out) | (rw[List.append_nil,e9];exact O9.out)
      ·rw[eR];first | (rw[List.length_append,e10,flat_snoc];exact O10.out) | (rw[List.append_nil,e10];exact O10.out)
     case measure=>simp[intOf];omega
    ·have hg': ¬(xt:Int)≤upto:=by omega
     cases hhd:sk.any (holdP ⟨xf,xt,xs,false,xl⟩)
     ·rw[hhd]at CH
      go_wp2_with fail
      refine(CH.out _ (HB2.out)).mono ?_;rintro e3 w3 ⟨rfl,hB3⟩;have HB2:=zH (HB2.out.trans (hB3.mono (by rw[←es];exact HB2.out.size)));have A2:=AP.out.below hB3 AP.out.lt;have O9:=zH (own_below O9.out hB3);have O10:=zH (own_below O10.out hB3);have AP:=zH A2;have hsz2:s≤w3.heap.size:=by rw[←es];exact HB2.out.size
      clear r0 r1 r2 r3 r4 r5 r6 r7 r8 f7 f8;have r0:=A2.cell 0;have r1:=A2.cell 1;have r2:=A2.cell 2;have r3:=A2.cell 3;have r4:=A2.cell 4;have r5:=A2.cell 5;have r6:=A2.cell 6;have r7:=A2.cell 7;have r8:=A2.cell 8;have f7:=A2.free 7;have f8:=A2.free 8;simp only[pca,List.getElem?_toArray,List.getElem?_cons_zero,List.getElem?_cons_succ]at r0 r1 r2 r3 r4 r5 r6 r7 r8;clear A2 hB3;go_wp2_with (at_builtin;refine wpList_append_lies _ rfl _ _ 218 rfl s 192 i0 (.agg #[.int .u64 0, .int .u64 0, .int .u64 0, .int .u64 0, .int .u64 0, .int .u64 0, .bool false, .bool false, .bool false]) 9 64 Tryz.underlying218 HI.out.1 HI.out.2.1 HI.out.2.2.1 HI.out.2.2.2 rfl (by decide) _ n10 ((restF upto sk (l.take k)).flatMap pcl) rfl (O10.out.alloc _) ⟨w3.heap.size,0,none⟩ 1 1 (pcl ⟨xf,xt,xs,false,xl⟩) rfl rfl (World.news_of_block (At.made w3 192 (pca ⟨xf,xt,xs,false,xl⟩))) (pcl_one _) (by decide) ?d1 ?d2 ?d3 _ rfl ?_)
      case d1=>unfold maxLen;omega
      case d2=>omega
      case d3=>first | omega | (simp;omega)
      intro g6 cap6 w6 ho hg hat hlt6;obtain⟨K1,K2,K3⟩:=app_facts O10.out O9.out AP9.out.symm HB2.out hsz2 _ ho hg hat;have O9:=zH K1;have O10:=zH ho;have AP9:=zH K2.symm;have HB2:=zH K3;clear ho hg hat K1 K2 K3 r0 r1 r2 r3 r4 r5 r6 r7 r8 f7 f8;go_wp2_with fail
      go_roundw
      case rel=>
       have eT:toldF upto sk (l.take (k+1))=toldF upto sk (l.take k)++[]:=by rw[htk];simp[toldF,ackT,hgn,hhd]
       have eR:restF upto sk (l.take (k+1))=restF upto sk (l.take k)++[⟨xf,xt,xs,false,xl⟩]:=by rw[htk];simp[restF,ackP,ackT,hgn,hhd]
       refine⟨k+1,by omega,by simp, ?_, ?_,AP9.out,HB2.out⟩
       ·rw[eT];first | (rw[List.length_append,e9,flat_snoc];exact O9.out) | (rw[List.append_nil,e9];exact O9.out)
       ·rw[eR];first | (rw[List.length_append,e10,flat_snoc];exact O10.out) | (rw[List.append_nil,e10];exact O10.out)
      case measure=>simp[intOf];omega
     ·rw[hhd]at CH
      go_wp2_with fail
      refine(CH.out _ (HB2.out)).mono ?_;rintro e3 w3 ⟨rfl,hB3⟩;have HB2:=zH (HB2.out.trans (hB3.mono (by rw[←es];exact HB2.out.size)));have A2:=AP.out.below hB3 AP.out.lt;have O9:=zH (own_below O9.out hB3);have O10:=zH (own_below O10.out hB3);have AP:=zH A2;have hsz2:s≤w3.heap.size:=by rw[←es];exact HB2.out.size
      clear r0 r1 r2 r3 r4 r5 r6 r7 r8 f7 f8;have r0:=A2.cell 0;have r1:=A2.cell 1;have r2:=A2.cell 2;have r3:=A2.cell 3;have r4:=A2.cell 4;have r5:=A2.cell 5;have r6:=A2.cell 6;have r7:=A2.cell 7;have r8:=A2.cell 8;have f7:=A2.free 7;have f8:=A2.free 8;simp only[pca,List.getElem?_toArray,List.getElem?_cons_zero,List.getElem?_cons_succ]at r0 r1 r2 r3 r4 r5 r6 r7 r8;clear A2 hB3;go_wp2_with (at_builtin;refine wpList_append_lies _ rfl _ _ 218 rfl s 192 i0 (.agg #[.int .u64 0, .int .u64 0, .int .u64 0, .int .u64 0, .int .u64 0, .int .u64 0, .bool false, .bool false, .bool false]) 9 64 Tryz.underlying218 HI.out.1 HI.out.2.1 HI.out.2.2.1 HI.out.2.2.2 rfl (by decide) _ n9 ((toldF upto sk (l.take k)).flatMap pcl) rfl (O9.out.alloc _) ⟨w3.heap.size,0,none⟩ 1 1 (pcl ⟨xf,xt,xs,false,xl⟩) rfl rfl (World.news_of_block (At.made w3 192 (pca ⟨xf,xt,xs,false,xl⟩))) (pcl_one _) (by decide) ?c1 ?c2 ?c3 _ rfl ?_)
      case c1=>unfold maxLen;omega
      case c2=>omega
      case c3=>first | omega | (simp;omega)
      intro g4 cap4 w4 ho hg hat hlt4;obtain⟨K1,K2,K3⟩:=app_facts O9.out O10.out AP9.out HB2.out hsz2 _ ho hg hat;have A4:=(AP.out.kept (World.grownBy_alloc w3 _ none) (by simp)).kept hg (fun e=>by have:=hl9.out pb e.symm;omega);clear r0 r1 r2 r3 r4 r5 r6 r7 r8 f7 f8;have r0:=A4.cell 0;have r1:=A4.cell 1;have r2:=A4.cell 2;have r3:=A4.cell 3;have r4:=A4.cell 4;have r5:=A4.cell 5;have r6:=A4.cell 6;have r7:=A4.cell 7;have r8:=A4.cell 8;have f7:=A4.free 7;have f8:=A4.free 8;simp only[pca,List.getElem?_toArray,List.getElem?_cons_zero,List.getElem?_cons_succ]at r0 r1 r2 r3 r4 r5 r6 r7 r8;have AP_:=zH A4;have hpbW:=AP.out.lt;have AP:=AP_;have h9n:g4≠pb:=by
       rcases hat with h | h
       ·have:=hl9.out g4 h;omega
       ·omega
      have O9:=zH ho;have O10:=zH K1;have AP9:=zH K2;have HB2:=zH K3;have hsz2:s≤w4.heap.size:=by rw[←es];exact K3.size
      clear A4 ho hg hat K1 K2 K3;go_upto_region 13 with fail
      have A5:=(AP.out.set (u:= .bool true) 7).set (u:= .bool false) 8;have G5:w4.grownBy _ (some pb):=(grown_set w4 pb 7 (.bool true)).trans (grown_set _ pb 8 (.bool false));refine wp_named (fun W=>At W pb 192 (pca ⟨xf,xt,xs,true,false⟩)∧w4.grownBy W (some pb)) ⟨A5,G5⟩ ?_;rintro w5 ⟨A5,G5⟩;have hpb5:s≤pb:=by omega
      have O9:=zH (O9.out.kept G5 (by right;intro h;simp[Value.ownBlock]at h;exact h9n h));have O10:=zH (O10.out.kept G5 (by cases hb10:(Value.slice a10 n10 k10).ownBlock with | none=>exact .inl rfl | some q=>exact .inr (fun h=>by cases h;have:=hl10.out pb hb10;omega)));have HB2:=zH (HB2.out.grown G5 hsz2 (fun q h=>by cases h;omega));have hsz2:s≤w5.heap.size:=by rw[←es];exact HB2.out.size
      have AP:=zH A5;clear r0 r1 r2 r3 r4 r5 r6 r7 r8 f7 f8;have r0:=A5.cell 0;have r1:=A5.cell 1;have r2:=A5.cell 2;have r3:=A5.cell 3;have r4:=A5.cell 4;have r5:=A5.cell 5;have r6:=A5.cell 6;have r7:=A5.cell 7;have r8:=A5.cell 8;have f7:=A5.free 7;have f8:=A5.free 8;simp only[pca,List.getElem?_toArray,List.getElem?_cons_zero,List.getElem?_cons_succ]at r0 r1 r2 r3 r4 r5 r6 r7 r8;clear A5 G5;go_wp2_with (at_builtin;refine wpList_append_lies _ rfl _ _ 218 rfl s 192 i0 (.agg #[.int .u64 0, .int .u64 0, .int .u64 0, .int .u64 0, .int .u64 0, .int .u64 0, .bool false, .bool false, .bool false]) 9 64 Tryz.underlying218 HI.out.1 HI.out.2.1 HI.out.2.2.1 HI.out.2.2.2 rfl (by decide) _ n10 ((restF upto sk (l.take k)).flatMap pcl) rfl (O10.out.alloc _) ⟨w5.heap.size,0,none⟩ 1 1 (pcl ⟨xf,xt,xs,true,false⟩) rfl rfl (World.news_of_block (At.made w5 192 (pca ⟨xf,xt,xs,true,false⟩))) (pcl_one _) (by decide) ?d1 ?d2 ?d3 _ rfl ?_)
      case d1=>unfold maxLen;omega
      case d2=>omega
      case d3=>first | omega | (simp;omega)
      intro g6 cap6 w6 ho hg hat hlt6;obtain⟨K1,K2,K3⟩:=app_facts O10.out O9.out AP9.out.symm HB2.out hsz2 _ ho hg hat;have O9:=zH K1;have O10:=zH ho;have AP9:=zH K2.symm;have HB2:=zH K3;clear ho hg hat K1 K2 K3 r0 r1 r2 r3 r4 r5 r6 r7 r8 f7 f8;go_wp2_with fail
      go_roundw
      case rel=>
       have eT:toldF upto sk (l.take (k+1))=toldF upto sk (l.take k)++[⟨xf,xt,xs,false,xl⟩]:=by rw[htk];simp[toldF,ackT,hgn,hhd]
       have eR:restF upto sk (l.take (k+1))=restF upto sk (l.take k)++[⟨xf,xt,xs,true,false⟩]:=by rw[htk];simp[restF,ackP,ackT,hgn,hhd]
       refine⟨k+1,by omega,by simp, ?_, ?_,AP9.out,HB2.out⟩
       ·rw[eT];first | (rw[List.length_append,e9,flat_snoc];exact O9.out) | (rw[List.append_nil,e9];exact O9.out)
       ·rw[eR];first | (rw[List.length_append,e10,flat_snoc];exact O10.out) | (rw[List.append_nil,e10];exact O10.out)
      case measure=>simp[intOf];omega
   ·by_cases hgn:xt≤upto
    ·have hg':(xt:Int)≤upto:=by omega
     go_wp2_with fail
     go_roundw
     case rel=>
      have eT:toldF upto sk (l.take (k+1))=toldF upto sk (l.take k)++[]:=by rw[htk];simp[toldF,ackT,hgn]
      have eR:restF upto sk (l.take (k+1))=restF upto sk (l.take k)++[]:=by rw[htk];simp[restF,hgn]
      refine⟨k+1,by omega,by simp, ?_, ?_,AP9.out,HB2.out⟩
      ·rw[eT];first | (rw[List.length_append,e9,flat_snoc];exact O9.out) | (rw[List.append_nil,e9];exact O9.out)
      ·rw[eR];first | (rw[List.length_append,e10,flat_snoc];exact O10.out) | (rw[List.append_nil,e10];exact O10.out)
     case measure=>simp[intOf];omega
    ·have hg': ¬(xt:Int)≤upto:=by omega
     go_wp2_with (at_builtin;refine wpList_append_lies _ rfl _ _ 218 rfl s 192 i0 (.agg #[.int .u64 0, .int .u64 0, .int .u64 0, .int .u64 0, .int .u64 0, .int .u64 0, .bool false, .bool false, .bool false]) 9 64 Tryz.underlying218 HI.out.1 HI.out.2.1 HI.out.2.2.1 HI.out.2.2.2 rfl (by decide) _ n10 ((restF upto sk (l.take k)).flatMap pcl) rfl (O10.out.alloc _) ⟨w2.heap.size,0,none⟩ 1 1 (pcl ⟨xf,xt,xs,true,xl⟩) rfl rfl (World.news_of_block (At.made w2 192 (pca ⟨xf,xt,xs,true,xl⟩))) (pcl_one _) (by decide) ?d1 ?d2 ?d3 _ rfl ?_)
     case d1=>unfold maxLen;omega
     case d2=>omega
     case d3=>first | omega | (simp;omega)
     intro g6 cap6 w6 ho hg hat hlt6;obtain⟨K1,K2,K3⟩:=app_facts O10.out O9.out AP9.out.symm HB2.out hsz2 _ ho hg hat;have O9:=zH K1;have O10:=zH ho;have AP9:=zH K2.symm;have HB2:=zH K3;clear ho hg hat K1 K2 K3 r0 r1 r2 r3 r4 r5 r6 r7 r8 f7 f8;go_wp2_with fail
     go_roundw
     case rel=>
      have eT:toldF upto sk (l.take (k+1))=toldF upto sk (l.take k)++[]:=by rw[htk];simp[toldF,ackT,hgn]
      have eR:restF upto sk (l.take (k+1))=restF upto sk (l.take k)++[⟨xf,xt,xs,true,xl⟩]:=by rw[htk];simp[restF,ackP,ackT,hgn]
      refine⟨k+1,by omega,by simp, ?_, ?_,AP9.out,HB2.out⟩
      ·rw[eT];first | (rw[List.length_append,e9,flat_snoc];exact O9.out) | (rw[List.append_nil,e9];exact O9.out)
      ·rw[eR];first | (rw[List.length_append,e10,flat_snoc];exact O10.out) | (rw[List.append_nil,e10];exact O10.out)
     case measure=>simp[intOf];omega
  ·obtain rfl:k=N:=by omega
   have hO:=H1.out.below (w':=wr) (by rw[es];exact hBr);have k0:=hO.1.cell 0;have f0:=hO.1.free 0;simp only[List.getElem?_toArray,List.getElem?_cons_zero]at k0;have e1:l.take k=l:=by rw[←eN,List.take_length]
   rw[e1]at o9 o10;obtain⟨a9,k9,rfl,m9⟩:=own_form o9;obtain⟨a10,k10,rfl,m10⟩:=own_form o10;have hrl:(restF upto sk l).length≤5000:=by unfold restF;rw[List.length_map];have:=List.length_filter_le (fun p:PC=> !decide (p.til≤upto)) l;omega
   have hbs:b<s:=by omega
   have hG:wr.grownBy (wr.setCell ⟨b,0,none⟩ (.slice a10 (restF upto sk l).length k10)) (some b):=grown_set _ _ _ _;have p9:=o9.kept hG (by cases h9:(Value.slice a9 (toldF upto sk l).length k9).ownBlock with | none=>exact .inl rfl | some q=>exact .inr (fun h=>by cases h;have:=(o9.lt b h9).1;omega));have p10:=o10.kept hG (by cases h9:(Value.slice a10 (restF upto sk l).length k10).ownBlock with | none=>exact .inl rfl | some q=>exact .inr (fun h=>by cases h;have:=(o10.lt b h9).1;omega));have cB:Chg w (wr.setCell ⟨b,0,none⟩ (.slice a10 (restF upto sk l).length k10)) g g T (T+2):=(Chg.of_below HT.out T (T+2) (by rw[es];exact hBr)).set (fun _=>by omega) _;obtain⟨g2,c2,t2,u2⟩:=cB.retagO (.slice a10 (restF upto sk l).length k10) (T+1) (fun q hq=>by rw[es];exact p10.lt q hq);have hB2:BdAt (wr.setCell ⟨b,0,none⟩ (.slice a10 (restF upto sk l).length k10)) g2 T b (restF upto sk l) e:=
    ⟨_,⟨hO.1.set 0,by rw[u2 b (fun h=>by have:=(p10.lt b h).1;omega)];exact hbT⟩,Sli.of_own p10 t2⟩
   have hS9:Sli (wr.setCell ⟨b,0,none⟩ (.slice a10 (restF upto sk l).length k10)) g2 0 192 9 (.slice a9 (toldF upto sk l).length k9) (toldF upto sk l).length ((toldF upto sk l).flatMap pcl):=
    Sli.of_own p9 (fun q hq=>by
     rw[u2 q (fun h=>by rcases ap9 with h1 | h1 | h1<;>simp_all)];exact HT.out q (by rw[es];exact(p9.lt q hq).1))
   have CP:Hid (∀ w',(wr.setCell ⟨b,0,none⟩ (.slice a10 (restF upto sk l).length k10))=w'→Calls Tryz.prog 161 #[.pointer (some ⟨b,0,none⟩)] w' fun e2 w''=>e2= .returned (.int .u64 (psF (restF upto sk l)).2.1)∧Chg w w'' g g2 T (T+2)∧BdAt w'' g2 T b (psF (restF upto sk l)).1 e∧Rd w'' (.slice a9 (toldF upto sk l).length k9) 9 (toldF upto sk l).length ((toldF upto sk l).flatMap pcl)):=
    zH fun w' hw=>by
     subst hw;exact(bdpassed_any b e (restF upto sk l) hrl g2 T hT1 _ c2.tidy hB2).mono fun e2 w'' ⟨q1,q2,q3⟩=>⟨q1,c2.trans q2,q3,(hS9.chg q2 (by omega)).rd⟩
   have OL:=zH o9.lt;clear hB2 hS9 c2 cB p9 p10 hG o9 o10 hBr hO t2 u2 ap9;go_wp2_with fail
   refine(CP.out _ rfl).mono ?_;rintro e3 w3 ⟨rfl,q2,q3,q4⟩;have HQ:=zH (And.intro q2 (And.intro q3 q4));clear q2 q3 q4;go_wp2_with fail
   (try rw[Exit.noGoto_ret])
   refine bodyPost_ret (v:= .tuple #[.slice a9 (toldF upto sk l).length k9, .int .u64 (psF (restF upto sk l)).2.1, .int .i64 0]) (by simp[results,Tryz.results130,go_sem]) rfl ⟨_,rfl,HQ.out.2.2,fun q hq=>by rw[es];exact(OL.out q hq).1,g2,HQ.out.1,HQ.out.2.1⟩
end
section
open Go.RowKit Go.Lib
structure ND where
 ka:Nat
 kb:Nat
 l:Int
 r:Int
 h:Int
instance:Inhabited ND:=⟨⟨0,0,0,0,0⟩⟩
def ndl (n:ND):List Value:=[.int .u64 n.ka, .int .u64 n.kb, .int .i64 n.l, .int .i64 n.r, .int .i64 n.h]
theorem ndl_len (n:ND):(ndl n).length=5:=rfl
theorem ndl_one (p:ND): ∀ u∈ndl p,u.oneCell'=true:=by
 intro u hu;simp only[ndl,List.mem_cons,List.not_mem_nil,or_false]at hu;rcases hu with rfl | rfl | rfl | rfl | rfl<;>rfl
structure NsAt (w:World) (g:Nat→Nat) (T b:Nat) (pa:Nat) (v:Value) (top size:Int) (ns:List ND):Prop where
 ex:Of w g T b 155 #[.pointer (some ⟨pa,0,none⟩),v, .int .i64 top, .int .i64 size, .int .i64 8]∧Sli w g (T+1) 216 5 v ns.length (ns.flatMap ndl)
section
variable {w w':World} {g g':Nat→Nat} {T b lo hi pa:Nat} {v:Value} {top size:Int} {ns:List ND}
theorem NsAt.below (h:NsAt w g T b pa v top size ns) (hb:Below w.heap.size w w'):NsAt w' g T b pa v top size ns:=by
 obtain⟨h1,h2⟩:=h.ex;exact⟨h1.below hb,h2.below hb⟩
theorem NsAt.chg (h:NsAt w g T b pa v top size ns) (c:Chg w w' g g' lo hi) (h1:T+2≤lo∨hi≤T):NsAt w' g' T b pa v top size ns:=by
 obtain⟨k1,k2⟩:=h.ex;exact⟨k1.chg c (by omega),k2.chg c (by omega)⟩
theorem NsAt.lt (h:NsAt w g T b pa v top size ns):b<w.heap.size∧g b=T:=by
 obtain⟨k1,k2⟩:=h.ex;exact⟨k1.1.lt,k1.2⟩
end
theorem NsAt.drewN {w:World} {g:Nat→Nat} {T b pa:Nat} {v:Value} {top size:Int} {ns:List ND} (h:NsAt w g T b pa v top size ns) (n:Nat):NsAt (w.drewN n) g T b pa v top size ns:=h.below (Drn.below ⟨n,rfl⟩)
theorem ns_form {w:World} {g:Nat→Nat} {T b pa:Nat} {v:Value} {top size:Int} {ns:List ND} (h:NsAt w g T b pa v top size ns) (hn:0<ns.length): ∃ bb off cap,v= .slice (some ⟨bb,off,none⟩) ns.length cap:=by
 obtain⟨h1,h2⟩:=h.ex;rcases h2.form with⟨k1,k2,_⟩ | ⟨bb,off,cap,e,ht,hbb,_,_⟩
 ·omega
 ·exact⟨bb,off,cap,e⟩
theorem ns_num {w:World} {g:Nat→Nat} {T b pa:Nat} {a:Option Addr} {N cap:Nat} {top size:Int} {ns:List ND} (h:NsAt w g T b pa (.slice a N cap) top size ns):N=ns.length:=by
 obtain⟨a',cap',e,_⟩:=h.ex.2.cap_;cases e
 rfl
theorem ns_at {w:World} {g:Nat→Nat} {T b pa bb off N cap:Nat} {top size:Int} {ns:List ND} (h:NsAt w g T b pa (.slice (some ⟨bb,off,none⟩) N cap) top size ns):
  w.cell? ⟨b,1,none⟩=some (.slice (some ⟨bb,off,none⟩) N cap)∧Of w g T b 155 #[.pointer (some ⟨pa,0,none⟩), .slice (some ⟨bb,off,none⟩) N cap, .int .i64 top, .int .i64 size, .int .i64 8]∧
   Sli w g (T+1) 216 5 (.slice (some ⟨bb,off,none⟩) ns.length cap) ns.length (ns.flatMap ndl)∧bb≠b∧
   (∀ i x,ns[i]? =some x→ ∀ q,q<5→w.cell? ⟨bb,off+i*5+q,none⟩=(ndl x)[q]?)∧ ∀ j,w.frozen? ⟨bb,j,none⟩=false:=by
 have hN:=ns_num h;obtain⟨h1,h2⟩:=h.ex;rw[hN]at h2;refine⟨h1.1.cell 1,h1,h2, ?_, ?_,fun j=>h2.free j⟩
 ·rintro rfl;have:=h1.2;have:=h2.tag_.1;omega
 ·intro i x hx q hq
  have hi:=(List.getElem?_eq_some_iff.1 hx).1;have:=h2.cells (i*5+q) (by omega);rw[flat_at ndl_len hx q hq,←Nat.add_assoc]at this;exact this
theorem sli_node {w:World} {g:Nat→Nat} {i:Nat} {e:TypeId} {bb off cap:Nat} {ns:List ND} (h:Sli w g i e 5 (.slice (some ⟨bb,off,none⟩) ns.length cap) ns.length (ns.flatMap ndl)) {j:Nat} {x:ND} (hx:ns[j]? =some x) (q:Nat) (hq:q<5) (u:Value) (y:ND) (hy:(ndl x).set q u=ndl y):
  Sli (w.setCell ⟨bb,off+j*5+q,none⟩ u) g i e 5 (.slice (some ⟨bb,off,none⟩) (ns.set j y).length cap) (ns.set j y).length ((ns.set j y).flatMap ndl):=by
 obtain⟨A,B,s1,s2,s3⟩:=flat_split ndl_len hx;have hj:=(List.getElem?_eq_some_iff.1 hx).1;rw[s1]at h;have:=h.storedA (off+j*5+q) (j*5+q) u (by omega) (by omega);rw[set_mid A _ B (j*5) _ q _ s2 rfl (by rw[ndl_len];omega),hy,←s3]at this;rw[List.length_set];exact this
def hiF (ns:List ND) (i:Int):Int:=if i= -1 then 0 else(ns.getD i.toNat default).h
def okI (ns:List ND) (i:Int):Prop:=i= -1∨0≤i∧i.toNat<ns.length
theorem rbroot_any (b:Nat) (pa:Nat) (v:Value) (top size:Int) (ns:List ND) (ht:0≤top) (ht2:top≤100000) (g:Nat→Nat) (T:Nat) (w:World) (h:NsAt w g T b pa v top size ns):
  Calls Tryz.prog 145 #[.pointer (some ⟨b,0,none⟩)] w fun e w'=>e= .returned (.int .i64 (top-1))∧w=w':=by
 obtain⟨h1,_⟩:=h.ex;have c2:=h1.1.ce 2;obtain⟨t,rfl⟩:=Int.eq_ofNat_of_zero_le ht;clear h h1;go_enter Tryz.func145,Tryz.ntmps145
 go_wp2;go_ret
 exact⟨rfl,rfl⟩
theorem rbhigh_any (b:Nat) (pa:Nat) (v:Value) (top size:Int) (ns:List ND) (i:Int) (hi:okI ns i) (g:Nat→Nat) (T:Nat) (w:World) (h:NsAt w g T b pa v top size ns):
  Calls Tryz.prog 199 #[.pointer (some ⟨b,0,none⟩), .int .i64 i] w fun e w'=>e= .returned (.int .i64 (hiF ns i))∧w=w':=by
 unfold hiF;rcases hi with rfl | ⟨h0,h1⟩
 ·rw[if_pos rfl]
  clear h;go_enter Tryz.func199,Tryz.ntmps199
  go_wp2;go_ret
  exact⟨rfl,rfl⟩
 ·rw[if_neg (by omega)]
  obtain⟨j,rfl⟩:=Int.eq_ofNat_of_zero_le h0;simp only[Int.toNat_natCast]at h1 ⊢;obtain⟨bb,off,cap,rfl⟩:=ns_form h (by omega);obtain⟨k1,kO,kS,kne,kc,kf⟩:=ns_at h;have hx:ns[j]? =some (ns.getD j default):=by rw[List.getD_eq_getElem?_getD,List.getElem?_eq_getElem h1];rfl
  obtain⟨x,ex⟩: ∃ x,ns.getD j default=x:=⟨_,rfl⟩;rw[ex]at hx ⊢;have r4:=kc j x hx 4 (by omega);simp only[ndl,List.getElem?_cons_zero,List.getElem?_cons_succ]at r4;have hne:((j:Int)== -1)=false:=by rw[beq_eq_false_iff_ne];omega
  clear h kO kS kc kf;go_enter Tryz.func199,Tryz.ntmps199
  go_wp2;go_ret
  exact⟨rfl,rfl⟩
theorem getD_some {ns:List ND} {j:Nat} (h:j<ns.length):ns[j]? =some (ns.getD j default):=by
 rw[List.getD_eq_getElem?_getD,List.getElem?_eq_getElem h];rfl
def leanF (ns:List ND) (j:Nat):Int:=wrap64 (hiF ns (ns.getD j default).l-hiF ns (ns.getD j default).r)
theorem rblean_any (b:Nat) (pa:Nat) (v:Value) (top size:Int) (ns:List ND) (j:Nat) (hj:j<ns.length) (hl:okI ns (ns.getD j default).l) (hr:okI ns (ns.getD j default).r) (g:Nat→Nat) (T:Nat) (w:World) (h:NsAt w g T b pa v top size ns):
  Calls Tryz.prog 178 #[.pointer (some ⟨b,0,none⟩), .int .i64 j] w fun e w'=>e= .returned (.int .i64 (leanF ns j))∧ ∃ q,w'=w.drewN q:=by
 unfold leanF;have CL:Hid (∀ n,Calls Tryz.prog 199 #[.pointer (some ⟨b,0,none⟩), .int .i64 (ns.getD j default).l] (w.drewN n) fun e w'=>e= .returned (.int .i64 (hiF ns (ns.getD j default).l))∧ ∃ m,w'=w.drewN m):=zH fun n=>still (rbhigh_any b pa v top size ns _ hl g T _ (h.drewN n))
 have CR:Hid (∀ n,Calls Tryz.prog 199 #[.pointer (some ⟨b,0,none⟩), .int .i64 (ns.getD j default).r] (w.drewN n) fun e w'=>e= .returned (.int .i64 (hiF ns (ns.getD j default).r))∧ ∃ m,w'=w.drewN m):=zH fun n=>still (rbhigh_any b pa v top size ns _ hr g T _ (h.drewN n))
 obtain⟨bb,off,cap,rfl⟩:=ns_form h (by omega);obtain⟨k1,kO,kS,kne,kc,kf⟩:=ns_at h;have hx:=getD_some hj;obtain⟨x,ex⟩: ∃ x,ns.getD j default=x:=⟨_,rfl⟩;rw[ex]at hx CL CR hl hr ⊢;have r2:=kc j x hx 2 (by omega);have r3:=kc j x hx 3 (by omega);simp only[ndl,List.getElem?_cons_zero,List.getElem?_cons_succ]at r2 r3;obtain⟨A,eA⟩: ∃ A,hiF ns x.l=A:=⟨_,rfl⟩;obtain⟨B,eB⟩: ∃ B,hiF ns x.r=B:=⟨_,rfl⟩;rw[eA]at CL ⊢;rw[eB]at CR ⊢;clear h kO kS kc kf;go_enter Tryz.func178,Tryz.ntmps178
 go_wp2;go_quiet (first | with_reducible exact CL.out _ | with_reducible exact CR.out _)
 go_wp2;go_ret
 exact⟨rfl,_,rfl⟩
end
section
open Go.RowKit Go.Lib
def mendF (ns:List ND) (j:Nat):List ND:=ns.set j { ns.getD j default with h:=IntKind.i64.wrap (max (hiF ns (ns.getD j default).l) (hiF ns (ns.getD j default).r)+1) }
theorem rbmend_any (b:Nat) (pa:Nat) (v:Value) (top size:Int) (ns:List ND) (j:Nat) (hj:j<ns.length) (hl:okI ns (ns.getD j default).l) (hr:okI ns (ns.getD j default).r) (g:Nat→Nat) (T:Nat) (w:World) (hT:Tidy w g) (h:NsAt w g T b pa v top size ns):
  Calls Tryz.prog 177 #[.pointer (some ⟨b,0,none⟩), .int .i64 j] w fun e w'=>(∃ v,e= .returned v)∧Chg w w' g g T (T+2)∧NsAt w' g T b pa v top size (mendF ns j):=by
 unfold mendF;have CL:Hid (∀ w',w.drew=w'→Calls Tryz.prog 199 #[.pointer (some ⟨b,0,none⟩), .int .i64 (ns.getD j default).l] w' fun e w''=>e= .returned (.int .i64 (hiF ns (ns.getD j default).l))∧w'=w''):=zH fun w' e=>by subst e;exact rbhigh_any b pa v top size ns _ hl g T _ (h.drewN 1)
 have CR:Hid (∀ w',w.drew=w'→Calls Tryz.prog 199 #[.pointer (some ⟨b,0,none⟩), .int .i64 (ns.getD j default).r] w' fun e w''=>e= .returned (.int .i64 (hiF ns (ns.getD j default).r))∧w'=w''):=zH fun w' e=>by subst e;exact rbhigh_any b pa v top size ns _ hr g T _ (h.drewN 1)
 obtain⟨bb,off,cap,rfl⟩:=ns_form h (by omega);obtain⟨k1,kO,kS,kne,kc,kf⟩:=ns_at h;have hx:=getD_some hj;obtain⟨x,ex⟩: ∃ x,ns.getD j default=x:=⟨_,rfl⟩;rw[ex]at hx CL CR hl hr ⊢;have r2:=kc j x hx 2 (by omega);have r3:=kc j x hx 3 (by omega);have r4:=kc j x hx 4 (by omega);simp only[ndl,List.getElem?_cons_zero,List.getElem?_cons_succ]at r2 r3 r4;have f4:=kf (off+j*5+4);obtain⟨A,eA⟩: ∃ A,hiF ns x.l=A:=⟨_,rfl⟩;obtain⟨B,eB⟩: ∃ B,hiF ns x.r=B:=⟨_,rfl⟩;rw[eA]at CL ⊢;rw[eB]at CR ⊢;have KO:=zH kO;have KS:=zH kS;have HT:=zH hT;have gb:g bb=T+1:=kS.tag_.1;have gT:g b=T:=kO.2;clear h kO kS kc kf hT;go_enter Tryz.func177,Tryz.ntmps177
 go_wp2_with fail
 refine wp_region_held_drew (S:=fun wq=>wq.cell? ⟨bb,off+j*5+2,none⟩=some (.int .i64 x.l)∧wq.cell? ⟨bb,off+j*5+3,none⟩=some (.int .i64 x.r)) (by kernel_rfl) ⟨r2,r3⟩ (fun hHeld=> ?_);refine zt 0 ?_;refine zt 1 ?_;refine zt 2 ?_;refine zt 3 ?_;refine zt 4 ?_;refine zt 5 ?_;refine zt 7 ?_;refine zt 8 ?_;refine zt 9 ?_;refine zt 10 ?_;refine zt 11 ?_;refine zc 6 (fun K hK=> ?_);go_simp;refine(CL.out _ rfl).mono ?_;rintro e1 w1 ⟨rfl,rfl⟩;refine hK.out _ _ ?_ (fun hHeld=> ?_);focus exact⟨r2,r3⟩
 clear hK K;refine zl ?_;refine zc 12 (fun K hK=> ?_);go_simp;refine(CR.out _ rfl).mono ?_;rintro e1 w1 ⟨rfl,rfl⟩;refine hK.out _ _ ?_ (fun hHeld=> ?_);focus exact⟨r2,r3⟩
 clear hK K;refine zl ?_;refine zt 13 ?_;refine zt 14 ?_;refine zt 15 ?_;refine zt 16 ?_;refine zc 17 (fun K hK=> ?_);go_simp;refine hK.out _ _ ?_ (fun hHeld=> ?_);focus exact⟨(World.cell?_setCell_other _ _ _ _ (by simp)).trans r2,(World.cell?_setCell_other _ _ _ _ (by simp)).trans r3⟩
 clear hK K;refine zl ?_;refine dnZ ?_;clear hHeld;go_wp2_with fail
 go_end0
 have S1:=sli_node KS.out hx 4 (by omega) (.int .i64 (IntKind.i64.wrap (max A B+1))) { x with h:=IntKind.i64.wrap (max A B+1) } rfl;have G:=grown_set w bb (off+j*5+4) (.int .i64 (IntKind.i64.wrap (max A B+1)));refine⟨⟨_,rfl⟩,((Chg.refl HT.out T (T+2)).set (fun _=>by omega) _).drew, ?_, ?_⟩
 ·have:=KO.out.other G (by intro h;cases h;exact kne rfl)
  exact⟨this.1.drew,this.2⟩
 ·have:=S1.drew
  rw[List.length_set]at this ⊢;exact this
end
section
open Go.RowKit Go.Lib
theorem okI_set {ns:List ND} {i:Int} {j:Nat} {x:ND} (h:okI ns i):okI (ns.set j x) i:=by
 rcases h with h | h
 ·exact .inl h
 ·exact .inr ⟨h.1,by rw[List.length_set];exact h.2⟩
theorem getD_set_ne {ns:List ND} {i j:Nat} (x:ND) (h:i≠j):(ns.set i x).getD j default=ns.getD j default:=by
 rw[List.getD_eq_getElem?_getD,List.getD_eq_getElem?_getD,List.getElem?_set_ne h]
theorem getD_set_eq {ns:List ND} {i:Nat} (x:ND) (h:i<ns.length):(ns.set i x).getD i default=x:=by
 rw[List.getD_eq_getElem?_getD,List.getElem?_set_self h];rfl
theorem mendF_len (ns:List ND) (j:Nat):(mendF ns j).length=ns.length:=by simp[mendF]
theorem okI_mend {ns:List ND} {i:Int} {j:Nat} (h:okI ns i):okI (mendF ns j) i:=okI_set h
theorem mendF_ne (ns:List ND) {i j:Nat} (h:i≠j):(mendF ns i).getD j default=ns.getD j default:=getD_set_ne _ h
def turnLF (ns:List ND) (j r:Nat):List ND:=mendF (mendF ((ns.set j { ns.getD j default with r:=(ns.getD r default).l }).set r { ns.getD r default with l:=(j:Nat) }) j) r
theorem rbturnL_any (b:Nat) (pa:Nat) (v:Value) (top size:Int) (ns:List ND) (j r:Nat) (hj:j<ns.length) (hr:r<ns.length) (hjr:(ns.getD j default).r=(r:Nat)) (hne:j≠r) (h1:okI ns (ns.getD j default).l) (h2:okI ns (ns.getD r default).l) (h3:okI ns (ns.getD r default).r) (g:Nat→Nat) (T:Nat) (w:World) (hT:Tidy w g) (h:NsAt w g T b pa v top size ns):
  Calls Tryz.prog 179 #[.pointer (some ⟨b,0,none⟩), .int .i64 j] w fun e w'=>e= .returned (.int .i64 r)∧Chg w w' g g T (T+2)∧NsAt w' g T b pa v top size (turnLF ns j r):=by
 unfold turnLF;have hx:=getD_some hj;have hy:=getD_some hr;obtain⟨x,ex⟩: ∃ x,ns.getD j default=x:=⟨_,rfl⟩;obtain⟨y,ey⟩: ∃ y,ns.getD r default=y:=⟨_,rfl⟩;rw[ex]at hx hjr h1 ⊢;rw[ey]at hy h2 h3 ⊢;have hlen:((ns.set j { x with r:=y.l }).set r { y with l:=(j:Nat) }).length=ns.length:=by simp
 have ej:((ns.set j { x with r:=y.l }).set r { y with l:=(j:Nat) }).getD j default={ x with r:=y.l }:=by rw[getD_set_ne _ (Ne.symm hne),getD_set_eq _ hj]
 have er:((ns.set j { x with r:=y.l }).set r { y with l:=(j:Nat) }).getD r default={ y with l:=(j:Nat) }:=getD_set_eq _ (by simpa using hr);obtain⟨ms,ems⟩: ∃ ms,(ns.set j { x with r:=y.l }).set r { y with l:=(j:Nat) }=ms:=⟨_,rfl⟩;have okm: ∀ i,okI ns i→okI ms i:=fun i hi=>by rw[←ems];exact okI_set (okI_set hi)
 have hox:okI ms (ms.getD j default).l∧okI ms (ms.getD j default).r:=by
  rw[ems]at ej;rw[ej];exact⟨okm _ h1,okm _ h2⟩
 have hoy:okI (mendF ms j) ((mendF ms j).getD r default).l∧okI (mendF ms j) ((mendF ms j).getD r default).r:=by
  rw[ems]at er;rw[mendF_ne _ hne,er];have hjj:okI ms (j:Nat):= .inr ⟨by omega,by rw[←ems,hlen];simpa using hj⟩;exact⟨okI_mend hjj,okI_mend (okm _ h3)⟩
 have CM:Hid (∀ w',NsAt w' g T b pa v top size ms→Chg w w' g g T (T+2)→Calls Tryz.prog 177 #[.pointer (some ⟨b,0,none⟩), .int .i64 j] w' fun e w''=>(∃ v,e= .returned v)∧Chg w w'' g g T (T+2)∧NsAt w'' g T b pa v top size (mendF ms j)):=
  zH fun w' hn hc=>(rbmend_any b pa v top size ms j (by rw[←ems,hlen];exact hj) hox.1 hox.2 g T w' hc.tidy hn).mono fun e w'' ⟨q1,q2,q3⟩=>⟨q1,hc.trans q2,q3⟩
 have CN:Hid (∀ w',NsAt w' g T b pa v top size (mendF ms j)→Chg w w' g g T (T+2)→Calls Tryz.prog 177 #[.pointer (some ⟨b,0,none⟩), .int .i64 r] w' fun e w''=>(∃ v,e= .returned v)∧Chg w w'' g g T (T+2)∧NsAt w'' g T b pa v top size (mendF (mendF ms j) r)):=
  zH fun w' hn hc=>(rbmend_any b pa v top size (mendF ms j) r (by rw[mendF_len,←ems,hlen];exact hr) hoy.1 hoy.2 g T w' hc.tidy hn).mono fun e w'' ⟨q1,q2,q3⟩=>⟨q1,hc.trans q2,q3⟩
 obtain⟨bb,off,cap,rfl⟩:=ns_form h (by omega);obtain⟨k1,kO,kS,kne,kc,kf⟩:=ns_at h;have rc:=kc j x hx 3 (by omega);have ro:=kc r y hy 2 (by omega);simp only[ndl,List.getElem?_cons_zero,List.getElem?_cons_succ]at rc ro;rw[hjr]at rc;have fc:=kf (off+j*5+3);have fo:=kf (off+r*5+2);have nad: ¬(off+j*5+3=off+r*5+2):=by omega
 have nad2: ¬(off+r*5+2=off+j*5+3):=by omega
 have KO:=zH kO;have KS:=zH kS;have HT:=zH hT;have EM:=zH ems;have gb:g bb=T+1:=kS.tag_.1;have gT:g b=T:=kO.2;rw[ems];clear h kO kS kc kf hT hox hoy okm ems ej er hlen h1 h2 h3;go_enter Tryz.func179,Tryz.ntmps179
 go_wp2_with fail
 refine wp_region_held_drew (S:=fun wq=>wq.cell? ⟨b,1,none⟩=some (.slice (some ⟨bb,off,none⟩) ns.length cap)) (by kernel_rfl) k1 (fun hHeld=> ?_);refine zt 0 ?_;refine zt 1 ?_;refine zt 2 ?_;refine zt 3 ?_;refine zt 4 ?_;refine zt 5 ?_;refine zt 6 ?_;refine zt 7 ?_;refine zt 8 ?_;refine zt 9 ?_;refine zt 10 ?_;refine zt 11 ?_;refine zt 12 ?_;refine zt 13 ?_;refine zt 14 ?_;refine zt 15 ?_;refine zt 16 ?_;refine zt 18 ?_;refine zc 17 (fun K hK=> ?_);go_simp;refine hK.out _ _ ?_ (fun hHeld=> ?_);focus exact hHeld
 clear hK K;refine zl ?_;refine zt 19 ?_;refine zt 20 ?_;refine zc 21 (fun K hK=> ?_);go_simp;refine hK.out _ _ ?_ (fun hHeld=> ?_);focus exact(World.cell?_setCell_other _ _ _ _ (by simp)).trans k1
 clear hK K;refine zl ?_;refine zt 22 ?_;refine zt 23 ?_;refine zc 24 (fun K hK=> ?_);go_simp;refine hK.out _ _ ?_ (fun hHeld=> ?_);focus exact(World.cell?_setCell_other _ _ _ _ (by simp)).trans ((World.cell?_setCell_other _ _ _ _ (by simp)).trans k1)
 clear hK K;refine zl ?_;refine dnZ ?_;have S1:=sli_node KS.out hx 3 (by omega) (.int .i64 y.l) { x with r:=y.l } rfl;have S2:=sli_node S1 (show(ns.set j { x with r:=y.l })[r]? =some y by rw[List.getElem?_set_ne hne];exact hy) 2 (by omega) (.int .i64 (j:Nat)) { y with l:=(j:Nat) } rfl;rw[EM.out]at S2;have G:=(grown_set w bb (off+j*5+3) (.int .i64 y.l)).trans (grown_set _ bb (off+r*5+2) (.int .i64 (j:Nat)));have hms:ms.length=ns.length:=by rw[←EM.out];simp
 refine q_named (fun W=>NsAt W g T b pa (.slice (some ⟨bb,off,none⟩) ns.length cap) top size ms∧Chg w W g g T (T+2)) ⟨⟨⟨?_,by rw[←hms];exact S2.drew⟩⟩,((Chg.refl HT.out T (T+2)).by G (fun b' e _=>by cases e;omega)).drew⟩ (fun W hW=> ?_)
 ·have:=KO.out.other G (by intro h;cases h;exact kne rfl)
  exact⟨this.1.drew,this.2⟩
 ·clear S1 S2 G hHeld
  go_wp2_with fail
  refine(CM.out _ hW.1 hW.2).mono ?_;rintro e1 w1 ⟨⟨v1,rfl⟩,q2,q3⟩;go_wp2_with fail
  refine(CN.out _ q3 q2).mono ?_;rintro e2 w2 ⟨⟨v2,rfl⟩,q4,q5⟩;go_wp2_with fail
  go_ret
  exact⟨rfl,q4,q5⟩
def turnRF (ns:List ND) (j r:Nat):List ND:=mendF (mendF ((ns.set j { ns.getD j default with l:=(ns.getD r default).r }).set r { ns.getD r default with r:=(j:Nat) }) j) r
theorem rbturnR_any (b:Nat) (pa:Nat) (v:Value) (top size:Int) (ns:List ND) (j r:Nat) (hj:j<ns.length) (hr:r<ns.length) (hjr:(ns.getD j default).l=(r:Nat)) (hne:j≠r) (h1:okI ns (ns.getD j default).r) (h2:okI ns (ns.getD r default).l) (h3:okI ns (ns.getD r default).r) (g:Nat→Nat) (T:Nat) (w:World) (hT:Tidy w g) (h:NsAt w g T b pa v top size ns):
  Calls Tryz.prog 180 #[.pointer (some ⟨b,0,none⟩), .int .i64 j] w fun e w'=>e= .returned (.int .i64 r)∧Chg w w' g g T (T+2)∧NsAt w' g T b pa v top size (turnRF ns j r):=by
 unfold turnRF;have hx:=getD_some hj;have hy:=getD_some hr;obtain⟨x,ex⟩: ∃ x,ns.getD j default=x:=⟨_,rfl⟩;obtain⟨y,ey⟩: ∃ y,ns.getD r default=y:=⟨_,rfl⟩;rw[ex]at hx hjr h1 ⊢;rw[ey]at hy h2 h3 ⊢;have hlen:((ns.set j { x with l:=y.r }).set r { y with r:=(j:Nat) }).length=ns.length:=by simp
 have ej:((ns.set j { x with l:=y.r }).set r { y with r:=(j:Nat) }).getD j default={ x with l:=y.r }:=by rw[getD_set_ne _ (Ne.symm hne),getD_set_eq _ hj]
 have er:((ns.set j { x with l:=y.r }).set r { y with r:=(j:Nat) }).getD r default={ y with r:=(j:Nat) }:=getD_set_eq _ (by simpa using hr);obtain⟨ms,ems⟩: ∃ ms,(ns.set j { x with l:=y.r }).set r { y with r:=(j:Nat) }=ms:=⟨_,rfl⟩;have okm: ∀ i,okI ns i→okI ms i:=fun i hi=>by rw[←ems];exact okI_set (okI_set hi)
 have hox:okI ms (ms.getD j default).l∧okI ms (ms.getD j default).r:=by
  rw[ems]at ej;rw[ej];exact⟨okm _ h3,okm _ h1⟩
 have hoy:okI (mendF ms j) ((mendF ms j).getD r default).l∧okI (mendF ms j) ((mendF ms j).getD r default).r:=by
  rw[ems]at er;rw[mendF_ne _ hne,er];have hjj:okI ms (j:Nat):= .inr ⟨by omega,by rw[←ems,hlen];simpa using hj⟩;exact⟨okI_mend (okm _ h2),okI_mend hjj⟩
 have CM:Hid (∀ w',NsAt w' g T b pa v top size ms→Chg w w' g g T (T+2)→Calls Tryz.prog 177 #[.pointer (some ⟨b,0,none⟩), .int .i64 j] w' fun e w''=>(∃ v,e= .returned v)∧Chg w w'' g g T (T+2)∧NsAt w'' g T b pa v top size (mendF ms j)):=
  zH fun w' hn hc=>(rbmend_any b pa v top size ms j (by rw[←ems,hlen];exact hj) hox.1 hox.2 g T w' hc.tidy hn).mono fun e w'' ⟨q1,q2,q3⟩=>⟨q1,hc.trans q2,q3⟩
 have CN:Hid (∀ w',NsAt w' g T b pa v top size (mendF ms j)→Chg w w' g g T (T+2)→Calls Tryz.prog 177 #[.pointer (some ⟨b,0,none⟩), .int .i64 r] w' fun e w''=>(∃ v,e= .returned v)∧Chg w w'' g g T (T+2)∧NsAt w'' g T b pa v top size (mendF (mendF ms j) r)):=
  zH fun w' hn hc=>(rbmend_any b pa v top size (mendF ms j) r (by rw[mendF_len,←ems,hlen];exact hr) hoy.1 hoy.2 g T w' hc.tidy hn).mono fun e w'' ⟨q1,q2,q3⟩=>⟨q1,hc.trans q2,q3⟩
 obtain⟨bb,off,cap,rfl⟩:=ns_form h (by omega);obtain⟨k1,kO,kS,kne,kc,kf⟩:=ns_at h;have rc:=kc j x hx 2 (by omega);have ro:=kc r y hy 3 (by omega);simp only[ndl,List.getElem?_cons_zero,List.getElem?_cons_succ]at rc ro;rw[hjr]at rc;have fc:=kf (off+j*5+2);have fo:=kf (off+r*5+3);have nad: ¬(off+j*5+2=off+r*5+3):=by omega
 have nad2: ¬(off+r*5+3=off+j*5+2):=by omega
 have KO:=zH kO;have KS:=zH kS;have HT:=zH hT;have EM:=zH ems;have gb:g bb=T+1:=kS.tag_.1;have gT:g b=T:=kO.2;rw[ems];clear h kO kS kc kf hT hox hoy okm ems ej er hlen h1 h2 h3;go_enter Tryz.func180,Tryz.ntmps180
 go_wp2_with fail
 refine wp_region_held_drew (S:=fun wq=>wq.cell? ⟨b,1,none⟩=some (.slice (some ⟨bb,off,none⟩) ns.length cap)) (by kernel_rfl) k1 (fun hHeld=> ?_);refine zt 0 ?_;refine zt 1 ?_;refine zt 2 ?_;refine zt 3 ?_;refine zt 4 ?_;refine zt 5 ?_;refine zt 6 ?_;refine zt 7 ?_;refine zt 8 ?_;refine zt 9 ?_;refine zt 10 ?_;refine zt 11 ?_;refine zt 12 ?_;refine zt 13 ?_;refine zt 14 ?_;refine zt 15 ?_;refine zt 16 ?_;refine zt 18 ?_;refine zc 17 (fun K hK=> ?_);go_simp;refine hK.out _ _ ?_ (fun hHeld=> ?_);focus exact hHeld
 clear hK K;refine zl ?_;refine zt 19 ?_;refine zt 20 ?_;refine zc 21 (fun K hK=> ?_);go_simp;refine hK.out _ _ ?_ (fun hHeld=> ?_);focus exact(World.cell?_setCell_other _ _ _ _ (by simp)).trans k1
 clear hK K;refine zl ?_;refine zt 22 ?_;refine zt 23 ?_;refine zc 24 (fun K hK=> ?_);go_simp;refine hK.out _ _ ?_ (fun hHeld=> ?_);focus exact(World.cell?_setCell_other _ _ _ _ (by simp)).trans ((World.cell?_setCell_other _ _ _ _ (by simp)).trans k1)
 clear hK K;refine zl ?_;refine dnZ ?_;have S1:=sli_node KS.out hx 2 (by omega) (.int .i64 y.r) { x with l:=y.r } rfl;have S2:=sli_node S1 (show(ns.set j { x with l:=y.r })[r]? =some y by rw[List.getElem?_set_ne hne];exact hy) 3 (by omega) (.int .i64 (j:Nat)) { y with r:=(j:Nat) } rfl;rw[EM.out]at S2;have G:=(grown_set w bb (off+j*5+2) (.int .i64 y.r)).trans (grown_set _ bb (off+r*5+3) (.int .i64 (j:Nat)));have hms:ms.length=ns.length:=by rw[←EM.out];simp
 refine q_named (fun W=>NsAt W g T b pa (.slice (some ⟨bb,off,none⟩) ns.length cap) top size ms∧Chg w W g g T (T+2)) ⟨⟨⟨?_,by rw[←hms];exact S2.drew⟩⟩,((Chg.refl HT.out T (T+2)).by G (fun b' e _=>by cases e;omega)).drew⟩ (fun W hW=> ?_)
 ·have:=KO.out.other G (by intro h;cases h;exact kne rfl)
  exact⟨this.1.drew,this.2⟩
 ·clear S1 S2 G hHeld
  go_wp2_with fail
  refine(CM.out _ hW.1 hW.2).mono ?_;rintro e1 w1 ⟨⟨v1,rfl⟩,q2,q3⟩;go_wp2_with fail
  refine(CN.out _ q3 q2).mono ?_;rintro e2 w2 ⟨⟨v2,rfl⟩,q4,q5⟩;go_wp2_with fail
  go_ret
  exact⟨rfl,q4,q5⟩
end
section
open Go.RowKit Go.Lib
def Good (ns:List ND):Prop:= ∀ j,j<ns.length→okI ns (ns.getD j default).l∧okI ns (ns.getD j default).r
theorem Good.set {ns:List ND} (h:Good ns) (j:Nat) (x:ND) (h1:okI ns x.l) (h2:okI ns x.r):Good (ns.set j x):=by
 intro k hk;rw[List.length_set]at hk;by_cases e:j=k
 ·subst e
  rw[getD_set_eq x hk];exact⟨okI_set h1,okI_set h2⟩
 ·rw[getD_set_ne x e]
  exact⟨okI_set (h k hk).1,okI_set (h k hk).2⟩
theorem Good.mend {ns:List ND} (h:Good ns) {j:Nat} (hj:j<ns.length):Good (mendF ns j):=h.set j _ (h j hj).1 (h j hj).2
theorem okI_nat {ns:List ND} {j:Nat} (h:j<ns.length):okI ns (j:Nat):= .inr ⟨by omega,by simpa using h⟩
theorem Good.turnL {ns:List ND} (h:Good ns) {j r:Nat} (hj:j<ns.length) (hr:r<ns.length):Good (turnLF ns j r):=by
 unfold turnLF;have g1:=h.set j { ns.getD j default with r:=(ns.getD r default).l } (h j hj).1 (h r hr).1;have g2:=g1.set r { ns.getD r default with l:=(j:Nat) } (okI_set (okI_nat hj)) (okI_set (h r hr).2);exact(g2.mend (by simpa using hj)).mend (by rw[mendF_len];simpa using hr)
theorem Good.turnR {ns:List ND} (h:Good ns) {j r:Nat} (hj:j<ns.length) (hr:r<ns.length):Good (turnRF ns j r):=by
 unfold turnRF;have g1:=h.set j { ns.getD j default with l:=(ns.getD r default).r } (h r hr).2 (h j hj).2;have g2:=g1.set r { ns.getD r default with r:=(j:Nat) } (okI_set (h r hr).1) (okI_set (okI_nat hj));exact(g2.mend (by simpa using hj)).mend (by rw[mendF_len];simpa using hr)
theorem turnL_len (ns:List ND) (j r:Nat):(turnLF ns j r).length=ns.length:=by simp[turnLF,mendF]
theorem turnR_len (ns:List ND) (j r:Nat):(turnRF ns j r).length=ns.length:=by simp[turnRF,mendF]
section
variable (b:Nat) (pa:Nat) (v:Value) (top size:Int) (ns:List ND) (j:Nat) (hj:j<ns.length) (hG:Good ns) (g:Nat→Nat) (T:Nat) (w:World) (hT:Tidy w g) (h:NsAt w g T b pa v top size ns)
include hj hG hT h
theorem ev_mend (w':World) (e:w=w'):Calls Tryz.prog 177 #[.pointer (some ⟨b,0,none⟩), .int .i64 j] w' fun e w''=>(∃ v,e= .returned v)∧Chg w w'' g g T (T+2)∧NsAt w'' g T b pa v top size (mendF ns j):=by
 subst e;exact rbmend_any b pa v top size ns j hj (hG j hj).1 (hG j hj).2 g T w hT h
end
theorem ev_lean (b:Nat) (pa:Nat) (v:Value) (top size:Int) (ns:List ND) (j:Nat) (hj:j<ns.length) (hG:Good ns) (g:Nat→Nat) (T:Nat) (w0 w:World) (h:NsAt w g T b pa v top size ns) (hc:Chg w0 w g g T (T+2)):
  Calls Tryz.prog 178 #[.pointer (some ⟨b,0,none⟩), .int .i64 j] w fun e w''=>e= .returned (.int .i64 (leanF ns j))∧Chg w0 w'' g g T (T+2)∧NsAt w'' g T b pa v top size ns:=
 (rblean_any b pa v top size ns j hj (hG j hj).1 (hG j hj).2 g T w h).mono fun e w'' ⟨q1,q,q2⟩=>⟨q1,by rw[q2];exact hc.drewN q,by rw[q2];exact h.drewN q⟩
theorem rbeven_flat (b:Nat) (pa:Nat) (v:Value) (top size:Int) (ns:List ND) (j:Nat) (hj:j<ns.length) (hG:Good ns) (h1: ¬ 1<leanF (mendF ns j) j) (h2: ¬ leanF (mendF ns j) j< -1) (g:Nat→Nat) (T:Nat) (w:World) (hT:Tidy w g) (h:NsAt w g T b pa v top size ns):
  Calls Tryz.prog 154 #[.pointer (some ⟨b,0,none⟩), .int .i64 j] w fun e w'=>e= .returned (.int .i64 j)∧Chg w w' g g T (T+2)∧NsAt w' g T b pa v top size (mendF ns j):=by
 have CM:=zH (ev_mend b pa v top size ns j hj hG g T w hT h);have CL:=zH (ev_lean b pa v top size (mendF ns j) j (by rw[mendF_len];exact hj) (hG.mend hj) g T w);obtain⟨A,eA⟩: ∃ A,leanF (mendF ns j) j=A:=⟨_,rfl⟩;obtain⟨ms,ems⟩: ∃ ms,mendF ns j=ms:=⟨_,rfl⟩;rw[eA]at CL h1 h2;rw[ems]at CM CL ⊢;clear h hT hG eA ems;go_enter Tryz.func154,Tryz.ntmps154
 go_wp2_with fail
 refine(CM.out _ rfl).mono ?_;rintro e1 w1 ⟨⟨v1,rfl⟩,q1,q2⟩;go_wp2_with fail
 refine(CL.out _ q2 q1).mono ?_;rintro e2 w2 ⟨rfl,q3,q4⟩;go_wp2_with fail
 go_ret
 exact⟨rfl,q3,q4⟩
theorem rbeven_l1 (b:Nat) (pa:Nat) (v:Value) (top size:Int) (ns:List ND) (j l:Nat) (hj:j<ns.length) (hG:Good ns) (h1:1<leanF (mendF ns j) j) (hl:((mendF ns j).getD j default).l=(l:Nat)) (hlj:j≠l) (hll:l<ns.length) (h2: ¬ leanF (mendF ns j) l<0) (g:Nat→Nat) (T:Nat) (w:World) (hT:Tidy w g) (h:NsAt w g T b pa v top size ns):
  Calls Tryz.prog 154 #[.pointer (some ⟨b,0,none⟩), .int .i64 j] w fun e w'=>e= .returned (.int .i64 l)∧Chg w w' g g T (T+2)∧NsAt w' g T b pa v top size (turnRF (mendF ns j) j l):=by
 have hjm:j<(mendF ns j).length:=by rw[mendF_len];exact hj
 have hlm:l<(mendF ns j).length:=by rw[mendF_len];exact hll
 have gm:=hG.mend hj;have CM:=zH (ev_mend b pa v top size ns j hj hG g T w hT h);have CL:=zH (ev_lean b pa v top size (mendF ns j) j hjm gm g T w);have CL2:=zH (ev_lean b pa v top size (mendF ns j) l hlm gm g T w);have CT:Hid (∀ w',NsAt w' g T b pa v top size (mendF ns j)→Chg w w' g g T (T+2)→Calls Tryz.prog 180 #[.pointer (some ⟨b,0,none⟩), .int .i64 j] w' fun e w''=>e= .returned (.int .i64 l)∧Chg w w'' g g T (T+2)∧NsAt w'' g T b pa v top size (turnRF (mendF ns j) j l)):=
  zH fun w' hn hc=>(rbturnR_any b pa v top size (mendF ns j) j l hjm hlm hl hlj (gm j hjm).2 (gm l hlm).1 (gm l hlm).2 g T w' hc.tidy hn).mono fun e w'' ⟨q1,q2,q3⟩=>⟨q1,hc.trans q2,q3⟩
 obtain⟨A,eA⟩: ∃ A,leanF (mendF ns j) j=A:=⟨_,rfl⟩;obtain⟨D,eD⟩: ∃ D,leanF (mendF ns j) l=D:=⟨_,rfl⟩;obtain⟨ms,ems⟩: ∃ ms,mendF ns j=ms:=⟨_,rfl⟩;rw[eA]at CL h1;rw[eD]at CL2 h2;rw[ems]at CM CL CL2 CT hl hjm ⊢;have h3:True:=trivial;clear h hT hG eA ems eD gm hlm;go_enter Tryz.func154,Tryz.ntmps154
 go_wp2_with fail
 refine(CM.out _ rfl).mono ?_;rintro e1 w1 ⟨⟨v1,rfl⟩,q1,q2⟩;go_wp2_with fail
 refine(CL.out _ q2 q1).mono ?_;rintro e2 w2 ⟨rfl,q3,q4⟩;obtain⟨bb,off,cap,rfl⟩:=ns_form q4 (by omega);obtain⟨k1,kO,kS,kne,kc,kf⟩:=ns_at q4;have rc:=kc j _ (getD_some hjm) 2 (by omega);simp only[ndl,List.getElem?_cons_zero,List.getElem?_cons_succ]at rc;rw[hl]at rc;have Q3:=zH q3;have Q4:=zH q4;clear kO kS kc kf q1 q2 q3 q4;go_wp2_with fail
 refine(CL2.out _ Q4.out Q3.out).mono ?_;rintro e3 w3 ⟨rfl,q5,q6⟩;go_wp2_with fail
 refine(CT.out _ q6 q5).mono ?_;rintro e4 w4 ⟨rfl,q7,q8⟩;go_wp2_with fail
 go_ret
 exact⟨rfl,q7,q8⟩
def evl2 (ns:List ND) (j l m:Nat):List ND:=(turnLF (mendF ns j) l m).set j { (turnLF (mendF ns j) l m).getD j default with l:=(m:Nat) }
theorem rbeven_l2 (b:Nat) (pa:Nat) (v:Value) (top size:Int) (ns:List ND) (j l m:Nat) (hj:j<ns.length) (hG:Good ns) (h1:1<leanF (mendF ns j) j) (hl:((mendF ns j).getD j default).l=(l:Nat)) (hlj:j≠l) (hll:l<ns.length) (h2:leanF (mendF ns j) l<0) (hm:((mendF ns j).getD l default).r=(m:Nat)) (hml:l≠m) (hmj:j≠m) (hmm:m<ns.length) (g:Nat→Nat) (T:Nat) (w:World) (hT:Tidy w g) (h:NsAt w g T b pa v top size ns):
  Calls Tryz.prog 154 #[.pointer (some ⟨b,0,none⟩), .int .i64 j] w fun e w'=>e= .returned (.int .i64 m)∧Chg w w' g g T (T+2)∧NsAt w' g T b pa v top size (turnRF (evl2 ns j l m) j m):=by
 have hjm:j<(mendF ns j).length:=by rw[mendF_len];exact hj
 have hlm:l<(mendF ns j).length:=by rw[mendF_len];exact hll
 have hmm':m<(mendF ns j).length:=by rw[mendF_len];exact hmm
 have gm:=hG.mend hj;have CM:=zH (ev_mend b pa v top size ns j hj hG g T w hT h);have CL:=zH (ev_lean b pa v top size (mendF ns j) j hjm gm g T w);have CL2:=zH (ev_lean b pa v top size (mendF ns j) l hlm gm g T w);have CT1:Hid (∀ w',NsAt w' g T b pa v top size (mendF ns j)→Chg w w' g g T (T+2)→Calls Tryz.prog 179 #[.pointer (some ⟨b,0,none⟩), .int .i64 l] w' fun e w''=>e= .returned (.int .i64 m)∧Chg w w'' g g T (T+2)∧NsAt w'' g T b pa v top size (turnLF (mendF ns j) l m)):=
  zH fun w' hn hc=>(rbturnL_any b pa v top size (mendF ns j) l m hlm hmm' hm hml (gm l hlm).1 (gm m hmm').1 (gm m hmm').2 g T w' hc.tidy hn).mono fun e w'' ⟨q1,q2,q3⟩=>⟨q1,hc.trans q2,q3⟩
 have g2:Good (turnLF (mendF ns j) l m):=gm.turnL hlm hmm';have len2:(turnLF (mendF ns j) l m).length=ns.length:=by rw[turnL_len,mendF_len]
 have g3:Good (evl2 ns j l m):=g2.set j _ (okI_nat (by omega)) (g2 j (by omega)).2;have len3:(evl2 ns j l m).length=ns.length:=by unfold evl2;rw[List.length_set,len2]
 have hc3:((evl2 ns j l m).getD j default).l=(m:Nat):=by unfold evl2;rw[getD_set_eq _ (by omega)]
 have CT:Hid (∀ w',NsAt w' g T b pa v top size (evl2 ns j l m)→Chg w w' g g T (T+2)→Calls Tryz.prog 180 #[.pointer (some ⟨b,0,none⟩), .int .i64 j] w' fun e w''=>e= .returned (.int .i64 m)∧Chg w w'' g g T (T+2)∧NsAt w'' g T b pa v top size (turnRF (evl2 ns j l m) j m)):=
  zH fun w' hn hc=>(rbturnR_any b pa v top size (evl2 ns j l m) j m (by omega) (by omega) hc3 hmj (g3 j (by omega)).2 (g3 m (by omega)).1 (g3 m (by omega)).2 g T w' hc.tidy hn).mono fun e w'' ⟨q1,q2,q3⟩=>⟨q1,hc.trans q2,q3⟩
 obtain⟨A,eA⟩: ∃ A,leanF (mendF ns j) j=A:=⟨_,rfl⟩;obtain⟨D,eD⟩: ∃ D,leanF (mendF ns j) l=D:=⟨_,rfl⟩;have hev:(turnLF (mendF ns j) l m).set j { (turnLF (mendF ns j) l m).getD j default with l:=(m:Nat) }=evl2 ns j l m:=rfl;obtain⟨es,ees⟩: ∃ es,evl2 ns j l m=es:=⟨_,rfl⟩;obtain⟨ms,ems⟩: ∃ ms,mendF ns j=ms:=⟨_,rfl⟩;rw[eA]at CL h1;rw[eD]at CL2 h2;rw[ees]at CT hev ⊢;rw[ems]at CM CL CL2 CT1 hl hjm hev len2;obtain⟨ts,ets⟩: ∃ ts,turnLF ms l m=ts:=⟨_,rfl⟩;rw[ets]at CT1 hev len2;have h3:True:=trivial;have HEV:=zH hev;clear h hT hG eA ems eD gm hlm hmm' g2 g3 len3 hc3 ees ets hm hev;go_enter Tryz.func154,Tryz.ntmps154
 go_wp2_with fail
 refine(CM.out _ rfl).mono ?_;rintro e1 w1 ⟨⟨v1,rfl⟩,q1,q2⟩;go_wp2_with fail
 refine(CL.out _ q2 q1).mono ?_;rintro e2 w2 ⟨rfl,q3,q4⟩;obtain⟨bb,off,cap,rfl⟩:=ns_form q4 (by omega);obtain⟨k1,kO,kS,kne,kc,kf⟩:=ns_at q4;have rc:=kc j _ (getD_some hjm) 2 (by omega);simp only[ndl,List.getElem?_cons_zero,List.getElem?_cons_succ]at rc;rw[hl]at rc;have Q3:=zH q3;have Q4:=zH q4;clear kO kS kc kf q1 q2 q3 q4;go_wp2_with fail
 refine(CL2.out _ Q4.out Q3.out).mono ?_;rintro e3 w3 ⟨rfl,q5,q6⟩;clear k1 rc kne;obtain⟨k1,kO,kS,kne,kc,kf⟩:=ns_at q6;have rc:=kc j _ (getD_some hjm) 2 (by omega);simp only[ndl,List.getElem?_cons_zero,List.getElem?_cons_succ]at rc;rw[hl]at rc;have Q5:=zH q5;have Q6:=zH q6;clear kO kS kc kf q5 q6;go_wp2_with fail
 refine wp_region_held_drew (S:=fun wq=>wq.cell? ⟨b,1,none⟩=some (.slice (some ⟨bb,off,none⟩) ms.length cap)) (by kernel_rfl) k1 (fun hHeld=> ?_);refine zt 0 ?_;refine zt 1 ?_;refine zt 2 ?_;refine zt 3 ?_;refine zt 4 ?_;refine zt 5 ?_;refine zt 6 ?_;refine zt 7 ?_;refine zt 8 ?_;refine zt 9 ?_;refine zt 10 ?_;refine zt 11 ?_;refine zt 12 ?_;refine zc 13 (fun K hK=> ?_);go_simp;refine hK.out _ _ ?_ (fun hHeld=> ?_);focus exact hHeld
 clear hK K;refine zl ?_;refine zc 14 (fun K hK=> ?_);go_simp;refine(CT1.out _ (Q6.out.drewN 1) (Q5.out.drewN 1)).mono ?_;rintro e4 w4 ⟨rfl,q7,q8⟩;have hts:=(ns_num q8).symm.trans (ns_num Q6.out);obtain⟨m1,mO,mS,mne,mc,mf⟩:=ns_at q8;have hjt:j<ts.length:=(by omega);have rj:=mc j _ (getD_some hjt) 2 (by omega);have fj:=mf (off+j*5+2);simp only[ndl,List.getElem?_cons_zero,List.getElem?_cons_succ]at rj;refine hK.out _ _ ?_ (fun hHeld=> ?_);focus exact m1
 clear hK K;refine zl ?_;refine zt 15 ?_;refine zt 16 ?_;refine zc 17 (fun K hK=> ?_);go_simp;refine hK.out _ _ ?_ (fun hHeld=> ?_);focus exact(World.cell?_setCell_other _ _ _ _ (by simp)).trans m1
 clear hK K;(try simp only[Act.put])
 refine dnZ ?_;have S1:=sli_node mS (getD_some hjt) 2 (by omega) (.int .i64 (m:Nat)) { ts.getD j default with l:=(m:Nat) } rfl;rw[HEV.out]at S1;have hle:es.length=ts.length:=by rw[←HEV.out];simp
 have hgb:g bb=T+1:=mS.tag_.1;have G:=grown_set w4 bb (off+j*5+2) (.int .i64 (m:Nat));have hN:=ns_num q8;refine q_named (fun W=>NsAt W g T b pa (.slice (some ⟨bb,off,none⟩) ms.length cap) top size es∧Chg w W g g T (T+2)) ⟨⟨mO.other G (by intro h;cases h;exact mne rfl),by rw[hN,←hle];exact S1⟩,q7.by G (fun b' e _=>by cases e;omega)⟩ (fun W hW=> ?_);obtain⟨hW1,hW2⟩:=hW;clear S1 G hHeld m1 mO mS mc mf q7 q8 rj fj;go_wp2_with fail
 refine(CT.out _ hW1 hW2).mono ?_;rintro e5 w5 ⟨rfl,q9,q10⟩;go_wp2_with fail
 go_ret
 exact⟨rfl,q9,q10⟩
theorem rbeven_r1 (b:Nat) (pa:Nat) (v:Value) (top size:Int) (ns:List ND) (j l:Nat) (hj:j<ns.length) (hG:Good ns) (h1:leanF (mendF ns j) j< -1) (hl:((mendF ns j).getD j default).r=(l:Nat)) (hlj:j≠l) (hll:l<ns.length) (h2: ¬ 0<leanF (mendF ns j) l) (g:Nat→Nat) (T:Nat) (w:World) (hT:Tidy w g) (h:NsAt w g T b pa v top size ns):
  Calls Tryz.prog 154 #[.pointer (some ⟨b,0,none⟩), .int .i64 j] w fun e w'=>e= .returned (.int .i64 l)∧Chg w w' g g T (T+2)∧NsAt w' g T b pa v top size (turnLF (mendF ns j) j l):=by
 have hjm:j<(mendF ns j).length:=by rw[mendF_len];exact hj
 have hlm:l<(mendF ns j).length:=by rw[mendF_len];exact hll
 have gm:=hG.mend hj;have CM:=zH (ev_mend b pa v top size ns j hj hG g T w hT h);have CL:=zH (ev_lean b pa v top size (mendF ns j) j hjm gm g T w);have CL2:=zH (ev_lean b pa v top size (mendF ns j) l hlm gm g T w);have CT:Hid (∀ w',NsAt w' g T b pa v top size (mendF ns j)→Chg w w' g g T (T+2)→Calls Tryz.prog 179 #[.pointer (some ⟨b,0,none⟩), .int .i64 j] w' fun e w''=>e= .returned (.int .i64 l)∧Chg w w'' g g T (T+2)∧NsAt w'' g T b pa v top size (turnLF (mendF ns j) j l)):=
  zH fun w' hn hc=>(rbturnL_any b pa v top size (mendF ns j) j l hjm hlm hl hlj (gm j hjm).1 (gm l hlm).1 (gm l hlm).2 g T w' hc.tidy hn).mono fun e w'' ⟨q1,q2,q3⟩=>⟨q1,hc.trans q2,q3⟩
 obtain⟨A,eA⟩: ∃ A,leanF (mendF ns j) j=A:=⟨_,rfl⟩;obtain⟨D,eD⟩: ∃ D,leanF (mendF ns j) l=D:=⟨_,rfl⟩;obtain⟨ms,ems⟩: ∃ ms,mendF ns j=ms:=⟨_,rfl⟩;rw[eA]at CL h1;rw[eD]at CL2 h2;rw[ems]at CM CL CL2 CT hl hjm ⊢;have h3: ¬ 1<A:=by omega
 clear h hT hG eA ems eD gm hlm;go_enter Tryz.func154,Tryz.ntmps154
 go_wp2_with fail
 refine(CM.out _ rfl).mono ?_;rintro e1 w1 ⟨⟨v1,rfl⟩,q1,q2⟩;go_wp2_with fail
 refine(CL.out _ q2 q1).mono ?_;rintro e2 w2 ⟨rfl,q3,q4⟩;obtain⟨bb,off,cap,rfl⟩:=ns_form q4 (by omega);obtain⟨k1,kO,kS,kne,kc,kf⟩:=ns_at q4;have rc:=kc j _ (getD_some hjm) 3 (by omega);simp only[ndl,List.getElem?_cons_zero,List.getElem?_cons_succ]at rc;rw[hl]at rc;have Q3:=zH q3;have Q4:=zH q4;clear kO kS kc kf q1 q2 q3 q4;go_wp2_with fail
 refine(CL2.out _ Q4.out Q3.out).mono ?_;rintro e3 w3 ⟨rfl,q5,q6⟩;go_wp2_with fail
 refine(CT.out _ q6 q5).mono ?_;rintro e4 w4 ⟨rfl,q7,q8⟩;go_wp2_with fail
 go_ret
 exact⟨rfl,q7,q8⟩
def evr2 (ns:List ND) (j l m:Nat):List ND:=(turnRF (mendF ns j) l m).set j { (turnRF (mendF ns j) l m).getD j default with r:=(m:Nat) }
theorem rbeven_r2 (b:Nat) (pa:Nat) (v:Value) (top size:Int) (ns:List ND) (j l m:Nat) (hj:j<ns.length) (hG:Good ns) (h1:leanF (mendF ns j) j< -1) (hl:((mendF ns j).getD j default).r=(l:Nat)) (hlj:j≠l) (hll:l<ns.length) (h2:0<leanF (mendF ns j) l) (hm:((mendF ns j).getD l default).l=(m:Nat)) (hml:l≠m) (hmj:j≠m) (hmm:m<ns.length) (g:Nat→Nat) (T:Nat) (w:World) (hT:Tidy w g) (h:NsAt w g T b pa v top size ns):
  Calls Tryz.prog 154 #[.pointer (some ⟨b,0,none⟩), .int .i64 j] w fun e w'=>e= .returned (.int .i64 m)∧Chg w w' g g T (T+2)∧NsAt w' g T b pa v top size (turnLF (evr2 ns j l m) j m):=by
 have hjm:j<(mendF ns j).length:=by rw[mendF_len];exact hj
 have hlm:l<(mendF ns j).length:=by rw[mendF_len];exact hll
 have hmm':m<(mendF ns j).length:=by rw[mendF_len];exact hmm
 have gm:=hG.mend hj;have CM:=zH (ev_mend b pa v top size ns j hj hG g T w hT h);have CL:=zH (ev_lean b pa v top size (mendF ns j) j hjm gm g T w);have CL2:=zH (ev_lean b pa v top size (mendF ns j) l hlm gm g T w);have CT1:Hid (∀ w',NsAt w' g T b pa v top size (mendF ns j)→Chg w w' g g T (T+2)→Calls Tryz.prog 180 #[.pointer (some ⟨b,0,none⟩), .int .i64 l] w' fun e w''=>e= .returned (.int .i64 m)∧Chg w w'' g g T (T+2)∧NsAt w'' g T b pa v top size (turnRF (mendF ns j) l m)):=
  zH fun w' hn hc=>(rbturnR_any b pa v top size (mendF ns j) l m hlm hmm' hm hml (gm l hlm).2 (gm m hmm').1 (gm m hmm').2 g T w' hc.tidy hn).mono fun e w'' ⟨q1,q2,q3⟩=>⟨q1,hc.trans q2,q3⟩
 have g2:Good (turnRF (mendF ns j) l m):=gm.turnR hlm hmm';have len2:(turnRF (mendF ns j) l m).length=ns.length:=by rw[turnR_len,mendF_len]
 have g3:Good (evr2 ns j l m):=g2.set j _ (g2 j (by omega)).1 (okI_nat (by omega));have len3:(evr2 ns j l m).length=ns.length:=by unfold evr2;rw[List.length_set,len2]
 have hc3:((evr2 ns j l m).getD j default).r=(m:Nat):=by unfold evr2;rw[getD_set_eq _ (by omega)]
 have CT:Hid (∀ w',NsAt w' g T b pa v top size (evr2 ns j l m)→Chg w w' g g T (T+2)→Calls Tryz.prog 179 #[.pointer (some ⟨b,0,none⟩), .int .i64 j] w' fun e w''=>e= .returned (.int .i64 m)∧Chg w w'' g g T (T+2)∧NsAt w'' g T b pa v top size (turnLF (evr2 ns j l m) j m)):=
  zH fun w' hn hc=>(rbturnL_any b pa v top size (evr2 ns j l m) j m (by omega) (by omega) hc3 hmj (g3 j (by omega)).1 (g3 m (by omega)).1 (g3 m (by omega)).2 g T w' hc.tidy hn).mono fun e w'' ⟨q1,q2,q3⟩=>⟨q1,hc.trans q2,q3⟩
 obtain⟨A,eA⟩: ∃ A,leanF (mendF ns j) j=A:=⟨_,rfl⟩;obtain⟨D,eD⟩: ∃ D,leanF (mendF ns j) l=D:=⟨_,rfl⟩;have hev:(turnRF (mendF ns j) l m).set j { (turnRF (mendF ns j) l m).getD j default with r:=(m:Nat) }=evr2 ns j l m:=rfl;obtain⟨es,ees⟩: ∃ es,evr2 ns j l m=es:=⟨_,rfl⟩;obtain⟨ms,ems⟩: ∃ ms,mendF ns j=ms:=⟨_,rfl⟩;rw[eA]at CL h1;rw[eD]at CL2 h2;rw[ees]at CT hev ⊢;rw[ems]at CM CL CL2 CT1 hl hjm hev len2;obtain⟨ts,ets⟩: ∃ ts,turnRF ms l m=ts:=⟨_,rfl⟩;rw[ets]at CT1 hev len2;have h3: ¬ 1<A:=by omega
 have HEV:=zH hev;clear h hT hG eA ems eD gm hlm hmm' g2 g3 len3 hc3 ees ets hm hev;go_enter Tryz.func154,Tryz.ntmps154
 go_wp2_with fail
 refine(CM.out _ rfl).mono ?_;rintro e1 w1 ⟨⟨v1,rfl⟩,q1,q2⟩;go_wp2_with fail
 refine(CL.out _ q2 q1).mono ?_;rintro e2 w2 ⟨rfl,q3,q4⟩;obtain⟨bb,off,cap,rfl⟩:=ns_form q4 (by omega);obtain⟨k1,kO,kS,kne,kc,kf⟩:=ns_at q4;have rc:=kc j _ (getD_some hjm) 3 (by omega);simp only[ndl,List.getElem?_cons_zero,List.getElem?_cons_succ]at rc;rw[hl]at rc;have Q3:=zH q3;have Q4:=zH q4;clear kO kS kc kf q1 q2 q3 q4;go_wp2_with fail
 refine(CL2.out _ Q4.out Q3.out).mono ?_;rintro e3 w3 ⟨rfl,q5,q6⟩;clear k1 rc kne;obtain⟨k1,kO,kS,kne,kc,kf⟩:=ns_at q6;have rc:=kc j _ (getD_some hjm) 3 (by omega);simp only[ndl,List.getElem?_cons_zero,List.getElem?_cons_succ]at rc;rw[hl]at rc;have Q5:=zH q5;have Q6:=zH q6;clear kO kS kc kf q5 q6;go_wp2_with fail
 refine wp_region_held_drew (S:=fun wq=>wq.cell? ⟨b,1,none⟩=some (.slice (some ⟨bb,off,none⟩) ms.length cap)) (by kernel_rfl) k1 (fun hHeld=> ?_);refine zt 0 ?_;refine zt 1 ?_;refine zt 2 ?_;refine zt 3 ?_;refine zt 4 ?_;refine zt 5 ?_;refine zt 6 ?_;refine zt 7 ?_;refine zt 8 ?_;refine zt 9 ?_;refine zt 10 ?_;refine zt 11 ?_;refine zt 12 ?_;refine zc 13 (fun K hK=> ?_);go_simp;refine hK.out _ _ ?_ (fun hHeld=> ?_);focus exact hHeld
 clear hK K;refine zl ?_;refine zc 14 (fun K hK=> ?_);go_simp;refine(CT1.out _ (Q6.out.drewN 1) (Q5.out.drewN 1)).mono ?_;rintro e4 w4 ⟨rfl,q7,q8⟩;have hts:=(ns_num q8).symm.trans (ns_num Q6.out);obtain⟨m1,mO,mS,mne,mc,mf⟩:=ns_at q8;have hjt:j<ts.length:=(by omega);have rj:=mc j _ (getD_some hjt) 3 (by omega);have fj:=mf (off+j*5+3);simp only[ndl,List.getElem?_cons_zero,List.getElem?_cons_succ]at rj;refine hK.out _ _ ?_ (fun hHeld=> ?_);focus exact m1
 clear hK K;refine zl ?_;refine zt 15 ?_;refine zt 16 ?_;refine zc 17 (fun K hK=> ?_);go_simp;refine hK.out _ _ ?_ (fun hHeld=> ?_);focus exact(World.cell?_setCell_other _ _ _ _ (by simp)).trans m1
 clear hK K;(try simp only[Act.put])
 refine dnZ ?_;have S1:=sli_node mS (getD_some hjt) 3 (by omega) (.int .i64 (m:Nat)) { ts.getD j default with r:=(m:Nat) } rfl;rw[HEV.out]at S1;have hle:es.length=ts.length:=by rw[←HEV.out];simp
 have hgb:g bb=T+1:=mS.tag_.1;have G:=grown_set w4 bb (off+j*5+3) (.int .i64 (m:Nat));have hN:=ns_num q8;refine q_named (fun W=>NsAt W g T b pa (.slice (some ⟨bb,off,none⟩) ms.length cap) top size es∧Chg w W g g T (T+2)) ⟨⟨mO.other G (by intro h;cases h;exact mne rfl),by rw[hN,←hle];exact S1⟩,q7.by G (fun b' e _=>by cases e;omega)⟩ (fun W hW=> ?_);obtain⟨hW1,hW2⟩:=hW;clear S1 G hHeld m1 mO mS mc mf q7 q8 rj fj;go_wp2_with fail
 refine(CT.out _ hW1 hW2).mono ?_;rintro e5 w5 ⟨rfl,q9,q10⟩;go_wp2_with fail
 go_ret
 exact⟨rfl,q9,q10⟩
end
end Go.Proofs.YtojgokiobdpclaaGreat
