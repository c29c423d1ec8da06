import Derived.Test.YtojgokiobdpclaaGreatP14
import Derived.Test.YtojgokiobdpclaaGreatP21
import Derived.Deep.RegionHeld3
namespace Go.Proofs.YtojgokiobdpclaaGreat
set_option linter.unusedVariables false
set_option linter.unusedSimpArgs false
set_option maxRecDepth 8000
set_option maxHeartbeats 8000000
section
open Go.RowKit Go.Lib
def cmpN (x y:Nat):Int:=if x<y then-1 else if y<x then 1 else 0
def cmpK (x y:Nat×Nat):Int:=if cmpN x.1 y.1=0 then cmpN x.2 y.2 else cmpN x.1 y.1
def kyv (x:Nat×Nat):Value:= .agg #[.int .u64 x.1, .int .u64 x.2]
theorem cmpnan_any (x:Nat) (w:World):Calls Tryz.prog 198 #[.int .u64 x] w fun e w'=>e= .returned (.bool false)∧w=w':=by
 go_enter Tryz.func198,Tryz.ntmps198
 go_wp2;go_ret
 exact⟨by simp,rfl⟩
theorem cmpcmp_any (x y:Nat) (w:World):Calls Tryz.prog 176 #[.int .u64 x, .int .u64 y] w fun e w'=>e= .returned (.int .i64 (cmpN x y))∧w=w':=by
 have CX:Hid (∀ w',w=w'→Calls Tryz.prog 198 #[.int .u64 x] w' fun e w''=>e= .returned (.bool false)∧w'=w''):=zH fun w' e=>by subst e;exact cmpnan_any x w
 have CY:Hid (∀ w',w=w'→Calls Tryz.prog 198 #[.int .u64 y] w' fun e w''=>e= .returned (.bool false)∧w'=w''):=zH fun w' e=>by subst e;exact cmpnan_any y w
 unfold cmpN;rcases Nat.lt_trichotomy x y with h | h | h
 ·rw[if_pos h]
  have h1:(x:Int)<y:=by omega
  clear h;go_enter Tryz.func176,Tryz.ntmps176
  go_wp2_with fail
  refine(CX.out _ rfl).mono ?_;rintro e w1 ⟨rfl,rfl⟩;go_wp2_with fail
  refine(CY.out _ rfl).mono ?_;rintro e w1 ⟨rfl,rfl⟩;go_wp2_with fail
  go_ret
  exact⟨rfl,rfl⟩
 ·rw[if_neg (by omega),if_neg (by omega)]
  have h1: ¬(x:Int)<y:=by omega
  have h2: ¬(y:Int)<x:=by omega
  clear h;go_enter Tryz.func176,Tryz.ntmps176
  go_wp2_with fail
  refine(CX.out _ rfl).mono ?_;rintro e w1 ⟨rfl,rfl⟩;go_wp2_with fail
  refine(CY.out _ rfl).mono ?_;rintro e w1 ⟨rfl,rfl⟩;go_wp2_with fail
  go_ret
  exact⟨rfl,rfl⟩
 ·rw[if_neg (by omega),if_pos h]
  have h1: ¬(x:Int)<y:=by omega
  have h2:(y:Int)<x:=by omega
  clear h;go_enter Tryz.func176,Tryz.ntmps176
  go_wp2_with fail
  refine(CX.out _ rfl).mono ?_;rintro e w1 ⟨rfl,rfl⟩;go_wp2_with fail
  refine(CY.out _ rfl).mono ?_;rintro e w1 ⟨rfl,rfl⟩;go_wp2_with fail
  go_ret
  exact⟨rfl,rfl⟩
theorem cmpor_any (b:Nat) (x y:Int) (w:World) (h:At w b 3 #[.int .i64 x, .int .i64 y]):
  Calls Tryz.prog 175 #[.slice (some ⟨b,0,none⟩) 2 2] w fun e w'=>e= .returned (.int .i64 (if x=0 then y else x))∧w=w':=by
 have c0:=h.ce 0;have c1:=h.ce 1;clear h;by_cases hx:x=0
 ·subst hx
  rw[if_pos rfl];by_cases hy:y=0
  ·subst hy
   go_enter Tryz.func175,Tryz.ntmps175
   go_wp2;refine wp_loop_rounds 3 ?_;rw[rounds_succ];go_wp2;rw[rounds_succ];go_wp2;rw[rounds_succ];go_wp2;go_ret
   exact⟨rfl,rfl⟩
  ·have hb:(y==0)=false:=by simpa using hy
   clear hy;go_enter Tryz.func175,Tryz.ntmps175
   go_wp2;refine wp_loop_rounds 3 ?_;rw[rounds_succ];go_wp2;rw[rounds_succ];go_wp2;go_ret
   exact⟨rfl,rfl⟩
 ·rw[if_neg hx]
  have hb:(x==0)=false:=by simpa using hx
  clear hx;go_enter Tryz.func175,Tryz.ntmps175
  go_wp2;refine wp_loop_rounds 3 ?_;rw[rounds_succ];go_wp2;go_ret
  exact⟨rfl,rfl⟩
theorem cmpkey_any (x y:Nat×Nat) (w:World):Calls Tryz.prog 153 #[kyv x,kyv y] w fun e w'=>e= .returned (.int .i64 (cmpK x y))∧Below w.heap.size w w':=by
 obtain⟨x1,x2⟩:=x;obtain⟨y1,y2⟩:=y;unfold kyv cmpK;have C1:Hid (∀ w',Calls Tryz.prog 176 #[.int .u64 x1, .int .u64 y1] w' fun e w''=>e= .returned (.int .i64 (cmpN x1 y1))∧w'=w''):=zH (cmpcmp_any x1 y1);have C2:Hid (∀ w',Calls Tryz.prog 176 #[.int .u64 x2, .int .u64 y2] w' fun e w''=>e= .returned (.int .i64 (cmpN x2 y2))∧w'=w''):=zH (cmpcmp_any x2 y2);generalize cmpN x1 y1=A at*
 generalize cmpN x2 y2=B at*
 have C3:Hid (∀ b w',At w' b 3 #[.int .i64 A, .int .i64 B]→Calls Tryz.prog 175 #[.slice (some ⟨b,0,none⟩) 2 2] w' fun e w''=>e= .returned (.int .i64 (if A=0 then B else A))∧w'=w''):=zH fun b w' h=>cmpor_any b A B w' h
 obtain⟨R,hR⟩: ∃ R,(if A=0 then B else A)=R:=⟨_,rfl⟩;rw[hR]at C3 ⊢;clear hR;go_enter Tryz.func153,Tryz.ntmps153
 go_wp2_with fail
 obtain⟨s,es⟩: ∃ s,w.heap.size=s:=⟨_,rfl⟩;refine wp_named (fun W=>At W s 169 #[.int .u64 x1, .int .u64 x2]∧At W (s+1) 169 #[.int .u64 y1, .int .u64 y2]∧Below s w W∧W.heap.size=s+2) ⟨?_, ?_, ?_, ?_⟩ ?_
 ·rw[←es];exact(At.made w _ _).kept (World.grownBy_alloc _ _ none) (by simp)
 ·have:=At.made (w.alloc (.cells #[.int .u64 x1, .int .u64 x2] 169)) 169 #[.int .u64 y1, .int .u64 y2]
  rw[show(w.alloc (.cells #[.int .u64 x1, .int .u64 x2] 169)).heap.size=s+1 from by simp[es]]at this;exact this
 ·rw[←es];exact((Below.refl _ w).alloc (Nat.le_refl _) _).alloc (by simp) _
 ·simp[es]
 rintro w1 ⟨A0,A1,B0,hsz⟩;have HB:=zH B0;have r0:=A0.cell 0;have r1:=A0.cell 1;have r2:=A1.cell 0;have r3:=A1.cell 1;simp only[List.getElem?_toArray,List.getElem?_cons_zero,List.getElem?_cons_succ]at r0 r1 r2 r3;have E0:=zH A0;have E1:=zH A1;have AO:Hid (At (w1.alloc (.cells #[.int .i64 A, .int .i64 B] 3)).drew (s+2) 3 #[.int .i64 A, .int .i64 B]):=zH (by rw[←hsz];exact(At.made w1 _ _).drew);have F0:Hid (At (w1.alloc (.cells #[.int .i64 A, .int .i64 B] 3)).drew s 169 #[.int .u64 x1, .int .u64 x2]):=zH (A0.kept (World.grownBy_alloc w1 _ none) (by simp)).drew;have F1:Hid (At (w1.alloc (.cells #[.int .i64 A, .int .i64 B] 3)).drew (s+1) 169 #[.int .u64 y1, .int .u64 y2]):=zH (A1.kept (World.grownBy_alloc w1 _ none) (by simp)).drew;clear A0 A1 B0;refine wp_region_held_drew (S:=fun wq=>wq.cell? ⟨s,0,none⟩=some (.int .u64 x1)∧wq.cell? ⟨s,1,none⟩=some (.int .u64 x2)∧wq.cell? ⟨s+1,0,none⟩=some (.int .u64 y1)∧wq.cell? ⟨s+1,1,none⟩=some (.int .u64 y2)) (by kernel_rfl) ⟨r0,r1,r2,r3⟩ (fun hHeld=> ?_);refine zt 0 ?_;refine zt 1 ?_;refine zt 2 ?_;refine zt 3 ?_;refine zt 5 ?_;refine zt 6 ?_;refine zt 7 ?_;refine zt 8 ?_;refine zc 4 (fun K hK=> ?_);go_simp;refine(C1.out _).mono ?_;rintro e1 w2 ⟨rfl,rfl⟩;refine hK.out _ _ ?_ (fun hHeld=> ?_);focus exact hHeld
 clear hK K;refine zl ?_;refine zc 9 (fun K hK=> ?_);go_simp;refine(C2.out _).mono ?_;rintro e1 w2 ⟨rfl,rfl⟩;refine hK.out _ _ ?_ (fun hHeld=> ?_);focus exact hHeld
 clear hK K;refine zl ?_;refine zc 10 (fun K hK=> ?_);go_simp;refine hK.out _ _ ?_ (fun hHeld=> ?_);focus exact⟨F0.out.cell 0,F0.out.cell 1,F1.out.cell 0,F1.out.cell 1⟩
 clear hK K;refine zl ?_;refine zc 11 (fun K hK=> ?_);go_simp;refine(C3.out (s+2) _ AO.out).mono ?_;rintro e1 w2 ⟨rfl,rfl⟩;refine hK.out _ _ ?_ (fun hHeld=> ?_);focus exact hHeld
 clear hK K;refine zl ?_;refine zt 12 ?_;refine dnZ ?_;have HB2:=zH ((HB.out.alloc (by omega) (.cells #[.int .i64 A, .int .i64 B] 3)).drew);clear hHeld;go_wp2;go_ret
 exact⟨rfl,by rw[es];exact HB2.out⟩
end
section
open Go.RowKit Go.Lib
inductive TT where
 | nil:TT
 | node (i a b:Nat) (l r:TT):TT
def TT.hgt:TT→Nat
 | .nil=>0
 | .node _ _ _ l r=>max l.hgt r.hgt+1
def TT.idx:TT→List Nat
 | .nil=>[]
 | .node i _ _ l r=>l.idx++i::r.idx
def TT.keys:TT→List (Nat×Nat)
 | .nil=>[]
 | .node _ a b l r=>l.keys++(a,b)::r.keys
def Rep (ns:List ND):Int→TT→Prop
 | i, .nil=>i= -1
 | i, .node j a b l r=>i=(j:Nat)∧j<ns.length∧(ns.getD j default).ka=a∧(ns.getD j default).kb=b∧(ns.getD j default).h=((TT.node j a b l r).hgt:Nat)∧Rep ns (ns.getD j default).l l∧Rep ns (ns.getD j default).r r
theorem Rep.frame {ns ms:List ND} {t:TT}: ∀ {i:Int},Rep ns i t→(∀ j∈t.idx,ms.getD j default=ns.getD j default)→ms.length=ns.length→Rep ms i t:=by
 induction t with
 | nil=>intro i h _ _;exact h
 | node j a b l r ihl ihr=>
  intro i h hf hl;obtain⟨h1,h2,h3,h4,h5,h6,h7⟩:=h;have e:=hf j (by simp[TT.idx]);refine⟨h1,by omega,by rw[e];exact h3,by rw[e];exact h4,by rw[e];exact h5, ?_, ?_⟩
  ·rw[e];exact ihl h6 (fun k hk=>hf k (by simp[TT.idx,hk])) hl
  ·rw[e];exact ihr h7 (fun k hk=>hf k (by simp[TT.idx,hk])) hl
theorem Rep.hi {ns:List ND} {t:TT} {i:Int} (h:Rep ns i t):hiF ns i=(t.hgt:Nat):=by
 cases t with
 | nil=>rw[show i= -1 from h];rfl
 | node j a b l r=>
  obtain⟨rfl,h2,h3,h4,h5,h6,h7⟩:=h;unfold hiF;rw[if_neg (by omega),Int.toNat_natCast];exact h5
theorem Rep.lt {ns:List ND} {t:TT}: ∀ {i:Int},Rep ns i t→ ∀ j∈t.idx,j<ns.length:=by
 induction t with
 | nil=>intro i _ j hj;simp[TT.idx]at hj
 | node j a b l r ihl ihr=>
  intro i h k hk;obtain⟨h1,h2,h3,h4,h5,h6,h7⟩:=h;simp only[TT.idx,List.mem_append,List.mem_cons]at hk;rcases hk with hk | rfl | hk
  ·exact ihl h6 k hk
  ·exact h2
  ·exact ihr h7 k hk
theorem wrap_small {z:Int} (h1: -1000≤z) (h2:z≤1000):IntKind.i64.wrap z=z:=by
 simp[IntKind.wrap,IntKind.bits,IntKind.signed]
 omega
theorem max_cast (a b:Nat):max (a:Int) (b:Int)=((max a b:Nat):Int):=by
 rcases Nat.le_total a b with h | h
 ·rw[Nat.max_eq_right h,Int.max_eq_right (by omega)]
 ·rw[Nat.max_eq_left h,Int.max_eq_left (by omega)]
theorem hgt_le (t:TT):t.hgt≤t.idx.length:=by
 induction t with
 | nil=>simp[TT.hgt]
 | node i a b l r ihl ihr=>simp only[TT.hgt,TT.idx,List.length_append,List.length_cons];omega
theorem mend_rep {ns:List ND} {j:Nat} {L R:TT} (hj:j<ns.length) (hL:Rep ns (ns.getD j default).l L) (hR:Rep ns (ns.getD j default).r R) (nL:j ∉ L.idx) (nR:j ∉ R.idx) (sL:L.hgt≤500) (sR:R.hgt≤500):
  Rep (mendF ns j) (j:Nat) (.node j (ns.getD j default).ka (ns.getD j default).kb L R)∧(∀ k,k≠j→(mendF ns j).getD k default=ns.getD k default)∧(mendF ns j).getD j default={ ns.getD j default with h:=((max L.hgt R.hgt+1:Nat):Int) }:=by
 have e:(mendF ns j).getD j default={ ns.getD j default with h:=((max L.hgt R.hgt+1:Nat):Int) }:=by
  unfold mendF;rw[getD_set_eq _ hj,hL.hi,hR.hi];rw[max_cast,wrap_small (by omega) (by omega)];rfl
 have f: ∀ k,k≠j→(mendF ns j).getD k default=ns.getD k default:=fun k hk=>mendF_ne ns (Ne.symm hk)
 refine⟨⟨rfl,by rw[mendF_len];exact hj,by rw[e],by rw[e],by rw[e];rfl, ?_, ?_⟩,f,e⟩
 ·rw[e]
  exact hL.frame (fun k hk=>f k (by rintro rfl;exact nL hk)) (mendF_len ns j)
 ·rw[e]
  exact hR.frame (fun k hk=>f k (by rintro rfl;exact nR hk)) (mendF_len ns j)
theorem turnR_rep {ns:List ND} {j l:Nat} {X Y Z:TT} (hj:j<ns.length) (hl:l<ns.length) (hjl:(ns.getD j default).l=(l:Nat)) (hX:Rep ns (ns.getD l default).l X) (hY:Rep ns (ns.getD l default).r Y) (hZ:Rep ns (ns.getD j default).r Z)
  (nd:(X.idx++l::(Y.idx++j::Z.idx)).Nodup) (sX:X.hgt≤400) (sY:Y.hgt≤400) (sZ:Z.hgt≤400):
  Rep (turnRF ns j l) (l:Nat) (.node l (ns.getD l default).ka (ns.getD l default).kb X (.node j (ns.getD j default).ka (ns.getD j default).kb Y Z))∧(∀ k,k≠j→k≠l→(turnRF ns j l).getD k default=ns.getD k default):=by
 simp only[List.nodup_append,List.nodup_cons,List.mem_append,List.mem_cons,not_or]at nd;obtain⟨dX,⟨⟨nlY,hlj,nlZ⟩,dY,⟨njZ,dZ⟩,dYZ⟩,dXa⟩:=nd;have hlj:l≠j:=hlj;have njX:j ∉ X.idx:=fun h=>dXa j h j (.inr (.inr (.inl rfl))) rfl
 have nlX:l ∉ X.idx:=fun h=>dXa l h l (.inl rfl) rfl
 have njY:j ∉ Y.idx:=fun h=>dYZ j h j (.inl rfl) rfl
 obtain⟨x,ex⟩: ∃ x,ns.getD j default=x:=⟨_,rfl⟩;obtain⟨y,ey⟩: ∃ y,ns.getD l default=y:=⟨_,rfl⟩;rw[ex]at hjl hZ;rw[ey]at hX hY;have e1:turnRF ns j l=mendF (mendF ((ns.set j { x with l:=y.r }).set l { y with r:=(j:Nat) }) j) l:=by unfold turnRF;rw[ex,ey]
 obtain⟨ms,ems⟩: ∃ ms,(ns.set j { x with l:=y.r }).set l { y with r:=(j:Nat) }=ms:=⟨_,rfl⟩;have lm:ms.length=ns.length:=by rw[←ems];simp
 have mj:ms.getD j default={ x with l:=y.r }:=by rw[←ems,getD_set_ne _ hlj,getD_set_eq _ hj]
 have ml:ms.getD l default={ y with r:=(j:Nat) }:=by rw[←ems];exact getD_set_eq _ (by simpa using hl)
 have mk: ∀ k,k≠j→k≠l→ms.getD k default=ns.getD k default:=fun k h1 h2=>by rw[←ems,getD_set_ne _ (Ne.symm h2),getD_set_ne _ (Ne.symm h1)]
 have fr: ∀ {t:TT} {i:Int},Rep ns i t→j ∉ t.idx→l ∉ t.idx→Rep ms i t:=fun h h1 h2=>h.frame (fun k hk=>mk k (by rintro rfl;exact h1 hk) (by rintro rfl;exact h2 hk)) lm
 rw[e1,ems];have r1:=mend_rep (ns:=ms) (j:=j) (L:=Y) (R:=Z) (by omega) (by rw[mj];exact fr hY njY nlY) (by rw[mj];exact fr hZ njZ nlZ) njY njZ (by omega) (by omega);obtain⟨p1,p2,p3⟩:=r1;rw[mj]at p1 p3;have q1:(mendF ms j).getD l default={ y with r:=(j:Nat) }:=by rw[p2 l hlj,ml]
 have fX:Rep (mendF ms j) y.l X:=(fr hX njX nlX).frame (fun k hk=>p2 k (by rintro rfl;exact njX hk)) (mendF_len ms j);have nl1:l ∉ (TT.node j x.ka x.kb Y Z).idx:=by
  simp only[TT.idx,List.mem_append,List.mem_cons,not_or];exact⟨nlY,hlj,nlZ⟩
 have sz:(TT.node j x.ka x.kb Y Z).hgt≤500:=by simp only[TT.hgt];omega
 have r2:=mend_rep (ns:=mendF ms j) (j:=l) (L:=X) (R:=(TT.node j x.ka x.kb Y Z)) (by rw[mendF_len];omega) (by rw[q1];exact fX) (by rw[q1];exact p1) nlX nl1 (by omega) (by omega);obtain⟨s1,s2,s3⟩:=r2;rw[q1]at s1;refine⟨?_,fun k h1 h2=>by rw[s2 k h2,p2 k h1,mk k h1 h2]⟩;rw[←ex,←ey]at s1;exact s1
theorem turnL_rep {ns:List ND} {j l:Nat} {X Y Z:TT} (hj:j<ns.length) (hl:l<ns.length) (hjl:(ns.getD j default).r=(l:Nat)) (hX:Rep ns (ns.getD l default).r X) (hY:Rep ns (ns.getD l default).l Y) (hZ:Rep ns (ns.getD j default).l Z)
  (nd:(X.idx++l::(Y.idx++j::Z.idx)).Nodup) (sX:X.hgt≤400) (sY:Y.hgt≤400) (sZ:Z.hgt≤400):
  Rep (turnLF ns j l) (l:Nat) (.node l (ns.getD l default).ka (ns.getD l default).kb (.node j (ns.getD j default).ka (ns.getD j default).kb Z Y) X)∧(∀ k,k≠j→k≠l→(turnLF ns j l).getD k default=ns.getD k default):=by
 simp only[List.nodup_append,List.nodup_cons,List.mem_append,List.mem_cons,not_or]at nd;obtain⟨dX,⟨⟨nlY,hlj,nlZ⟩,dY,⟨njZ,dZ⟩,dYZ⟩,dXa⟩:=nd;have hlj:l≠j:=hlj;have njX:j ∉ X.idx:=fun h=>dXa j h j (.inr (.inr (.inl rfl))) rfl
 have nlX:l ∉ X.idx:=fun h=>dXa l h l (.inl rfl) rfl
 have njY:j ∉ Y.idx:=fun h=>dYZ j h j (.inl rfl) rfl
 obtain⟨x,ex⟩: ∃ x,ns.getD j default=x:=⟨_,rfl⟩;obtain⟨y,ey⟩: ∃ y,ns.getD l default=y:=⟨_,rfl⟩;rw[ex]at hjl hZ;rw[ey]at hX hY;have e1:turnLF ns j l=mendF (mendF ((ns.set j { x with r:=y.l }).set l { y with l:=(j:Nat) }) j) l:=by unfold turnLF;rw[ex,ey]
 obtain⟨ms,ems⟩: ∃ ms,(ns.set j { x with r:=y.l }).set l { y with l:=(j:Nat) }=ms:=⟨_,rfl⟩;have lm:ms.length=ns.length:=by rw[←ems];simp
 have mj:ms.getD j default={ x with r:=y.l }:=by rw[←ems,getD_set_ne _ hlj,getD_set_eq _ hj]
 have ml:ms.getD l default={ y with l:=(j:Nat) }:=by rw[←ems];exact getD_set_eq _ (by simpa using hl)
 have mk: ∀ k,k≠j→k≠l→ms.getD k default=ns.getD k default:=fun k h1 h2=>by rw[←ems,getD_set_ne _ (Ne.symm h2),getD_set_ne _ (Ne.symm h1)]
 have fr: ∀ {t:TT} {i:Int},Rep ns i t→j ∉ t.idx→l ∉ t.idx→Rep ms i t:=fun h h1 h2=>h.frame (fun k hk=>mk k (by rintro rfl;exact h1 hk) (by rintro rfl;exact h2 hk)) lm
 rw[e1,ems];have r1:=mend_rep (ns:=ms) (j:=j) (L:=Z) (R:=Y) (by omega) (by rw[mj];exact fr hZ njZ nlZ) (by rw[mj];exact fr hY njY nlY) njZ njY (by omega) (by omega);obtain⟨p1,p2,p3⟩:=r1;rw[mj]at p1 p3;have q1:(mendF ms j).getD l default={ y with l:=(j:Nat) }:=by rw[p2 l hlj,ml]
 have fX:Rep (mendF ms j) y.r X:=(fr hX njX nlX).frame (fun k hk=>p2 k (by rintro rfl;exact njX hk)) (mendF_len ms j);have nl1:l ∉ (TT.node j x.ka x.kb Z Y).idx:=by
  simp only[TT.idx,List.mem_append,List.mem_cons,not_or];exact⟨nlZ,hlj,nlY⟩
 have sz:(TT.node j x.ka x.kb Z Y).hgt≤500:=by simp only[TT.hgt];omega
 have r2:=mend_rep (ns:=mendF ms j) (j:=l) (L:=(TT.node j x.ka x.kb Z Y)) (R:=X) (by rw[mendF_len];omega) (by rw[q1];exact p1) (by rw[q1];exact fX) nl1 nlX (by omega) (by omega);obtain⟨s1,s2,s3⟩:=r2;rw[q1]at s1;refine⟨?_,fun k h1 h2=>by rw[s2 k h2,p2 k h1,mk k h1 h2]⟩;rw[←ex,←ey]at s1;exact s1
end
section
open Go.RowKit Go.Lib
section
variable {w w':World} {B:Nat} {s s':BB}
theorem BbAt.putm (h:BbAt w B s) (p:Put w w' (B+6) 163 (bbc B s')) (e1:s'.wm=s.wm) (e2:s'.rn=s.rn) (e3:s'.pp=s.pp) (e4:s'.cp=s.cp) (e5:s'.cs=s.cs) (e6:s'.pr=s.pr) (e7:s'.pl=s.pl):BbAt w' B s'∧Bbd B w w':=
 ⟨⟨by rw[e1];exact p.other h.wm (by omega),by rw[e2];exact p.other h.rn (by omega),by rw[e3];exact p.other h.pp (by omega),by rw[e4,e5];exact p.other h.cy (by omega),by rw[e6];exact p.other h.pr (by omega),by rw[e7];exact p.other h.pl (by omega),p.1⟩,(Bbd.refl B w).by p.2 (by omega) (by omega)⟩
theorem BbAt.putwm (h:BbAt w B s) {x:WM} (p:Put w w' B 252 (wmx x)):BbAt w' B { s with wm:=x }∧Bbd B w w':=
 ⟨⟨p.1,p.other h.rn (by omega),p.other h.pp (by omega),p.other h.cy (by omega),p.other h.pr (by omega),p.other h.pl (by omega),p.other h.m (by omega)⟩,(Bbd.refl B w).by p.2 (by omega) (by omega)⟩
theorem BbAt.putrn (h:BbAt w B s) {x:RN} (p:Put w w' (B+1) 201 (rnd x)):BbAt w' B { s with rn:=x }∧Bbd B w w':=
 ⟨⟨p.other h.wm (by omega),p.1,p.other h.pp (by omega),p.other h.cy (by omega),p.other h.pr (by omega),p.other h.pl (by omega),p.other h.m (by omega)⟩,(Bbd.refl B w).by p.2 (by omega) (by omega)⟩
theorem BbAt.putpp (h:BbAt w B s) {x:QS} (p:Put w w' (B+2) 205 (ppp x)):BbAt w' B { s with pp:=x }∧Bbd B w w':=
 ⟨⟨p.other h.wm (by omega),p.other h.rn (by omega),p.1,p.other h.cy (by omega),p.other h.pr (by omega),p.other h.pl (by omega),p.other h.m (by omega)⟩,(Bbd.refl B w).by p.2 (by omega) (by omega)⟩
theorem BbAt.putcy (h:BbAt w B s) {c t:Nat} (p:Put w w' (B+3) 203 (cyc c t)):BbAt w' B { s with cp:=c,cs:=t }∧Bbd B w w':=
 ⟨⟨p.other h.wm (by omega),p.other h.rn (by omega),p.other h.pp (by omega),p.1,p.other h.pr (by omega),p.other h.pl (by omega),p.other h.m (by omega)⟩,(Bbd.refl B w).by p.2 (by omega) (by omega)⟩
theorem BbAt.putpr (h:BbAt w B s) {x:PS} (p:Put w w' (B+4) 199 (prb x)):BbAt w' B { s with pr:=x }∧Bbd B w w':=
 ⟨⟨p.other h.wm (by omega),p.other h.rn (by omega),p.other h.pp (by omega),p.other h.cy (by omega),p.1,p.other h.pl (by omega),p.other h.m (by omega)⟩,(Bbd.refl B w).by p.2 (by omega) (by omega)⟩
theorem BbAt.putpl (h:BbAt w B s) {x:PL} (p:Put w w' (B+5) 247 (pol x)):BbAt w' B { s with pl:=x }∧Bbd B w w':=
 ⟨⟨p.other h.wm (by omega),p.other h.rn (by omega),p.other h.pp (by omega),p.other h.cy (by omega),p.other h.pr (by omega),p.1,p.other h.m (by omega)⟩,(Bbd.refl B w).by p.2 (by omega) (by omega)⟩
theorem Bbd.drewN {w0:World} (h:Bbd B w0 w) (n:Nat):Bbd B w0 (w.drewN n):=h.below (Drn.below ⟨n,rfl⟩)
theorem Bbd.of_below (hb:Below w.heap.size w w'):Bbd B w w':=(Bbd.refl B w).below hb
end
def BB.cruise (s:BB) (now:Nat):BB:={ s with mode:=2,cp:=2,cs:=now }
theorem bcruise_any (B:Nat) (s:BB) (now:Nat) (w:World) (h:BbAt w B s):
  Calls Tryz.prog 209 #[.pointer (some ⟨B+6,0,none⟩), .int .u64 now] w fun e w'=>e= .returned (.tuple #[])∧BbAt w' B (s.cruise now)∧Bbd B w w':=by
 have c7:=h.m.ce 7;have f7:=h.m.free 7;have c3:=h.m.ce 3;have X:=h.putm (s':={ s with mode:=2 }) (Put.set (u:= .int .i64 2) h.m 7) rfl rfl rfl rfl rfl rfl rfl;have CS:=zH (start_nat (B+3) s.cp s.cs now 2 (by decide) _ X.1.cy);have HX:=zH X;clear h X;go_enter Tryz.func209,Tryz.ntmps209
 go_wp2_with fail
 refine CS.out.mono ?_;rintro e w2 ⟨rfl,P2⟩;have Y:=HX.out.1.putcy P2;have HY:=zH (show BbAt w2 B (s.cruise now)∧_ from Y);clear P2 Y;go_wp2_with fail
 go_end0
 exact⟨rfl,HY.out.1,HX.out.2.trans HY.out.2⟩
def BB.back (s:BB):BB:={ s with cwnd:=max s.cwnd s.was,was:=0 }
theorem bback_any (B:Nat) (s:BB) (w:World) (h:BbAt w B s):
  Calls Tryz.prog 212 #[.pointer (some ⟨B+6,0,none⟩)] w fun e w'=>e= .returned (.tuple #[])∧BbAt w' B s.back∧Bbd B w w':=by
 have c9:=h.m.ce 9;have c10:=h.m.ce 10;have f9:=h.m.free 9;have f10:=h.m.free 10;have em:max (s.cwnd:Int) (s.was:Int)=((max s.cwnd s.was:Nat):Int):=max_cast _ _;have X:=h.putm (s':=s.back) ((Put.set (u:= .int .u64 ((max s.cwnd s.was:Nat):Int)) h.m 9).then_ (Put.set (u:= .int .u64 0) (h.m.set 9) 10)) rfl rfl rfl rfl rfl rfl rfl;have HX:=zH X;clear h X;go_enter Tryz.func212,Tryz.ntmps212
 go_wp2_with fail
 go_region
 refine q_named (fun W=>BbAt W B s.back∧Bbd B w W) ⟨HX.out.1.drn ⟨_,rfl⟩,HX.out.2.drewN _⟩ (fun W hW=> ?_);have HW:=zH hW;clear hW HX;go_wp2_with fail
 go_end0
 exact⟨rfl,HW.out.1,HW.out.2⟩
def BB.pace (s:BB):BB:=if s.bw=0 then s else if s.pp.full=true∨s.rate<max (trate s.bw s.gain) 1 then { s with rate:=max (trate s.bw s.gain) 1 }else s
end
section
open Go.RowKit Go.Lib
theorem BB.gain_lt (s:BB):s.gain<18446744073709551616:=by
 unfold BB.gain;split
 ·omega
 ·split
  ·omega
  ·split
   ·unfold gainOf;(repeat' split)<;>omega
   ·omega
theorem trate_lt (v x:Nat):trate v x<18446744073709551616:=mulDiv_lt _ _ _
theorem bpace_any (B:Nat) (s:BB) (hs:s.ok) (w:World) (h:BbAt w B s):
  Calls Tryz.prog 194 #[.pointer (some ⟨B+6,0,none⟩)] w fun e w'=>(∃ v,e= .returned v)∧BbAt w' B s.pace∧Bbd B w w':=by
 have CB:=zH (bbw_any B s w h);have CG:=zH (bgain_any B s w h);have CR:=zH (fun w'=>rate_any s.bw s.gain (BB.bw_lt hs) s.gain_lt w');have CF:=zH (fun w' hB=>full_any (B+2) s.pp w' (h.below (w':=w') hB).pp);have hbw:=BB.bw_lt hs;unfold BB.pace;obtain⟨bw,ebw⟩: ∃ z,s.bw=z:=⟨_,rfl⟩;rw[ebw]at CB CR ⊢;obtain⟨r,er⟩: ∃ z,trate bw s.gain=z:=⟨_,rfl⟩;rw[er]at CR ⊢;have HH:=zH h;clear h er ebw;by_cases h0:bw=0
 ·subst h0
  rw[if_pos rfl];go_enter Tryz.func194,Tryz.ntmps194
  go_wp2_with fail
  refine CB.out.mono ?_;rintro e w1 ⟨rfl,rfl⟩;go_wp2_with fail
  refine bodyPost_ret (results_none rfl _ _ _) rfl ?_;exact⟨⟨_,rfl⟩,HH.out,Bbd.refl _ _⟩
 ·rw[if_neg h0]
  have hb0:((bw:Int)==0)=false:=by rw[beq_eq_false_iff_ne];omega
  have em:max (r:Int) 1=((max r 1:Nat):Int):=max_cast r 1;obtain⟨m,hm⟩: ∃ m,max r 1=m:=⟨_,rfl⟩;rw[hm]at em ⊢;have PRE:Hid (∀ w',Below w.heap.size w w'→w'.cell? ⟨B+6,2,none⟩=some (.pointer (some ⟨B+2,0,none⟩))∧w'.cell? ⟨B+6,8,none⟩=some (.int .u64 s.rate)∧w'.frozen? ⟨B+6,8,none⟩=false):=zH fun w' hB=>⟨(HH.out.below hB).m.cell 2,(HH.out.below hB).m.cell 8,(HH.out.below hB).m.free 8⟩
  clear h0 hm hbw;cases hf:s.pp.full with
  | true=>
   rw[hf]at CF;rw[if_pos (.inl rfl)];clear hf;go_enter Tryz.func194,Tryz.ntmps194
   go_wp2_with fail
   refine CB.out.mono ?_;rintro e w1 ⟨rfl,rfl⟩;go_wp2_with fail
   refine CB.out.mono ?_;rintro e w1 ⟨rfl,rfl⟩;go_wp2_with fail
   refine CG.out.mono ?_;rintro e w1 ⟨rfl,rfl⟩;go_wp2_with fail
   refine(CR.out _).mono ?_;rintro e w1 ⟨rfl,hB⟩;obtain⟨c2,c8,f8⟩:=PRE.out _ hB;have HB:=zH hB;clear hB;go_wp2_with fail
   refine(CF.out _ HB.out).mono ?_;rintro e w2 ⟨rfl,rfl⟩;have X:=(HH.out.below HB.out).putm (s':={ s with rate:=m }) (Put.set (u:= .int .u64 (m:Nat)) (HH.out.below HB.out).m 8) rfl rfl rfl rfl rfl rfl rfl;have HX:=zH X;clear X;go_wp2_with fail
   go_end0
   exact⟨⟨_,rfl⟩,HX.out.1,(Bbd.of_below HB.out).trans HX.out.2⟩
  | false=>
   rw[hf]at CF;clear hf;by_cases hr:s.rate<m
   ·have hr':decide ((s.rate:Int)<m)=true:=decide_eq_true (by omega)
    rw[if_pos (.inr hr)];go_enter Tryz.func194,Tryz.ntmps194
    go_wp2_with fail
    refine CB.out.mono ?_;rintro e w1 ⟨rfl,rfl⟩;go_wp2_with fail
    refine CB.out.mono ?_;rintro e w1 ⟨rfl,rfl⟩;go_wp2_with fail
    refine CG.out.mono ?_;rintro e w1 ⟨rfl,rfl⟩;go_wp2_with fail
    refine(CR.out _).mono ?_;rintro e w1 ⟨rfl,hB⟩;obtain⟨c2,c8,f8⟩:=PRE.out _ hB;have HB:=zH hB;clear hB;go_wp2_with fail
    refine(CF.out _ HB.out).mono ?_;rintro e w2 ⟨rfl,rfl⟩;have X:=(HH.out.below HB.out).putm (s':={ s with rate:=m }) (Put.set (u:= .int .u64 (m:Nat)) (HH.out.below HB.out).m 8) rfl rfl rfl rfl rfl rfl rfl;have HX:=zH X;clear X;go_wp2_with fail
    go_end0
    exact⟨⟨_,rfl⟩,HX.out.1,(Bbd.of_below HB.out).trans HX.out.2⟩
   ·have hr':decide ((s.rate:Int)<m)=false:=decide_eq_false (by omega)
    rw[if_neg (by simp;omega)];go_enter Tryz.func194,Tryz.ntmps194
    go_wp2_with fail
    refine CB.out.mono ?_;rintro e w1 ⟨rfl,rfl⟩;go_wp2_with fail
    refine CB.out.mono ?_;rintro e w1 ⟨rfl,rfl⟩;go_wp2_with fail
    refine CG.out.mono ?_;rintro e w1 ⟨rfl,rfl⟩;go_wp2_with fail
    refine(CR.out _).mono ?_;rintro e w1 ⟨rfl,hB⟩;obtain⟨c2,c8,f8⟩:=PRE.out _ hB;have HB:=zH hB;clear hB;go_wp2_with fail
    refine(CF.out _ HB.out).mono ?_;rintro e w2 ⟨rfl,rfl⟩;go_wp2_with fail
    go_end0
    exact⟨⟨_,rfl⟩,HH.out.below HB.out,Bbd.of_below HB.out⟩
end
section
open Go.RowKit Go.Lib
structure SM.big (x:SM):Prop where
 now:x.now<18446744073709551616
 dl:x.delivered<18446744073709551616
 pr:x.prior<18446744073709551616
 iv:x.interval<18446744073709551616
 rt:x.rtt<18446744073709551616
 ak:x.acked<18446744073709551616
 ls:x.lost<18446744073709551616
 fl:x.flight<18446744073709551616
def smc (x:SM):Array Value:= #[.int .u64 x.now, .int .u64 x.delivered, .int .u64 x.prior, .int .u64 x.interval, .int .u64 x.rtt, .int .u64 x.acked, .int .u64 x.lost, .int .u64 x.flight, .bool x.limited]
def BB.measure (s:BB) (x:SM):BB:=if x.acked=0∨x.interval=0 then s else
 if x.limited=false∨s.wm.v0≤mulDiv (satSub x.delivered x.prior) 1000000000 x.interval then { s with wm:=wmF s.wm s.rn.n (mulDiv (satSub x.delivered x.prior) 1000000000 x.interval) }else s
theorem bmeasure_any (B:Nat) (s:BB) (hs:s.ok) (x:SM) (hx:x.big) (w:World) (h:BbAt w B s):
  Calls Tryz.prog 188 #[.pointer (some ⟨B+6,0,none⟩),smp x] w fun e w'=>(∃ v,e= .returned v)∧BbAt w' B (s.measure x)∧Bbd B w w':=by
 obtain⟨n0,e0⟩: ∃ z,w.heap.size=z:=⟨_,rfl⟩;have hm:=h.m.lt;rw[e0]at hm;have HH:=zH h;have CS:=zH (fun w'=>sub_any x.delivered x.prior hx.dl hx.pr w');have hsl:satSub x.delivered x.prior<18446744073709551616:=satSub_lt hx.dl;unfold BB.measure smp;by_cases ha:x.acked=0
 ·rw[if_pos (.inl ha)]
  have ha':((x.acked:Int)==0)=true:=by simp[ha]
  clear ha;go_enter Tryz.func188,Tryz.ntmps188
  go_wp2_with fail
  refine bodyPost_ret (results_none rfl _ _ _) rfl ?_;exact⟨⟨_,rfl⟩,HH.out.below ((Below.refl _ w).alloc (Nat.le_refl _) _),Bbd.of_below ((Below.refl _ w).alloc (Nat.le_refl _) _)⟩
 ·have ha':((x.acked:Int)==0)=false:=by rw[beq_eq_false_iff_ne];omega
  by_cases hi:x.interval=0
  ·rw[if_pos (.inr hi)]
   have hi':((x.interval:Int)==0)=true:=by simp[hi]
   clear ha hi;go_enter Tryz.func188,Tryz.ntmps188
   go_wp2_with fail
   refine bodyPost_ret (results_none rfl _ _ _) rfl ?_;exact⟨⟨_,rfl⟩,HH.out.below ((Below.refl _ w).alloc (Nat.le_refl _) _),Bbd.of_below ((Below.refl _ w).alloc (Nat.le_refl _) _)⟩
  ·have hi':((x.interval:Int)==0)=false:=by rw[beq_eq_false_iff_ne];omega
   rw[if_neg (by rintro(h | h);exact ha h;exact hi h)];obtain⟨d,hd⟩: ∃ z,satSub x.delivered x.prior=z:=⟨_,rfl⟩;rw[hd]at CS hsl ⊢;have CM:=zH (fun w'=>muldiv_any d 1000000000 x.interval hsl (by decide) hx.iv w');have hvl:mulDiv d 1000000000 x.interval<18446744073709551616:=mulDiv_lt _ _ _;obtain⟨v,hv⟩: ∃ z,mulDiv d 1000000000 x.interval=z:=⟨_,rfl⟩;rw[hv]at CM hvl ⊢;have PRE:Hid (∀ w',Below w.heap.size w w'→w'.cell? ⟨B+6,0,none⟩=some (.pointer (some ⟨B,0,none⟩))∧w'.cell? ⟨B+6,1,none⟩=some (.pointer (some ⟨B+1,0,none⟩))):=zH fun w' hB=>⟨(HH.out.below hB).m.cell 0,(HH.out.below hB).m.cell 1⟩
   have CB:=zH (fun w' hB=>wmbest_any B s.wm w' (h.below (w':=w') hB).wm);have CC:=zH (fun w' hB=>rndcount_any (B+1) s.rn w' (h.below (w':=w') hB).rn);have CU:=zH (fun w' hB=>wmupd_any B s.wm s.rn.n v hs.wm hs.rn.1 hvl w' (h.below (w':=w') hB).wm);clear ha hi hd hv hsl hvl hs h;cases hl:x.limited with
   | false=>
    rw[if_pos (.inl rfl)];clear hl;go_enter Tryz.func188,Tryz.ntmps188
    go_wp2_with fail
    go_quiet (first | (go_at_call 162;exact still (CS.out _)) | (go_at_call 156;exact still (CM.out _)))
    go_upto_region 3 with fail
    refine wp_named (fun W=>Below w.heap.size w W∧At W n0 266 #[.int .u64 x.now, .int .u64 x.delivered, .int .u64 x.prior, .int .u64 x.interval, .int .u64 x.rtt, .int .u64 x.acked, .int .u64 x.lost, .int .u64 x.flight, .bool false]) ⟨belowN ((Below.refl _ w).alloc (Nat.le_refl _) _) _,by rw[←e0];exact At.made w _ _⟩ (fun W hW=> ?_);obtain⟨hB,hA⟩:=hW;obtain⟨c0,c1⟩:=PRE.out W hB;have c8:=hA.ce 8;have HB:=zH hB;clear hB hA;go_wp2_with fail
    refine wp_region_still_tail 10 (by kernel_rfl) (by kernel_rfl) ?_;simp only[List.take_succ_cons,List.take_zero,List.drop_succ_cons,List.drop_zero];iterate 8 still_step
    still_call (still0 (CC.out _ HB.out.drew))
    still_step
    try refine wpStill_nil ?_
    change wpList _ _ _ _ _ W.drew
    go_wp2_with fail
    refine(CU.out _ HB.out.drew).mono ?_;rintro e w3 ⟨rfl,P3⟩;have X:=(HH.out.below HB.out.drew).putwm P3;have HX:=zH X;clear X P3;go_wp2_with fail
    go_end0
    exact⟨⟨_,rfl⟩,HX.out.1,(Bbd.of_below HB.out.drew).trans HX.out.2⟩
   | true=>
    by_cases hle:s.wm.v0≤v
    ·rw[if_pos (.inr hle)]
     have hle':decide ((s.wm.v0:Int)≤v)=true:=decide_eq_true (by omega);have hle2:decide (s.wm.v0≤v)=true:=decide_eq_true hle;clear hle;clear hl;go_enter Tryz.func188,Tryz.ntmps188
     go_wp2_with fail
     go_quiet (first | (go_at_call 162;exact still (CS.out _)) | (go_at_call 156;exact still (CM.out _)))
     go_upto_region 3 with fail
     refine wp_named (fun W=>Below w.heap.size w W∧At W n0 266 #[.int .u64 x.now, .int .u64 x.delivered, .int .u64 x.prior, .int .u64 x.interval, .int .u64 x.rtt, .int .u64 x.acked, .int .u64 x.lost, .int .u64 x.flight, .bool true]) ⟨belowN ((Below.refl _ w).alloc (Nat.le_refl _) _) _,by rw[←e0];exact At.made w _ _⟩ (fun W hW=> ?_);obtain⟨hB,hA⟩:=hW;obtain⟨c0,c1⟩:=PRE.out W hB;have c8:=hA.ce 8;have HB:=zH hB;clear hB hA;go_wp2_with fail
     refine(CB.out _ HB.out).mono ?_;rintro e w2 ⟨rfl,rfl⟩;go_wp2_with fail
     refine wp_region_still_tail 10 (by kernel_rfl) (by kernel_rfl) ?_;simp only[List.take_succ_cons,List.take_zero,List.drop_succ_cons,List.drop_zero];iterate 8 still_step
     still_call (still0 (CC.out _ HB.out.drew))
     still_step
     try refine wpStill_nil ?_
     change wpList _ _ _ _ _ W.drew
     go_wp2_with fail
     refine(CU.out _ HB.out.drew).mono ?_;rintro e w3 ⟨rfl,P3⟩;have X:=(HH.out.below HB.out.drew).putwm P3;have HX:=zH X;clear X P3;go_wp2_with fail
     go_end0
     exact⟨⟨_,rfl⟩,HX.out.1,(Bbd.of_below HB.out.drew).trans HX.out.2⟩
    ·rw[if_neg (by simp;omega)]
     have hle':decide ((s.wm.v0:Int)≤v)=false:=decide_eq_false (by omega);have hle2:decide (s.wm.v0≤v)=false:=decide_eq_false hle;clear hle;clear hl;go_enter Tryz.func188,Tryz.ntmps188
     go_wp2_with fail
     go_quiet (first | (go_at_call 162;exact still (CS.out _)) | (go_at_call 156;exact still (CM.out _)))
     go_upto_region 3 with fail
     refine wp_named (fun W=>Below w.heap.size w W∧At W n0 266 #[.int .u64 x.now, .int .u64 x.delivered, .int .u64 x.prior, .int .u64 x.interval, .int .u64 x.rtt, .int .u64 x.acked, .int .u64 x.lost, .int .u64 x.flight, .bool true]) ⟨belowN ((Below.refl _ w).alloc (Nat.le_refl _) _) _,by rw[←e0];exact At.made w _ _⟩ (fun W hW=> ?_);obtain⟨hB,hA⟩:=hW;obtain⟨c0,c1⟩:=PRE.out W hB;have c8:=hA.ce 8;have HB:=zH hB;clear hB hA;go_wp2_with fail
     refine(CB.out _ HB.out).mono ?_;rintro e w2 ⟨rfl,rfl⟩;go_wp2_with fail
     go_end0
     exact⟨⟨_,rfl⟩,HH.out.below HB.out,Bbd.of_below HB.out⟩
end
end Go.Proofs.YtojgokiobdpclaaGreat
