import Derived.Test.YtojgokiobdpclaaGreatP29
namespace Go.Proofs.YtojgokiobdpclaaGreat
set_option linter.unusedVariables false
set_option linter.unusedSimpArgs false
set_option maxRecDepth 8000
set_option maxHeartbeats 8000000
section
open Go.RowKit Go.Lib
theorem FqIn.flow {w:World} {g:Nat→Nat} {T b bl bt:Nat} {fp:Nat→Option Nat} {q:FQ} (h:FqIn w g T b fp bl bt q) {s:Nat} (hs:s<8):w.cell? ⟨b,9+s,none⟩=some (pval (fp s)):=
 (h.own.1.cell (9+s)).trans (fqa_flow _ _ _ _ _ _ hs)
theorem FqIn.one {w:World} {g:Nat→Nat} {T b bl bt:Nat} {fp:Nat→Option Nat} {q:FQ} (h:FqIn w g T b fp bl bt q) {s:Nat} (hs:s<8):(fp s=none∧q.fl s=none)∨ ∃ p f,fp s=some p∧q.fl s=some f∧FlAt w g (T+1+2*s) (some p) (some f):=by
 have:=h.fls s hs;cases hp:fp s with
 | none=>
  cases hf:q.fl s with
  | none=>exact .inl ⟨rfl,rfl⟩
  | some f=>rw[hp,hf]at this;exact this.elim
 | some p=>
  cases hf:q.fl s with
  | none=>rw[hp,hf]at this;exact this.elim
  | some f=>rw[hp,hf]at this;exact .inr ⟨p,f,rfl,rfl,this⟩
theorem fqhas_any (b s:Nat) (hs:s<8) (fp:Nat→Option Nat) (bl bt:Nat) (q:FQ) (g:Nat→Nat) (T:Nat) (w:World) (h:FqIn w g T b fp bl bt q):
  Calls Tryz.prog 66 #[.pointer (some ⟨b,0,none⟩), .int .i64 s] w fun e w'=>e= .returned (.bool (q.fl s).isSome)∧w=w':=by
 have CW:Hid (∀ w',Calls Tryz.prog 72 #[.int .i64 s, .int .i64 0, .int .i64 7] w' fun e w''=>e= .returned (.bool true)∧w'=w''):=zH fun w'=>(fqwithin_any s 0 7 w').mono fun e w'' ⟨h1,h2⟩=>⟨by rw[h1];simp;omega,h2⟩
 have cs:=h.flow hs;have h8:(s:Int)<8:=by omega
 rcases h.one hs with⟨hp,hf⟩ | ⟨p,f,hp,hf,_⟩
 ·rw[hp]at cs
  rw[hf];simp only[pval,Option.map_none]at cs;clear h hp hf;go_enter Tryz.func66,Tryz.ntmps66
  go_wp2_with fail
  refine(CW.out _).mono ?_;rintro e w1 ⟨rfl,rfl⟩;go_wp2_with fail
  go_ret
  exact⟨rfl,rfl⟩
 ·rw[hp]at cs
  rw[hf];simp only[pval,Option.map_some]at cs;clear h hp hf;go_enter Tryz.func66,Tryz.ntmps66
  go_wp2_with fail
  refine(CW.out _).mono ?_;rintro e w1 ⟨rfl,rfl⟩;go_wp2_with fail
  go_ret
  exact⟨rfl,rfl⟩
def placeQ (q:FQ) (s:Nat):Nat:=if placeL q.fresh q.old s≠0 then placeL q.fresh q.old s else match q.fl s with
 | none=>0
 | some f=>if f.segs=[]then 0 else 3
theorem fqplace_any (b s:Nat) (hs:s<8) (fp:Nat→Option Nat) (bl bt:Nat) (q:FQ) (hf8:q.fresh.length≤8) (ho8:q.old.length≤8) (g:Nat→Nat) (T:Nat) (w:World) (h:FqIn w g T b fp bl bt q):
  Calls Tryz.prog 67 #[.pointer (some ⟨b,0,none⟩), .int .i64 s] w fun e w'=>e= .returned (.int .i64 (placeQ q s))∧Below w.heap.size w w':=by
 have CP:Hid (∀ w',Below w.heap.size w w'→Calls Tryz.prog 104 #[.pointer (some ⟨bl,0,none⟩), .int .i64 s] w' fun e w''=>e= .returned (.int .i64 (placeL q.fresh q.old s))∧Below w'.heap.size w' w''):=zH fun w' hB=>lsplace_any bl s q.fresh q.old hf8 ho8 g (T+17) w' (h.ls.below hB)
 have cl:=h.own.1.ce 17;unfold placeQ;obtain⟨m,em⟩: ∃ m,placeL q.fresh q.old s=m:=⟨_,rfl⟩;rw[em]at CP ⊢;have HH:=zH h;have hblt:=h.own.1.lt;by_cases hm:m=0
 ·subst hm
  rw[if_neg (by simp)];rcases h.one hs with⟨hp,hf⟩ | ⟨p,f,hp,hf,hfl⟩
  ·rw[hf]
   clear h;go_enter Tryz.func67,Tryz.ntmps67
   go_wp2_with fail
   refine(CP.out _ (Below.refl _ _)).mono ?_;rintro e w1 ⟨rfl,hB⟩;have cs:=(HH.out.below hB).flow hs;rw[hp]at cs;simp only[pval,Option.map_none]at cs;have HB:=zH hB;clear hB;go_wp2_with fail
   go_ret
   exact⟨rfl,HB.out⟩
  ·rw[hf]
   have HF:=zH hfl;clear h hfl;cases hsg:f.segs with
   | nil=>
    simp only[hsg,if_true];go_enter Tryz.func67,Tryz.ntmps67
    go_wp2_with fail
    refine(CP.out _ (Below.refl _ _)).mono ?_;rintro e w1 ⟨rfl,hB⟩;have cs:=(HH.out.below hB).flow hs;rw[hp]at cs;simp only[pval,Option.map_some]at cs;obtain⟨v,k1,k2⟩:=HF.out.below hB;obtain⟨a,c,rfl,_⟩:=k2.cap_;have c3:=k1.1.ce 3;rw[hsg]at c3;simp only[List.length_nil]at c3;have HB:=zH hB;clear hB k1 k2;go_wp2_with fail
    go_ret
    exact⟨rfl,HB.out⟩
   | cons x r=>
    have hpos:(0:Int)<(r.length:Int)+1:=by omega
    simp only[hsg];rw[if_neg (by simp)];go_enter Tryz.func67,Tryz.ntmps67
    go_wp2_with fail
    refine(CP.out _ (Below.refl _ _)).mono ?_;rintro e w1 ⟨rfl,hB⟩;have cs:=(HH.out.below hB).flow hs;rw[hp]at cs;simp only[pval,Option.map_some]at cs;obtain⟨v,k1,k2⟩:=HF.out.below hB;obtain⟨a,c,rfl,_⟩:=k2.cap_;have c3:=k1.1.ce 3;rw[hsg]at c3;simp only[List.length_cons]at c3;have HB:=zH hB;clear hB k1 k2;go_wp2_with fail
    go_ret
    exact⟨rfl,HB.out⟩
 ·rw[if_pos hm]
  have hne:((m:Int)!=0)=true:=by rw[bne_iff_ne];omega
  clear h hm;go_enter Tryz.func67,Tryz.ntmps67
  go_wp2_with fail
  refine(CP.out _ (Below.refl _ _)).mono ?_;rintro e w1 ⟨rfl,hB⟩;have HB:=zH hB;clear hB;go_wp2_with fail
  go_ret
  exact⟨rfl,HB.out⟩
end
section
open Go.RowKit Go.Lib
def idleQ (q:FQ) (s long now:Nat):Bool:=match q.fl s with
 | none=>false
 | some f=>decide (placeQ q s=0)&&decide (satAdd f.since long≤now)
theorem fqidle_any (b s:Nat) (hs:s<8) (long now:Nat) (hl:long<18446744073709551616) (fp:Nat→Option Nat) (bl bt:Nat) (q:FQ) (hsi: ∀ f,q.fl s=some f→f.since<18446744073709551616) (hf8:q.fresh.length≤8) (ho8:q.old.length≤8) (g:Nat→Nat) (T:Nat) (w:World) (h:FqIn w g T b fp bl bt q):
  Calls Tryz.prog 171 #[.pointer (some ⟨b,0,none⟩), .int .i64 s, .int .u64 long, .int .u64 now] w fun e w'=>e= .returned (.bool (idleQ q s long now))∧Below w.heap.size w w':=by
 have CP:Hid (∀ w',Below w.heap.size w w'→Calls Tryz.prog 67 #[.pointer (some ⟨b,0,none⟩), .int .i64 s] w' fun e w''=>e= .returned (.int .i64 (placeQ q s))∧Below w'.heap.size w' w''):=zH fun w' hB=>fqplace_any b s hs fp bl bt q hf8 ho8 g T w' (h.below hB)
 have cs:=h.flow hs;have hs8:(s:Int)<8:=by omega
 unfold idleQ;rcases h.one hs with⟨hp,hf⟩ | ⟨p,f,hp,hf,hfl⟩
 ·rw[hp]at cs
  rw[hf];simp only[pval,Option.map_none]at cs;clear h hp hf;go_enter Tryz.func171,Tryz.ntmps171
  go_wp2_with fail
  go_ret
  exact⟨rfl,Below.refl _ _⟩
 ·rw[hp]at cs
  rw[hf];simp only[pval,Option.map_some]at cs;have hsi':=hsi f hf;have HF:=zH hfl;obtain⟨m,em⟩: ∃ m,placeQ q s=m:=⟨_,rfl⟩;rw[em]at CP;simp only
  rw[em];clear h hp hf hsi hfl;by_cases hm:m=0
  ·subst hm
   have CA:=zH (fun w'=>add_any f.since long hsi' hl w');obtain⟨t,et⟩: ∃ t,satAdd f.since long=t:=⟨_,rfl⟩;rw[et]at CA ⊢;go_enter Tryz.func171,Tryz.ntmps171
   go_wp2_with fail
   refine(CP.out _ (Below.refl _ _)).mono ?_;rintro e w1 ⟨rfl,hB⟩;obtain⟨v,k1,k2⟩:=HF.out.below hB;have c2:=k1.1.ce 2;have HB:=zH hB;clear hB k1 k2;go_wp2_with fail
   refine(CA.out _).mono ?_;rintro e w2 ⟨rfl,rfl⟩;go_wp2_with fail
   go_ret
   refine⟨?_,HB.out⟩;simp
  ·have hne:((m:Int)==0)=false:=by rw[beq_eq_false_iff_ne];omega
   rw[decide_eq_false hm,Bool.false_and];go_enter Tryz.func171,Tryz.ntmps171
   go_wp2_with fail
   refine(CP.out _ (Below.refl _ _)).mono ?_;rintro e w1 ⟨rfl,hB⟩;have HB:=zH hB;clear hB hm;go_wp2_with fail
   go_ret
   exact⟨rfl,HB.out⟩
def putF {α:Type} (f:Nat→α) (s:Nat) (x:α):Nat→α:=fun k=>if k=s then x else f k
theorem fqa_put (c:CF) (fp:Nat→Option Nat) (bl bt n s:Nat) (hs:s<8) (v:Option Nat):(fqa c fp bl bt n).setIfInBounds (9+s) (pval v)=fqa c (putF fp s v) bl bt n:=by
 match s,hs with
 | 0,_=>rfl
 | 1,_=>rfl
 | 2,_=>rfl
 | 3,_=>rfl
 | 4,_=>rfl
 | 5,_=>rfl
 | 6,_=>rfl
 | 7,_=>rfl
theorem FqIn.put_ {w:World} {g:Nat→Nat} {T b bl bt:Nat} {fp:Nat→Option Nat} {q:FQ} (h:FqIn w g T b fp bl bt q) (hT0:0<T) {s:Nat} (hs:s<8) (v:Option Nat) (x:Option FL) (u:Value) (hu:u=pval v) (hx:FlAt w g (T+1+2*s) v x):
  FqIn (w.setCell ⟨b,9+s,none⟩ u) g T b (putF fp s v) bl bt { q with fl:=putF q.fl s x }:=by
 subst hu;have gb:=h.own.2;have hG: ∀(v':Option Nat) (x':Option FL) (k:Nat),FlAt w g (T+1+2*k) v' x'→FlAt (w.setCell ⟨b,9+s,none⟩ (pval v)) g (T+1+2*k) v' x':=by
  intro v' x' k hk;cases v'<;>cases x'<;>try exact hk
  obtain⟨z,k1,k2⟩:=hk;exact⟨z,k1.other (grown_set w b (9+s) (pval v)) (by intro e;cases e;have:=k1.2;omega),k2.set_other _ (by show g b≠_;omega)⟩
 obtain⟨vf,vo,l1,l2,l3⟩:=h.ls.ex;obtain⟨pa,vt,top,ns,us,fr,t,t1,t2,t3⟩:=h.tr.ex;refine⟨?_,fun k hk=> ?_,⟨vf,vo,l1.other (grown_set w b (9+s) (pval v)) (by intro e;cases e;have:=l1.2;omega),l2.set_other _ (by show g b≠_;omega),l3.set_other _ (by show g b≠_;omega)⟩,
  ⟨pa,vt,top,ns,us,fr,t,t1.other (grown_set w b (9+s) (pval v)) (fun q hq=>by cases hq;omega),t2.other (grown_set w b (9+s) (pval v)) (fun q hq=>by cases hq;omega),t3⟩⟩
 ·rw[←fqa_put _ _ _ _ _ _ hs]
  exact h.own.put (Put.set h.own.1 (9+s))
 ·by_cases e:k=s
  ·subst e
   simp only[putF,if_true];exact hG _ _ _ hx
  ·simp only[putF,if_neg e]
   exact hG _ _ _ (h.fls k hk)
end
section
open Go.RowKit Go.Lib
def colQ (q:FQ) (now i:Nat):FQ:={ q with fl:=fun s=>if s<i∧idleQ q s 3000000000 now=true then none else q.fl s }
theorem colQ_zero (q:FQ) (now:Nat):colQ q now 0=q:=by
 unfold colQ;have:(fun s=>if s<0∧idleQ q s 3000000000 now=true then none else q.fl s)=q.fl:=funext fun s=>by rw[if_neg (by omega)]
 rw[this]
theorem colQ_idle (q:FQ) (now i:Nat):idleQ (colQ q now i) i 3000000000 now=idleQ q i 3000000000 now:=by
 have h:(colQ q now i).fl i=q.fl i:=by show(if _ then _ else _)=_;rw[if_neg (by omega)]
 have h2:placeQ (colQ q now i) i=placeQ q i:=by
  unfold placeQ;rw[h];rfl
 unfold idleQ;rw[h,h2]
theorem colQ_yes (q:FQ) (now i:Nat) (h:idleQ q i 3000000000 now=true):{ colQ q now i with fl:=putF (colQ q now i).fl i none }=colQ q now (i+1):=by
 unfold colQ;have:putF (fun s=>if s<i∧idleQ q s 3000000000 now=true then none else q.fl s) i none=fun s=>if s<i+1∧idleQ q s 3000000000 now=true then none else q.fl s:=funext fun s=>by
  unfold putF;by_cases e:s=i
  ·subst e
   rw[if_pos rfl,if_pos ⟨by omega,h⟩]
  ·rw[if_neg e]
   have:s<i↔s<i+1:=by omega
   simp only[this]
 simp only[this]
theorem colQ_no (q:FQ) (now i:Nat) (h:idleQ q i 3000000000 now=false):colQ q now i=colQ q now (i+1):=by
 unfold colQ;have:(fun s=>if s<i∧idleQ q s 3000000000 now=true then none else q.fl s)=fun s=>if s<i+1∧idleQ q s 3000000000 now=true then none else q.fl s:=funext fun s=>by
  by_cases e:s=i
  ·subst e
   rw[if_neg (by omega),if_neg (by rw[h];simp)]
  ·have:s<i↔s<i+1:=by omega
   simp only[this]
 rw[this]
theorem colQ_since {q:FQ} {now i:Nat} (h: ∀ s f,q.fl s=some f→f.since<18446744073709551616): ∀ s f,(colQ q now i).fl s=some f→f.since<18446744073709551616:=by
 intro s f hf;refine h s f ?_;have:(if s<i∧idleQ q s 3000000000 now=true then none else q.fl s)=some f:=hf;split at this
 ·cases this
 ·exact this
theorem fqcollect_any (b now:Nat) (fp:Nat→Option Nat) (bl bt:Nat) (q:FQ) (hsi: ∀ s f,q.fl s=some f→f.since<18446744073709551616) (hf8:q.fresh.length≤8) (ho8:q.old.length≤8) (g:Nat→Nat) (T:Nat) (hT0:0<T) (w:World) (hT:Tidy w g) (h:FqIn w g T b fp bl bt q):
  Calls Tryz.prog 140 #[.pointer (some ⟨b,0,none⟩), .int .u64 now] w fun e w'=>(∃ v,e= .returned v)∧Chg w w' g g T (T+1)∧ ∃ fp',FqIn w' g T b fp' bl bt (colQ q now 8):=by
 have HH:=zH h;have HT:=zH hT;clear h hT;go_enter Tryz.func140,Tryz.ntmps140
 go_wp2_with fail
 go_loopw [5] (fun v5 wr=> ∃(i:Nat) (fp':Nat→Option Nat),v5= .int .i64 i∧i≤8∧Chg w wr g g T (T+1)∧FqIn wr g T b fp' bl bt (colQ q now i)) (fun v5 _=>match v5 with | .int _ z=>8-z.toNat | _=>0)
 case atStart=>exact⟨0,fp,rfl,by omega,Chg.refl HT.out _ _,by rw[colQ_zero];exact HH.out⟩
 case round=>
  obtain⟨i,fp',rfl,hi,hC,hN⟩:=hrel;by_cases hi8:i<8
  ·have hi8':(i:Int)<8:=by omega
   have CI:=zH (fqidle_any b i hi8 3000000000 now (by decide) fp' bl bt _ (fun f hf=>colQ_since hsi i f hf) hf8 ho8 g T wr hN);rw[colQ_idle]at CI;have HC:=zH hC;have HN:=zH hN;clear hC hN;cases hid:idleQ q i 3000000000 now with
   | true=>
    rw[hid]at CI;go_wp2_with fail
    refine CI.out.mono ?_;rintro e w1 ⟨rfl,hB⟩;have N1:=HN.out.below hB;have c1:=N1.flow hi8;have f1:=N1.own.1.free (9+i);have C1:=zH ((HC.out.below hB).set (b:=b) (i:=9+i) (fun hb=>by have:=N1.own.2;have:=HC.out.old b hb;omega) (.pointer none));have N2:=zH (N1.put_ hT0 hi8 none none (.pointer none) rfl trivial);clear N1 hB;go_wp2_with fail
    go_roundw
    case rel=>exact⟨i+1,_,by simp,by omega,C1.out,by rw[←colQ_yes _ _ _ hid];exact N2.out⟩
    case measure=>simp;omega
   | false=>
    rw[hid]at CI;go_wp2_with fail
    refine CI.out.mono ?_;rintro e w1 ⟨rfl,hB⟩;have C1:=zH (HC.out.below hB);have N2:=zH (HN.out.below hB);clear hB;go_wp2_with fail
    go_roundw
    case rel=>exact⟨i+1,_,by simp,by omega,C1.out,by rw[←colQ_no _ _ _ hid];exact N2.out⟩
    case measure=>simp;omega
  ·obtain rfl:i=8:=by omega
   have HC:=zH hC;have HN:=zH hN;clear hC hN;go_wp2_with fail
   go_end0
   exact⟨⟨_,rfl⟩,HC.out,_,HN.out⟩
end
section
open Go.RowKit Go.Lib
section
variable {w w':World} {g:Nat→Nat} {row:Option Nat}
theorem FlAt.other {T:Nat} {p:Option Nat} {f:Option FL} (h:FlAt w g T p f) (hg:w.grownBy w' row) (hne: ∀ q,row=some q→g q≠T∧g q≠T+1):FlAt w' g T p f:=by
 cases p<;>cases f<;>try exact h
 obtain⟨v,h1,h2⟩:=h;exact⟨v,h1.other hg (fun e=>(hne _ e.symm).1 h1.2),h2.other hg fun q hq _=>(hne q hq).2⟩
theorem LsAt.other {T b:Nat} {fr od:List Nat} (h:LsAt w g T b fr od) (hg:w.grownBy w' row) (hne: ∀ q,row=some q→g q≠T∧g q≠T+1∧g q≠T+2):LsAt w' g T b fr od:=by
 obtain⟨vf,vo,l1,l2,l3⟩:=h.ex;exact⟨vf,vo,l1.other hg (fun e=>(hne _ e.symm).1 l1.2),l2.other hg fun q hq _=>(hne q hq).2.1,l3.other hg fun q hq _=>(hne q hq).2.2⟩
theorem TreeAt.other {T b:Nat} {ks:List KY} (h:TreeAt w g T b ks) (hg:w.grownBy w' row) (hne: ∀ q,row=some q→g q<T∨T+5≤g q):TreeAt w' g T b ks:=by
 obtain⟨pa,v,top,ns,us,fr,t,t1,t2,t3⟩:=h.ex;exact⟨pa,v,top,ns,us,fr,t,t1.other hg (fun q hq=>by have:=hne q hq;omega),t2.other hg (fun q hq=>by have:=hne q hq;omega),t3⟩
theorem FqIn.other {T b bl bt:Nat} {fp:Nat→Option Nat} {q:FQ} (h:FqIn w g T b fp bl bt q) (hg:w.grownBy w' row) (hne: ∀ q,row=some q→g q<T∨T+25≤g q):FqIn w' g T b fp bl bt q:=
 ⟨h.own.other hg (fun e=>by have:=hne _ e.symm;have:=h.own.2;omega),fun s hs=>(h.fls s hs).other hg (fun q hq=>by have:=hne q hq;omega),h.ls.other hg (fun q hq=>by have:=hne q hq;omega),h.tr.other hg (fun q hq=>by have:=hne q hq;omega)⟩
end
def fateF (q:FQ) (x:SG) (now:Nat):Nat×SG:=
 if q.c.limit≤q.n then(2,x)
 else if(match q.fl x.sock with | none=>false | some f=>decide (q.c.flowLimit≤f.segs.length))=true then(3,x)
 else if satAdd now q.c.horizon<x.stamp∧q.c.drop=true then(4,x)
 else(0,{ x with stamp:=min x.stamp (satAdd now q.c.horizon) })
end
section
open Go.RowKit Go.Lib
def sga (x:SG):Array Value:= #[.int .i64 x.sock, .int .u64 x.frm, .int .i64 x.len, .int .u64 x.stamp, .bool x.again]
theorem fqfate_any (b S now:Nat) (x:SG) (hs:x.sock<8) (hnow:now<18446744073709551616) (fp:Nat→Option Nat) (bl bt:Nat) (q:FQ) (hh:q.c.horizon<18446744073709551616) (g:Nat→Nat) (T:Nat) (hT0:0<T) (w:World) (hgS:g S=0) (hS:At w S 48 (sga x)) (h:FqIn w g T b fp bl bt q):
  Calls Tryz.prog 141 #[.pointer (some ⟨b,0,none⟩), .pointer (some ⟨S,0,none⟩), .int .u64 now] w fun e w'=>e= .returned (.int .i64 ((fateF q x now).1:Nat))∧At w' S 48 (sga (fateF q x now).2)∧w.grownBy w' (some S):=by
 obtain⟨so,fm,le,st,ag⟩:=x;simp only at hs
 have x0:=hS.ce 0;have x3:=hS.ce 3;have fx3:=hS.free 3;have cs:=h.flow hs;have q2:=h.own.1.ce 2;have q3:=h.own.1.ce 3;have q4:=h.own.1.ce 4;have q6:=h.own.1.ce 6;have q19:=h.own.1.ce 19;have hs8:(so:Int)<8:=by omega
 have CA:=zH (fun w'=>add_any now q.c.horizon hnow hh w');have HS:=zH hS;have hSb:S≠b:=by rintro rfl;have:=h.own.2;omega
 unfold fateF;simp only
 obtain⟨t,et⟩: ∃ t,satAdd now q.c.horizon=t:=⟨_,rfl⟩;rw[et]at CA ⊢;obtain⟨cf,efl⟩: ∃ c,q.c=c:=⟨_,rfl⟩;rw[efl]at q2 q3 q4 q6 CA ⊢;obtain⟨lim,el⟩: ∃ z,cf.limit=z:=⟨_,rfl⟩;obtain⟨fli,ef⟩: ∃ z,cf.flowLimit=z:=⟨_,rfl⟩;obtain⟨hor,eh⟩: ∃ z,cf.horizon=z:=⟨_,rfl⟩;obtain⟨drp,ed⟩: ∃ z,cf.drop=z:=⟨_,rfl⟩;obtain⟨n,en⟩: ∃ z,q.n=z:=⟨_,rfl⟩;rw[el]at q2 ⊢;rw[ef]at q3 ⊢;rw[eh]at q4 CA;rw[ed]at q6 ⊢;rw[en]at q19 ⊢;have H1:=zH (h.one hs);clear h hS hh;by_cases hA:lim≤n
 ·rw[if_pos hA]
  have hA':decide ((lim:Int)≤n)=true:=decide_eq_true (by omega);have hA'':decide (lim≤n)=true:=decide_eq_true (by omega);clear hA;go_enter Tryz.func141,Tryz.ntmps141
  go_wp2_with fail
  go_quiet (fail)
  go_wp2_with fail
  refine(CA.out _).mono ?_;rintro e w1 ⟨rfl,rfl⟩;go_wp2_with fail
  go_quiet (fail)
  go_wp2_with fail
  go_ret
  refine⟨rfl,HS.out, ?_⟩;first | exact by_drewN _ _ _ | exact(by_drewN w _ _).trans (by_drewN _ _ _) | exact((by_drewN w _ _).trans (by_drewN _ _ _)).trans (by_drewN _ _ _)
 ·rw[if_neg hA]
  have hA':decide ((lim:Int)≤n)=false:=decide_eq_false (by omega);have hA'':decide (lim≤n)=false:=decide_eq_false (by omega);clear hA;have em:min (st:Int) (t:Int)=((min st t:Nat):Int):=by omega
  rcases H1.out with⟨hp,hf⟩ | ⟨p,f,hp,hf,hfl⟩
  ·rw[hp]at cs
   rw[hf];simp only[pval,Option.map_none]at cs;simp only[Bool.false_eq_true,if_false];clear hp hf H1;by_cases hC:t<st
   ·have hC':decide ((t:Int)<st)=true:=decide_eq_true (by omega)
    have hC'':decide (t<st)=true:=decide_eq_true (by omega);cases drp with
    | true=>
     rw[if_pos ⟨hC,rfl⟩];clear hC;go_enter Tryz.func141,Tryz.ntmps141
     go_wp2_with fail
     go_quiet (fail)
     go_wp2_with fail
     refine(CA.out _).mono ?_;rintro e w1 ⟨rfl,rfl⟩;go_wp2_with fail
     go_quiet (fail)
     go_wp2_with fail
     refine wp_region_held_drew (S:=fun wq=>At wq S 48 (sga ⟨so,fm,le,st,ag⟩)∧wq.cell? ⟨b,6,none⟩=some (.bool true)∧w.grownBy wq (some S)) (by kernel_rfl) ⟨HS.out,q6,(by_drewN w _ _).trans ((by_drewN _ _ _).trans (by_drew _ _))⟩ (fun hHeld=> ?_);refine zt 0 ?_;refine zt 1 ?_;refine zt 2 ?_;refine zn 3 ?_;refine zn 4 ?_;refine zn 5 ?_;refine zn 6 ?_;refine zn 7 ?_;refine zn 8 ?_;refine zn 9 ?_;refine zn 10 ?_;refine zn 11 ?_;refine zn 12 ?_;refine zn 13 ?_;refine zt 14 ?_;refine zt 15 ?_;refine dnZ ?_;obtain⟨AS,q6',GS⟩:=hHeld;have HA:=zH AS;have HG:=zH GS;clear AS GS q6';go_wp2_with fail
     go_ret
     exact⟨rfl,HA.out,⟨rfl,rfl,rfl,Nat.le_refl _,fun _ _ _=>rfl⟩⟩
    | false=>
     rw[if_neg (by simp)];clear hC;go_enter Tryz.func141,Tryz.ntmps141
     go_wp2_with fail
     go_quiet (fail)
     go_wp2_with fail
     refine(CA.out _).mono ?_;rintro e w1 ⟨rfl,rfl⟩;go_wp2_with fail
     go_quiet (fail)
     go_wp2_with fail
     refine wp_region_held_drew (S:=fun wq=>At wq S 48 (sga ⟨so,fm,le,st,ag⟩)∧wq.cell? ⟨b,6,none⟩=some (.bool false)∧w.grownBy wq (some S)) (by kernel_rfl) ⟨HS.out,q6,(by_drewN w _ _).trans ((by_drewN _ _ _).trans (by_drew _ _))⟩ (fun hHeld=> ?_);refine zt 0 ?_;refine zt 1 ?_;refine zt 2 ?_;refine zn 3 ?_;refine zn 4 ?_;refine zn 5 ?_;refine zn 6 ?_;refine zn 7 ?_;refine zn 8 ?_;refine zn 9 ?_;refine zn 10 ?_;refine zn 11 ?_;refine zn 12 ?_;refine zn 13 ?_;refine zt 14 ?_;refine zt 15 ?_;refine dnZ ?_;obtain⟨AS,q6',GS⟩:=hHeld;have HA:=zH AS;have HG:=zH GS;clear AS GS q6';go_wp2_with fail
     go_ret
     refine⟨rfl, ?_, ?_⟩
     ·exact HA.out.set 3
     ·exact⟨rfl,rfl,rfl,(grown_set w S 3 (.int .u64 (min st t:Nat))).size,(grown_set w S 3 (.int .u64 (min st t:Nat))).block⟩
   ·have hC':decide ((t:Int)<st)=false:=decide_eq_false (by omega)
    have hC'':decide (t<st)=false:=decide_eq_false (by omega);rw[if_neg (fun h=>hC h.1)];clear hC;go_enter Tryz.func141,Tryz.ntmps141
    go_wp2_with fail
    go_quiet (fail)
    go_wp2_with fail
    refine(CA.out _).mono ?_;rintro e w1 ⟨rfl,rfl⟩;go_wp2_with fail
    go_quiet (fail)
    go_wp2_with fail
    refine wp_region_held_drew (S:=fun wq=>At wq S 48 (sga ⟨so,fm,le,st,ag⟩)∧wq.cell? ⟨b,6,none⟩=some (.bool drp)∧w.grownBy wq (some S)) (by kernel_rfl) ⟨HS.out,q6,(by_drewN w _ _).trans ((by_drewN _ _ _).trans (by_drew _ _))⟩ (fun hHeld=> ?_);refine zt 0 ?_;refine zt 1 ?_;refine zt 2 ?_;refine zn 3 ?_;refine zn 4 ?_;refine zn 5 ?_;refine zn 6 ?_;refine zn 7 ?_;refine zn 8 ?_;refine zn 9 ?_;refine zn 10 ?_;refine zn 11 ?_;refine zn 12 ?_;refine zn 13 ?_;refine zt 14 ?_;refine zt 15 ?_;refine dnZ ?_;obtain⟨AS,q6',GS⟩:=hHeld;have HA:=zH AS;have HG:=zH GS;clear AS GS q6';go_wp2_with fail
    go_ret
    refine⟨rfl, ?_, ?_⟩
    ·exact HA.out.set 3
    ·exact⟨rfl,rfl,rfl,(grown_set w S 3 (.int .u64 (min st t:Nat))).size,(grown_set w S 3 (.int .u64 (min st t:Nat))).block⟩
  ·rw[hp]at cs
   rw[hf];simp only[pval,Option.map_some]at cs;simp only
   obtain⟨v,k1,k2⟩:=hfl;obtain⟨a,c,rfl,_⟩:=k2.cap_;have c3:=k1.1.ce 3;obtain⟨len,elen⟩: ∃ z,f.segs.length=z:=⟨_,rfl⟩;simp only[elen]at c3 ⊢;clear hp hf H1 k1 k2 elen;by_cases hB:fli≤len
   ·rw[if_pos (by simpa using hB)]
    have hB':decide ((fli:Int)≤len)=true:=decide_eq_true (by omega);have hB'':decide (fli≤len)=true:=decide_eq_true (by omega);clear hB;go_enter Tryz.func141,Tryz.ntmps141
    go_wp2_with fail
    go_quiet (fail)
    go_wp2_with fail
    refine(CA.out _).mono ?_;rintro e w1 ⟨rfl,rfl⟩;go_wp2_with fail
    go_quiet (fail)
    go_wp2_with fail
    go_quiet (fail)
    go_wp2_with fail
    go_ret
    refine⟨rfl,HS.out, ?_⟩;first | exact by_drewN _ _ _ | exact(by_drewN w _ _).trans (by_drewN _ _ _) | exact((by_drewN w _ _).trans (by_drewN _ _ _)).trans (by_drewN _ _ _)
   ·rw[if_neg (by simpa using hB)]
    have hB':decide ((fli:Int)≤len)=false:=decide_eq_false (by omega);have hB'':decide (fli≤len)=false:=decide_eq_false (by omega);clear hB;by_cases hC:t<st
    ·have hC':decide ((t:Int)<st)=true:=decide_eq_true (by omega)
     have hC'':decide (t<st)=true:=decide_eq_true (by omega);cases drp with
     | true=>
      rw[if_pos ⟨hC,rfl⟩];clear hC;go_enter Tryz.func141,Tryz.ntmps141
      go_wp2_with fail
      go_quiet (fail)
      go_wp2_with fail
      refine(CA.out _).mono ?_;rintro e w1 ⟨rfl,rfl⟩;go_wp2_with fail
      go_quiet (fail)
      go_wp2_with fail
      go_quiet (fail)
      go_wp2_with fail
      go_ret
      refine⟨rfl,HS.out, ?_⟩;first | exact by_drewN _ _ _ | exact(by_drewN w _ _).trans (by_drewN _ _ _) | exact((by_drewN w _ _).trans (by_drewN _ _ _)).trans (by_drewN _ _ _)
     | false=>
      rw[if_neg (by simp)];clear hC;go_enter Tryz.func141,Tryz.ntmps141
      go_wp2_with fail
      go_quiet (fail)
      go_wp2_with fail
      refine(CA.out _).mono ?_;rintro e w1 ⟨rfl,rfl⟩;go_wp2_with fail
      go_quiet (fail)
      go_wp2_with fail
      go_quiet (fail)
      go_wp2_with fail
      go_ret
      refine⟨rfl, ?_, ?_⟩
      ·refine At.set (cs:=sga ⟨so,fm,le,st,ag⟩) ?_ 3
       exact HS.out
      ·first | exact(by_drewN w _ _).trans (grown_set _ _ _ _) | exact((by_drewN w _ _).trans (by_drewN _ _ _)).trans (grown_set _ _ _ _) | exact(((by_drewN w _ _).trans (by_drewN _ _ _)).trans (by_drewN _ _ _)).trans (grown_set _ _ _ _)
    ·have hC':decide ((t:Int)<st)=false:=decide_eq_false (by omega)
     have hC'':decide (t<st)=false:=decide_eq_false (by omega);rw[if_neg (fun h=>hC h.1)];clear hC;go_enter Tryz.func141,Tryz.ntmps141
     go_wp2_with fail
     go_quiet (fail)
     go_wp2_with fail
     refine(CA.out _).mono ?_;rintro e w1 ⟨rfl,rfl⟩;go_wp2_with fail
     go_quiet (fail)
     go_wp2_with fail
     go_quiet (fail)
     go_wp2_with fail
     go_ret
     refine⟨rfl, ?_, ?_⟩
     ·refine At.set (cs:=sga ⟨so,fm,le,st,ag⟩) ?_ 3
      exact HS.out
     ·first | exact(by_drewN w _ _).trans (grown_set _ _ _ _) | exact((by_drewN w _ _).trans (by_drewN _ _ _)).trans (grown_set _ _ _ _) | exact(((by_drewN w _ _).trans (by_drewN _ _ _)).trans (by_drewN _ _ _)).trans (grown_set _ _ _ _)
end
end Go.Proofs.YtojgokiobdpclaaGreat
