import Derived.Test.YtojgokiobdpclaaGreatL2
namespace Go.Proofs.YtojgokiobdpclaaGreat
set_option linter.unusedVariables false
set_option linter.unusedSimpArgs false
set_option maxRecDepth 8000
set_option maxHeartbeats 8000000
section
open Go.RowKit Go.Lib
structure LsI (W:Nat) (m:MC) (en:Nat) (had:List (Nat×Nat)) (i:Nat) (k:SK):Prop where
 ok:m.okn (10+3*i)
 sk:m.sk 5=some k
 kq:KqI m.now W en 40 had k m.q
 stop:k.mayE≠0
 pa: ∃ nx,PaI m.q m.now nx
 time:m.now≤i*20000000000
def lsS (drops:List Bool) (i:Nat) (m:MC) (en:Nat) (had:List (Nat×Nat)):MC×Nat×List (Nat×Nat):=
 match(doF m pulD).2.2.dep with
 | x::_=>if i<60∧drops[i]? =some true then((doF (doF m pulD).2.1 (sdD 7 x.len 0)).2.1,en,had)
  else((doF (doF (doF m pulD).2.1 (sdD 7 x.len 0)).2.1 (sdD 3 0 (mrg (had++[rgn x]) en))).2.1,mrg (had++[rgn x]) en,had++[rgn x])
 | []=>if(doF m pulD).2.2.dog≠0 then((doF (doF m pulD).2.1 (clkD (doF m pulD).2.2.dog)).2.1,en,had)
  else((doF (doF (doF m pulD).2.1 (clkD ((doF m pulD).2.1.now+1000000000))).2.1 (sdD 4 0 0)).2.1,en,had)
noncomputable def msr (b:Bool) (k:SK) (m:MC):Nat:=by
 classical
 exact 2*vF k m.q+(if Rdy m.q m.now then 0 else 1)+(if b then 0 else 100)
theorem msr_ge (b:Bool) (k:SK) (m:MC):2*vF k m.q≤msr b k m∧msr b k m≤2*vF k m.q+1+(if b then 0 else 100):=by
 unfold msr;constructor
 ·omega
 ·split<;>omega
theorem msr_not {b:Bool} {k:SK} {m:MC} (h: ¬ Rdy m.q m.now):msr b k m=2*vF k m.q+1+(if b then 0 else 100):=by unfold msr;rw[if_neg h]
theorem msr_yes {b:Bool} {k:SK} {m:MC} (h:Rdy m.q m.now):msr b k m=2*vF k m.q+(if b then 0 else 100):=by unfold msr;rw[if_pos h];rfl
theorem ls_sock {W en:Nat} {had:List (Nat×Nat)} {m:MC} {n:Nat} (hm:m.okn n) (hn:n<1000000) {k:SK} (hk:m.sk 5=some k) {kind len:Int} {upto:Nat} (hd:kind=2∨kind=3∨kind=4∨kind=7) (hdok:(sdD kind len upto).ok)
  (he:tldE k (sdD kind len upto) m.now=0) (h:KqI m.now W en 40 had (tldF k (sdD kind len upto) m.now) m.q) {nx:Nat→Nat} (hp:PaI m.q m.now nx):
  (doF m (sdD kind len upto)).1=0∧(doF m (sdD kind len upto)).2.1.okn (n+1)∧(doF m (sdD kind len upto)).2.1.now=m.now∧(∃ nx',PaI (doF m (sdD kind len upto)).2.1.q (doF m (sdD kind len upto)).2.1.now nx')∧
  ∃ k',(doF m (sdD kind len upto)).2.1.sk 5=some k'∧KqI m.now W en 40 had k' (doF m (sdD kind len upto)).2.1.q∧k'.mayE≠0∧vF k' (doF m (sdD kind len upto)).2.1.q≤vF (tldF k (sdD kind len upto) m.now) m.q∧ ∀ u,Ph1 u (tldF k (sdD kind len upto) m.now) m.q→Ph1 u k' (doF m (sdD kind len upto)).2.1.q:=by
 have hok:=doF_ok hm hn hdok;have hpa:=(doF_pa hm hn hdok hp).2;have e:=do_sock hk hd he;obtain⟨k1,_⟩:=hm.ok.sk 5 k (by decide) hk;have kw:=hm.wr 5 k (by decide) hk;have hnow:m.now<18446744073709551616:=by have:=hm.ok.now;omega
 obtain⟨p1,p2,p3,p4⟩:=h.pump (by decide) hnow (tldF_ok k1 hdok (by omega) hnow) hm.ok.q;rw[e]at hok hpa ⊢;exact⟨rfl,hok,rfl,⟨_,hpa⟩,(pumpR m.now (tldF k (sdD kind len upto) m.now) m.q ou0).1,putF_at m.sk 5 _,p1,p3,p2,p4⟩
theorem ls_pul {m:MC} {n:Nat} (hm:m.okn n) (hn:n<1000000) {nx:Nat→Nat} (hp:PaI m.q m.now nx):(doF m pulD).2.1.okn (n+1)∧ ∃ nx',PaI (doF m pulD).2.1.q (doF m pulD).2.1.now nx':=
 ⟨doF_ok hm hn pulD_ok,_,(doF_pa hm hn pulD_ok hp).2⟩
theorem ls_clk {m:MC} {n t:Nat} (hm:m.okn n) (hn:n<1000000) (h1:m.now≤t) (h2:t≤4611686018427387904) {nx:Nat→Nat} (hp:PaI m.q m.now nx):
  (doF m (clkD t)).2.1={ m with now:=t }∧(doF m (clkD t)).2.1.okn (n+1)∧ ∃ nx',PaI (doF m (clkD t)).2.1.q (doF m (clkD t)).2.1.now nx':=by
 have hok:(clkD t).ok:=clkD_ok (by omega);refine⟨?_,doF_ok hm hn hok,_,(doF_pa hm hn hok hp).2⟩;rw[do_clk];have:mvN m.now t=t:=by unfold mvN;rw[if_neg (by omega),if_neg (by omega)]
 rw[this]
theorem lsS_ok {drops:List Bool} {W:Nat} (hW:W≤1000000) {m:MC} {en:Nat} {had:List (Nat×Nat)} {i:Nat} {k:SK} (h:LsI W m en had i k) (hi:i<2000):
  (∀ x r,(doF m pulD).2.2.dep=x::r→r=[]∧(¬(i<60∧drops[i]? =some true)→(doF (doF (doF m pulD).2.1 (sdD 7 x.len 0)).2.1 (sdD 3 0 (mrg (had++[rgn x]) en))).1=0))∧
  ∃ k',LsI W (lsS drops i m en had).1 (lsS drops i m en had).2.1 (lsS drops i m en had).2.2 (i+1) k'∧
   (60≤i→en<W→ ∀ b:Bool,(b=true→Ph1 en k m.q)→ ∃ b':Bool,(b'=true→Ph1 (lsS drops i m en had).2.1 k' (lsS drops i m en had).1.q)∧msr b' k' (lsS drops i m en had).1<msr b k m):=by
 obtain⟨nx,hpa⟩:=h.pa;have hnow:m.now<18446744073709551616:=by have:=h.ok.ok.now;omega
 obtain⟨p1,nx1,p2⟩:=ls_pul h.ok (by omega) hpa;have ep:=do_pul m;have hci:(deqR m.q m.now m.rt).2.c=m.q.c:=(deqR_inv h.ok.ok.q hnow m.rt).2.1;obtain⟨k1,kid⟩:=h.ok.ok.sk 5 k (by decide) h.sk;have ht:=h.time;have ht2:m.now≤(i+1)*20000000000:=Nat.le_trans ht (Nat.mul_le_mul_right _ (Nat.le_succ i));rcases pull5 h.ok.ok.q hnow m.rt h.kq.only with⟨e1,e2,e3,e4,e5⟩ | ⟨f,e0,en0,e1,e2,e3,e4,e5⟩ | ⟨x,ex,e1,e2,e3,e4⟩
 ·
  have ed:(doF m pulD).2.2.dep=[]:=by rw[ep];exact e2
  have eg:(doF m pulD).2.2.dog=0:=by rw[ep];exact e3
  refine⟨fun x r hx=>(by rw[ed]at hx;cases hx), ?_⟩;have em:(doF m pulD).2.1={ m with q:=(deqR m.q m.now m.rt).2 }:=by rw[ep]
  have eS:lsS drops i m en had=((doF (doF (doF m pulD).2.1 (clkD ((doF m pulD).2.1.now+1000000000))).2.1 (sdD 4 0 0)).2.1,en,had):=by
   unfold lsS;rw[ed];simp only
   rw[eg,if_neg (by simp)]
  rw[eS];have hn1:(doF m pulD).2.1.now=m.now:=by rw[em]
  obtain⟨c1,c2,nx2,c3⟩:=ls_clk (t:=(doF m pulD).2.1.now+1000000000) p1 (by omega) (by omega) (by rw[hn1];omega) p2;generalize hm2:(doF (doF m pulD).2.1 (clkD ((doF m pulD).2.1.now+1000000000))).2.1=m2 at c1 c2 c3
  have q2:m2.q=(deqR m.q m.now m.rt).2:=by rw[c1,em]
  have n2:m2.now=m.now+1000000000:=by rw[c1,em]
  have s2:m2.sk 5=some k:=by rw[c1,em];exact h.sk
  have hsg: ∀ s,flSegs (m2.q.fl s)=flSegs (m.q.fl s):=fun s=>by rw[q2];exact e4.segs s
  have K2:KqI m2.now W en 40 had k m2.q:=h.kq.segs (by rw[q2,hci]) hsg (by rw[n2];omega);have hok4:(sdD 4 0 0).ok:=sdD_ok (by decide) (by decide) (by decide);have kw:=h.ok.wr 5 k (by decide) h.sk;have hnow2:m2.now<18446744073709551616:=by rw[n2];omega
  obtain⟨l1,l2,l3⟩:=K2.lost (by rw[hsg];exact e1) (tldF_ok k1 hok4 (by omega) hnow2);obtain⟨_,d2,d3,d4,k',d5,d6,d7,d8,d9⟩:=ls_sock c2 (by omega) s2 (.inr (.inr (.inl rfl))) hok4 l1 l2 c3;refine⟨k',⟨?_,d5,by rw[d3];exact d6,d7,d4,by rw[d3,n2];omega⟩,fun _ hlt b hb=>⟨true,fun _=>d9 en l3, ?_⟩⟩
  ·exact d2.mono (by omega)
  ·cases b with
   | false=>
    have a1:=(msr_ge true k' (doF m2 (sdD 4 0 0)).2.1).2;have a2:=msr_not (b:=false) (k:=k) e5;have a3:=d6.v;rw[a2];simp at a1 ⊢
    omega
   | true=>
    exfalso
    obtain⟨F,L,f1,f2,f3,f4⟩:=hb rfl;rw[e1]at f4;have hF:F=[]:=by
     cases hF0:F with
     | nil=>rfl
     | cons p r=>
      rw[hF0]at f4;obtain⟨t1,t2,t3⟩:=h.kq.tile.mem p (by rw[f1,hF0];simp);rw[List.map_cons,List.filter_cons,if_pos (by simp;omega)]at f4;cases f4
    rw[hF,List.nil_append]at f1;have hfl:k.fl=0:=by
     rw[SK.fl_N k1,f1];unfold flN;rw[List.sum_eq_zero_iff_forall_eq_nat.2];intro y hy;obtain⟨p,hp,rfl⟩:=List.mem_map.1 hy;have:=f3 p hp;simp[flyB,this]
    have hout:k.out=0:=by rw[h.kq.out,e1];rfl
    have hlim:0<k.lim:=by
     have:=tlim_ge k.bb.rate k.tso k.most;have:=tso_ge h.kq.ms;unfold SK.lim;omega
    have hcw:=h.kq.cw;have hpf:=h.kq.pf;have hst:=h.stop;unfold SK.mayE at hst;by_cases hz:k.los=false∧k.uns=0
    ·obtain⟨z1,z2⟩:=hz
     have hL:L=[]:=by
      cases hL0:L with
      | nil=>rfl
      | cons p r=>
       exfalso
       have h2:=f3 p (by rw[hL0];simp);have:k.los=true:=by
        unfold SK.los;refine decide_eq_true ?_;rcases lostIx_cases k.pcs with⟨_,e⟩ | ⟨j,y,e,_⟩
        ·rw[List.find?_eq_none]at e
         exact absurd h2 (by simpa using e p (by rw[f1,hL0];simp))
        ·omega
       rw[z1]at this;cases this
     have htile:=h.kq.tile;rw[f1,hL]at htile;have htile:en=k.e:=htile;have he:=k1.e;obtain⟨b1,b2,_⟩:=k1.bf;have hwr:=h.kq.wr;unfold SK.uns at z2;omega
    ·rw[if_neg hz,if_neg (by rw[hfl,hout];omega),if_neg (by omega)]at hst
     exact hst rfl
 ·
  have ed:(doF m pulD).2.2.dep=[]:=by rw[ep];exact e2
  have eg:(doF m pulD).2.2.dog=timeF f:=by rw[ep];exact e3
  refine⟨fun x r hx=>(by rw[ed]at hx;cases hx), ?_⟩;have em:(doF m pulD).2.1={ m with q:=(deqR m.q m.now m.rt).2 }:=by rw[ep]
  have eS:lsS drops i m en had=((doF (doF m pulD).2.1 (clkD (timeF f))).2.1,en,had):=by
   unfold lsS;rw[ed];simp only
   rw[eg,if_pos (by omega)]
  rw[eS];have hn1:(doF m pulD).2.1.now=m.now:=by rw[em]
  have hsoon:=hpa.soon 5 f (by decide) e0;have hst:timeF f≤m.now+10000000000:=by
   unfold timeF;cases hs:f.segs with
   | nil=>simp
   | cons y r=>
    have:=h.kq.st y (by rw[e0];show y∈f.segs;rw[hs];simp);simp only
    omega
  obtain⟨c1,c2,nx2,c3⟩:=ls_clk (t:=timeF f) p1 (by omega) (by rw[hn1];omega) (by omega) p2;generalize hm2:(doF (doF m pulD).2.1 (clkD (timeF f))).2.1=m2 at c1 c2 c3
  have q2:m2.q=(deqR m.q m.now m.rt).2:=by rw[c1,em]
  have n2:m2.now=timeF f:=by rw[c1]
  have s2:m2.sk 5=some k:=by rw[c1,em];exact h.sk
  have hsg: ∀ s,flSegs (m2.q.fl s)=flSegs (m.q.fl s):=fun s=>by rw[q2];exact e4.segs s
  have K2:KqI m2.now W en 40 had k m2.q:=h.kq.segs (by rw[q2,hci]) hsg (by rw[n2];omega);refine⟨k,⟨c2.mono (by omega),s2,K2,h.stop,⟨_,c3⟩,by rw[n2];omega⟩,fun _ _ b hb=>⟨b,fun hbt=>(hb hbt).segs hsg, ?_⟩⟩;have hr:Rdy m2.q m2.now:=by
   obtain⟨f',g1,g2,g3⟩:=(e4 5).1 f e0;exact⟨f',by rw[q2];exact g1,by rw[g2];exact en0,by rw[n2,timeF_eq g2 g3];exact Nat.le_refl _⟩
  rw[msr_yes hr,msr_not e5,vF_segs hsg];omega
 ·
  have ed:(doF m pulD).2.2.dep=[x]:=by rw[ep];exact e2
  have em:(doF m pulD).2.1={ m with q:=(deqR m.q m.now m.rt).2 }:=by rw[ep]
  have hn1:(doF m pulD).2.1.now=m.now:=by rw[em]
  have q1:(doF m pulD).2.1.q=(deqR m.q m.now m.rt).2:=by rw[em]
  have s1:(doF m pulD).2.1.sk 5=some k:=by rw[em];exact h.sk
  generalize hm1:(doF m pulD).2.1=m1 at p1 p2 hn1 q1 s1
  have hxl:=ex.l2;have hok7:(sdD 7 x.len 0).ok:=sdD_ok (by omega) (by omega) (by decide);have hmem:x∈flSegs (m.q.fl 5):=by rw[e1];simp
  have key: ∀ had',had'=had∨had'=had++[rgn x]→(doF m1 (sdD 7 x.len 0)).2.1.okn (10+3*i+1+1)∧(doF m1 (sdD 7 x.len 0)).2.1.now=m.now∧(∃ nx',PaI (doF m1 (sdD 7 x.len 0)).2.1.q (doF m1 (sdD 7 x.len 0)).2.1.now nx')∧
    ∃ k2,(doF m1 (sdD 7 x.len 0)).2.1.sk 5=some k2∧KqI m.now W en 40 had' k2 (doF m1 (sdD 7 x.len 0)).2.1.q∧k2.mayE≠0∧vF k2 (doF m1 (sdD 7 x.len 0)).2.1.q+1≤vF k m.q∧ ∀ u,x.frm+x.len≤u→en≤u→Ph1 en k m.q→Ph1 u k2 (doF m1 (sdD 7 x.len 0)).2.1.q:=by
   intro had' hh;obtain⟨d1,d2,d3,d4,d5⟩:=h.kq.done (q':=m1.q) ex (by rw[q1,hci]) (by rw[q1];exact e1) (by rw[q1];exact e4) hh 0;rw[←hn1]at d1 d2 d3 d4 d5;obtain⟨_,g2,g3,g4,k2,g5,g6,g7,g8,g9⟩:=ls_sock p1 (by omega) s1 (.inr (.inr (.inr rfl))) hok7 d1 d2 p2;refine⟨g2,g3.trans hn1,g4,k2,g5,by rw[←hn1];exact g6,g7,by omega,fun u hu1 hu2 hu=>g9 u ?_⟩;obtain⟨F,L,f1,f2,f3,f4⟩:=hu;refine⟨F,L,by rw[d4];exact f1,f2,f3, ?_⟩;rw[e1,List.map_cons]at f4;have f5:=congrArg (List.filter (fun r:Nat×Nat=>decide (u<r.2))) f4;rw[List.filter_filter,List.filter_filter]at f5;have hcg: ∀ l:List (Nat×Nat),l.filter (fun r=>decide (u<r.2)&&decide (en<r.2))=l.filter (fun r=>decide (u<r.2)):=fun l=>List.filter_congr fun r _=>by
    by_cases hr:u<r.2
    ·have:en<r.2:=by omega
     simp[hr,this]
    ·simp[hr]
   rw[hcg,hcg,List.filter_cons,if_neg (by unfold rgn;simp;omega)]at f5;rw[q1];exact f5
  by_cases hdrop:i<60∧drops[i]? =some true
  ·refine⟨fun y r hx=> ?_, ?_⟩
   ·rw[ed]at hx;cases hx
    exact⟨rfl,fun h=>absurd hdrop h⟩
   ·have eS:lsS drops i m en had=((doF m1 (sdD 7 x.len 0)).2.1,en,had):=by
     unfold lsS;rw[ed,hm1];simp only
     rw[if_pos hdrop]
    rw[eS];obtain⟨g2,g3,g4,k2,g5,g6,g7,g8,g9⟩:=key had (.inl rfl);exact⟨k2,⟨g2.mono (by omega),g5,by rw[g3];exact g6,g7,g4,Nat.le_trans (Nat.le_of_eq g3) ht2⟩,fun h60=>by omega⟩
  ·obtain⟨g2,g3,g4,k2,g5,g6,g7,g8,g9⟩:=key (had++[rgn x]) (.inr rfl)
   have hbd:Bdy en k2.pcs (mrg (had++[rgn x]) en):=Bdy.mrg g6.had;obtain⟨u1,u2⟩:=hbd.le g6.tile;generalize hm2:(doF m1 (sdD 7 x.len 0)).2.1=m2 at g2 g3 g4 g5 g6 g7 g8 g9
   obtain⟨k2ok,_⟩:=g2.ok.sk 5 k2 (by decide) g5;obtain⟨b1,b2,_⟩:=k2ok.bf;have ke:=k2ok.e;have kwr:=g6.wr;have hok3:(sdD 3 0 (mrg (had++[rgn x]) en)).ok:=sdD_ok (by decide) (by decide) (by omega);have kw:=g2.wr 5 k2 (by decide) g5;obtain⟨nx2,g4⟩:=g4;rw[←g3]at g6;have hnow2:m2.now<18446744073709551616:=by rw[g3];exact hnow
   obtain⟨a1,a2,a3,a4⟩:=g6.acked hbd (tldF_ok k2ok hok3 (by omega) hnow2);obtain⟨z1,z2,z3,z4,k',z5,z6,z7,z8,z9⟩:=ls_sock g2 (by omega) g5 (.inr (.inl rfl)) hok3 a1 a2 g4;refine⟨fun y r hx=> ?_, ?_⟩
   ·rw[ed]at hx;cases hx
    refine⟨rfl,fun _=> ?_⟩;rw[hm2];exact z1
   ·have eS:lsS drops i m en had=((doF m2 (sdD 3 0 (mrg (had++[rgn x]) en))).2.1,mrg (had++[rgn x]) en,had++[rgn x]):=by
     unfold lsS;rw[ed,hm1];simp only
     rw[if_neg hdrop,hm2]
    rw[eS];refine⟨k',⟨z2.mono (by omega),z5,by rw[z3];exact z6,z7,z4,Nat.le_trans (Nat.le_of_eq (z3.trans g3)) ht2⟩,fun _ _ b hb=>⟨b,fun hbt=> ?_, ?_⟩⟩
    ·have hu:=hb hbt
     refine z9 _ (a4 (g9 _ ?_ u1 hu));rcases h.kq.qs x hmem with hle | ⟨p,hp,r1,r2⟩
     ·have hle:x.frm+x.len≤en:=hle
      omega
     ·have r1:p.frm=x.frm:=r1
      have r2:p.til=x.frm+x.len:=r2;obtain⟨t1,t2,t3⟩:=h.kq.tile.mem p hp;have hfe:x.frm≤en:=by
       obtain⟨F,L,f1,f2,f3,f4⟩:=hu;rw[e1,List.map_cons,List.filter_cons,if_pos (by unfold rgn;simp;omega)]at f4;cases hF:F with
       | nil=>rw[hF]at f4;cases f4
       | cons p0 r0=>
        have ht:=h.kq.tile;rw[f1,hF]at ht;obtain⟨t4,t5,_⟩:=ht;rw[hF,List.map_cons,List.filter_cons,if_pos (by simp;omega)]at f4;have:=(List.cons.inj f4).1;unfold rgn at this;have h1:x.frm=p0.frm:=congrArg Prod.fst this;omega
      exact mrg_hit (r:=rgn x) (by simp) hfe
    ·have a5:=(msr_ge b k' (doF m2 (sdD 3 0 (mrg (had++[rgn x]) en))).2.1).2
     have a6:=(msr_ge b k m).1;have a7:2*vF k m.q+(if b then 0 else 100)≤msr b k m:=by unfold msr;omega
     show msr b k' (doF m2 (sdD 3 0 (mrg (had++[rgn x]) en))).2.1<_
     omega
def lsN (drops:List Bool) (m:MC):Nat→MC×Nat×List (Nat×Nat)
 | 0=>(m,0,[])
 | i+1=>lsS drops i (lsN drops m i).1 (lsN drops m i).2.1 (lsN drops m i).2.2
theorem lsN_ok {drops:List Bool} {W:Nat} (hW:W≤1000000) {m:MC} {k:SK} (h:LsI W m 0 [] 0 k): ∀ i,i≤2000→ ∃ k',LsI W (lsN drops m i).1 (lsN drops m i).2.1 (lsN drops m i).2.2 i k'
 | 0,_=>⟨k,h⟩
 | i+1,hi=>by
  obtain⟨k1,h1⟩:=lsN_ok (drops:=drops) hW h i (by omega);obtain⟨_,k2,h2,_⟩:=lsS_ok (drops:=drops) hW h1 (by omega);exact⟨k2,h2⟩
theorem LsI.end_le {W:Nat} {m:MC} {en:Nat} {had:List (Nat×Nat)} {i:Nat} {k:SK} (h:LsI W m en had i k):en≤k.e∧k.e≤W∧(en=W→k.uns=0):=by
 obtain⟨k1,_⟩:=h.ok.ok.sk 5 k (by decide) h.sk;obtain⟨b1,b2,_⟩:=k1.bf;have he:=k1.e;have hw:=h.kq.wr;have:=h.kq.tile.le;refine⟨this,by omega,fun e=> ?_⟩;unfold SK.uns;omega
theorem lsN_less {drops:List Bool} {W:Nat} (hW:W≤1000000) {m:MC} {k:SK} (h:LsI W m 0 [] 0 k) (hno: ∀ i,i≤300→(lsN drops m i).2.1<W): ∀ t s,t≤200→s=60+t→ ∃ k' b,LsI W (lsN drops m s).1 (lsN drops m s).2.1 (lsN drops m s).2.2 s k'∧(b=true→Ph1 (lsN drops m s).2.1 k' (lsN drops m s).1.q)∧msr b k' (lsN drops m s).1+t≤181
 | 0,s,_,hs=>by
  obtain⟨k1,h1⟩:=lsN_ok (drops:=drops) hW h s (by omega);refine⟨k1,false,h1,fun e=>(by cases e), ?_⟩;have a1:=(msr_ge false k1 (lsN drops m s).1).2;have a2:=h1.kq.v;simp at a1 ⊢
  omega
 | t+1,s,ht,hs=>by
  obtain⟨r,rfl⟩: ∃ r,s=r+1:=⟨s-1,by omega⟩;obtain⟨k1,b,h1,h2,h3⟩:=lsN_less hW h hno t r (by omega) (by omega);obtain⟨_,k2,h4,h5⟩:=lsS_ok (drops:=drops) hW h1 (by omega);obtain⟨b',h6,h7⟩:=h5 (by omega) (hno _ (by omega)) b h2;refine⟨k2,b',h4,h6, ?_⟩;show msr b' k2 (lsS drops r (lsN drops m r).1 (lsN drops m r).2.1 (lsN drops m r).2.2).1+(t+1)≤181
  omega
theorem losses {drops:List Bool} {W:Nat} (hW:W≤1000000) {m:MC} {k:SK} (h:LsI W m 0 [] 0 k): ∃ j,j≤300∧(∀ i,i<j→(lsN drops m i).2.1<W)∧(lsN drops m j).2.1=W:=by
 have hle: ∀ i,i≤300→(lsN drops m i).2.1≤W:=fun i hi=>by
  obtain⟨k1,h1⟩:=lsN_ok (drops:=drops) hW h i (by omega);obtain⟨a,b,_⟩:=h1.end_le;omega
 have hex: ∃ i,i≤300∧(lsN drops m i).2.1=W:=by
  refine Classical.byContradiction fun hc=> ?_
  have hno: ∀ i,i≤300→(lsN drops m i).2.1<W:=fun i hi=>by
   have h1:=hle i hi;rcases Nat.lt_or_ge (lsN drops m i).2.1 W with h2 | h2
   ·exact h2
   ·exact absurd ⟨i,hi,by omega⟩ hc
  obtain⟨_,_,_,_,h3⟩:=lsN_less (drops:=drops) hW h hno 182 242 (by omega) (by omega);omega
 have least: ∀ n i,i≤n→n≤300→(lsN drops m i).2.1=W→ ∃ j,j≤300∧(∀ i,i<j→(lsN drops m i).2.1<W)∧(lsN drops m j).2.1=W:=by
  intro n;induction n with
  | zero=>
   intro i hi _ e;obtain rfl:i=0:=by omega
   exact⟨0,by omega,fun i hi=>by omega,e⟩
  | succ n ih=>
   intro i hi hn e;by_cases hx: ∃ j,j<i∧(lsN drops m j).2.1=W
   ·obtain⟨j,hj,ej⟩:=hx
    exact ih j (by omega) (by omega) ej
   ·refine⟨i,by omega,fun j hj=> ?_,e⟩
    have h1:=hle j (by omega);rcases Nat.lt_or_ge (lsN drops m j).2.1 W with h2 | h2
    ·exact h2
    ·exact absurd ⟨j,hj,by omega⟩ hx
 obtain⟨i,hi,e⟩:=hex;exact least 300 i hi (by omega) e
end
section
open Go.RowKit Go.Lib
def lsC (mss:Nat):CF:={ quantum:=3000,first:=15000,limit:=512,flowLimit:=512,horizon:=10000000000,maxRate:=0,drop:=false,cap:=100000,mss:=mss }
theorem lsC_ok {mss:Nat} (h1:500≤mss) (h2:mss≤1499):(lsC mss).ok:=by
 exact⟨show 100≤3000 by decide,show 3000≤65536 by decide,show 100≤15000 by decide,show 15000≤65536 by decide,show 1≤512 by decide,Nat.le_refl _,show 1≤512 by decide,Nat.le_refl _,show 10000000000≤4611686018427387904 by decide,show 0<18446744073709551616 by decide,show 1≤100000 by decide,show 100000≤1073741824 by decide,show 100≤mss by omega,show mss≤9000 by omega⟩
structure SnI (W:Nat) (m:MC) (j:Nat) (k:SK):Prop where
 ok:m.okn (1+j)
 sk:m.sk 5=some k
 kq:KqI m.now W 0 (10*j) [] k m.q
 stop:k.mayE≠0
 pa: ∃ nx,PaI m.q m.now nx
 time:m.now=0
 room:k.bf.rm=1073741824
theorem pump_room {now:Nat} (hn:now<18446744073709551616) {k:SK} {q:FQ} (o:OU) (hk:k.ok) (hq:q.inv):(pumpR now k q o).1.bf.rm=k.bf.rm:=by
 have he: ∀ k':SK,(k'.emitF now).bf.rm=k'.bf.rm:=fun k'=>by
  show(k'.brd now).bf.rm=_
  unfold SK.brd;split<;>rfl
 refine(pumpR_ind (P:=fun k' _ _=>k'.bf.rm=k.bf.rm) hn (fun k' _ _ _ _ h _ _=>(he k').trans h) (fun k' _ _ _ _ h _ _=> ?_) (fun k' _ _ _ _ h _=> ?_) hk hq (o:=o) rfl).2.2
 ·obtain⟨_,_,_,_,_,_,c7,_⟩:=SK.donF_same (k'.emitF now) (k'.emitX now).len
  rw[c7];exact(he k').trans h
 ·obtain⟨_,_,_,_,_,_,c7,_⟩:=SK.mayS_same k'
  rw[c7];exact h
theorem opn_ls {mss:Nat} (h1:500≤mss) (h2:mss≤1499): ∃ k,SnI 0 (doF (newM (lsC mss)) (sdD 1 0 0)).2.1 0 k:=by
 have hc:=lsC_ok h1 h2;have hok:(sdD 1 0 0).ok:=sdD_ok (by decide) (by decide) (by decide);have h0:=newM_ok hc;have e:doF (newM (lsC mss)) (sdD 1 0 0)=(0,{ newM (lsC mss)with sk:=putF (newM (lsC mss)).sk 5 (some (newK 5 (lsC mss))) },ou0):=by
  unfold doF;rw[if_neg (show ¬(sdD 1 0 0).kind=5 from(by decide: ¬(1:Int)=5)),if_neg (show ¬(sdD 1 0 0).kind=6 from(by decide: ¬(1:Int)=6)),if_neg (show ¬(sdD 1 0 0).kind=8 from(by decide: ¬(1:Int)=8)),if_pos (.inl rfl)];unfold oneF;rw[if_pos (show(decide (0≤(sdD 1 0 0).sock)&&decide ((sdD 1 0 0).sock<8))=true by rfl)];rfl
 have hd:=doF_ok h0 (by decide) hok;have hp:=(doF_pa h0 (by decide) hok (PaI.new rfl _)).2;rw[e]at hd hp ⊢;refine⟨newK 5 (lsC mss),hd,putF_at (newM (lsC mss)).sk 5 (some (newK 5 (lsC mss))),⟨rfl,rfl,rfl,rfl,rfl,h1,rfl,rfl,fun p hp=>(by cases hp), ?_,fun s _=>rfl,fun r hr=>(by cases hr),fun x hx=>(by cases hx),rfl, ?_, ?_,fun x hx=>(by cases hx)⟩, ?_,⟨_,hp⟩,rfl,rfl⟩
 ·show 1≤10*mss
  omega
 ·show(flSegs none).length+nLo []+(0-0+999) / 1000≤10*0
  decide
 ·show[].length+(0-0+999) / 1000≤10*0
  decide
 ·unfold SK.mayE
  rw[if_pos ⟨rfl,rfl⟩];decide
theorem snd_ls {W:Nat} {m:MC} {j:Nat} {k:SK} (h:SnI W m j k) (hj:j<4) {n:Nat} (h1:1≤n) (h2:n≤10000): ∃ k',SnI (W+n) (doF m (sdD 2 n 0)).2.1 (j+1) k':=by
 have hok:(sdD 2 n 0).ok:=sdD_ok (by omega) (by omega) (by decide);obtain⟨nx,hpa⟩:=h.pa;obtain⟨k1,_⟩:=h.ok.ok.sk 5 k (by decide) h.sk;have kw:=h.ok.wr 5 k (by decide) h.sk;have hroom:=h.room;have hE:bwrE k.bf n=0:=by
  unfold bwrE;rw[if_neg (by omega),hroom,if_neg (by omega)]
 have hF:bwrF k.bf n=⟨k.bf.wr+n,k.bf.tk,k.bf.ba,k.bf.rm⟩:=by
  unfold bwrF;rw[if_pos hE,Int.toNat_natCast]
 have e1:tldF k (sdD 2 n 0) m.now={ k with bf:=⟨k.bf.wr+n,k.bf.tk,k.bf.ba,k.bf.rm⟩ }:=by
  show(if(2:Int)=2 then({ k with bf:=bwrF k.bf n }:SK)else _)=_
  rw[if_pos rfl,hF]
 have e2:tldE k (sdD 2 n 0) m.now=0:=by
  show(if(2:Int)=2 then bwrE k.bf n else _)=_
  rw[if_pos rfl,hE]
 have hfu:({ k with bf:=⟨k.bf.wr+n,k.bf.tk,k.bf.ba,k.bf.rm⟩ }:SK).fut≤k.fut+10:=by
  unfold SK.fut SK.uns;show(k.bf.wr+n-k.bf.tk+999) / 1000≤_
  omega
 have hv:=h.kq.v;have hpf:=h.kq.pf;have hwr:=h.kq.wr;have K:KqI m.now (W+n) 0 (10*(j+1)) [] ({ k with bf:=⟨k.bf.wr+n,k.bf.tk,k.bf.ba,k.bf.rm⟩ }:SK) m.q:=by
  refine⟨h.kq.id,h.kq.c1,h.kq.c2,h.kq.c3,h.kq.c4,h.kq.ms, ?_,h.kq.tile,h.kq.sack,h.kq.cw,h.kq.only,h.kq.had,h.kq.qs,h.kq.out, ?_, ?_,h.kq.st⟩
  ·show k.bf.wr+n=W+n
   omega
  ·unfold vF at hv ⊢
   show(flSegs (m.q.fl 5)).length+nLo k.pcs+_≤_
   omega
  ·show k.pcs.length+_≤_
   omega
 have hnow:m.now<18446744073709551616:=by rw[h.time];decide
 have hd:=doF_ok h.ok (by omega) hok;have hp:=(doF_pa h.ok (by omega) hok hpa).2;have e:=do_sock h.sk (.inl rfl) e2;have kok:=tldF_ok k1 hok (by omega) hnow;rw[e1]at e kok;obtain⟨p1,p2,p3,p4⟩:=K.pump (by omega) hnow kok h.ok.ok.q;have hr:=pump_room hnow ou0 kok h.ok.ok.q;rw[e]at hd hp ⊢;exact⟨_,hd,putF_at m.sk 5 _,p1,p3,⟨_,hp⟩,h.time,hr.trans hroom⟩
def sndN (m:MC) (ns:List Nat):Nat→MC
 | 0=>m
 | i+1=>match ns[i]? with
  | none=>sndN m ns i
  | some n=>(doF (sndN m ns i) (sdD 2 n 0)).2.1
theorem sndN_ok {mss:Nat} (h1:500≤mss) (h2:mss≤1499) {ns:List Nat} (hn: ∀ n∈ns,1≤n∧n≤10000): ∀ i,i≤4→i≤ns.length→ ∃ k,SnI ((ns.take i).sum) (sndN (doF (newM (lsC mss)) (sdD 1 0 0)).2.1 ns i) i k
 | 0,_,_=>by
  obtain⟨k,hk⟩:=opn_ls h1 h2;exact⟨k,hk⟩
 | i+1,hi,hl=>by
  obtain⟨k,hk⟩:=sndN_ok h1 h2 hn i (by omega) (by omega);have hx:ns[i]? =some ns[i]:=List.getElem?_eq_getElem (by omega);obtain⟨n1,n2⟩:=hn ns[i] (List.getElem_mem (by omega));obtain⟨k',hk'⟩:=snd_ls hk (by omega) n1 n2;refine⟨k', ?_⟩;rw[List.take_succ_eq_append_getElem (by omega),List.sum_append];show SnI _ (match ns[i]? with | none=>_ | some n=>_:MC) _ _
  rw[hx];simpa using hk'
theorem SnI.start {W:Nat} {m:MC} {j:Nat} {k:SK} (h:SnI W m j k) (hj:j≤4):LsI W m 0 [] 0 k:=by
 have K:=h.kq;refine⟨h.ok.mono (by omega),h.sk,⟨K.id,K.c1,K.c2,K.c3,K.c4,K.ms,K.wr,K.tile,K.sack,K.cw,K.only,K.had,K.qs,K.out, ?_, ?_,K.st⟩,h.stop,h.pa,by rw[h.time];exact Nat.zero_le _⟩
 ·have:=K.v;omega
 ·have:=K.pf;omega
end
section
open Go.RowKit Go.Lib
theorem wrap_i (n:Int):IntKind.i64.wrap n=wrap64 n:=by
 simp[IntKind.wrap,IntKind.bits,IntKind.signed,wrap64]
 split<;>omega
theorem wrapS1 {i:Nat} (h:i<4000000):wrap64 ((i:Int)+1)=((i+1:Nat):Int):=by unfold wrap64;omega
def szF (x:Int):Nat:=1+(x%18446744073709551616%10000).toNat
def msF' (z:Int):Nat:=500+(z%18446744073709551616%1000).toNat
theorem szF_in (x:Int):1≤szF x∧szF x≤10000:=by unfold szF;omega
theorem msF_in (z:Int):500≤msF' z∧msF' z≤1499:=by unfold msF';omega
theorem cvt (x:Int): ∃ r:Nat,wrap64 ((IntKind.u64.wrap x).tmod 10000)=(r:Int)∧szF x=1+r∧r≤9999∧(IntKind.u64.wrap x).tmod 10000=(r:Int):=by
 rw[IntKind.wrap_u64];have h1:0≤x%18446744073709551616:=Int.emod_nonneg _ (by decide);refine⟨(x%18446744073709551616%10000).toNat, ?_,rfl,by omega, ?_⟩
 ·rw[Int.tmod_eq_emod_of_nonneg h1]
  unfold wrap64;omega
 ·rw[Int.tmod_eq_emod_of_nonneg h1]
  omega
theorem cvtm (z:Int): ∃ r:Nat,wrap64 ((IntKind.u64.wrap z).tmod 1000)=(r:Int)∧msF' z=500+r∧r≤999∧(IntKind.u64.wrap z).tmod 1000=(r:Int):=by
 rw[IntKind.wrap_u64];have h1:0≤z%18446744073709551616:=Int.emod_nonneg _ (by decide);refine⟨(z%18446744073709551616%1000).toNat, ?_,rfl,by omega, ?_⟩
 ·rw[Int.tmod_eq_emod_of_nonneg h1]
  unfold wrap64;omega
 ·rw[Int.tmod_eq_emod_of_nonneg h1]
  omega
def szs (xs:List Int):List Nat:=(xs.take 4).map szF
theorem szs_len (xs:List Int):(szs xs).length=min 4 xs.length:=by simp[szs]
theorem szs_at {xs:List Int} {i:Nat} (h:i<(szs xs).length): ∃ x,xs[i]? =some x∧(szs xs)[i]? =some (szF x):=by
 rw[szs_len]at h;have hx:xs[i]? =some xs[i]:=List.getElem?_eq_getElem (by omega);refine⟨_,hx, ?_⟩;unfold szs;rw[List.getElem?_map,List.getElem?_take_of_lt (by omega),hx];rfl
theorem szs_in (xs:List Int): ∀ n∈szs xs,1≤n∧n≤10000:=fun n hn=>by
 obtain⟨x,_,rfl⟩:=List.mem_map.1 hn;exact szF_in x
theorem sum_succ {ns:List Nat} {i p:Nat} (h:ns[i]? =some p):(ns.take (i+1)).sum=(ns.take i).sum+p:=by
 obtain⟨hl,rfl⟩:=List.getElem?_eq_some_iff.1 h;rw[List.take_succ_eq_append_getElem hl,List.sum_append];simp
theorem sum_le {ns:List Nat} (hn: ∀ n∈ns,1≤n∧n≤10000): ∀ i,(ns.take i).sum≤10000*i
 | 0=>by simp
 | i+1=>by
  have ih:=sum_le hn i;cases h:ns[i]? with
  | none=>
   rw[List.getElem?_eq_none_iff]at h;rw[List.take_of_length_le h]at ih;rw[List.take_of_length_le (by omega)];omega
  | some p=>
   rw[sum_succ h];have:=(hn p (List.mem_of_getElem? h)).2;omega
theorem sndN_succ {m:MC} {ns:List Nat} {i n:Nat} (h:ns[i]? =some n):sndN m ns (i+1)=(doF (sndN m ns i) (sdD 2 n 0)).2.1:=by
 show(match ns[i]? with | none=>_ | some n=>_:MC)=_
 rw[h]
theorem timeF_lt {f:FL} (h:f.ok):timeF f<18446744073709551616:=by
 unfold timeF;split
 ·decide
 ·rename_i x r e
  have h1:=h.nx;have h2:=(h.sg x (by rw[e];simp)).st;omega
theorem ls_pull {W:Nat} {m:MC} {en:Nat} {had:List (Nat×Nat)} {i:Nat} {k:SK} (h:LsI W m en had i k) (hW:W≤1000000):
  (doF m pulD).1=0∧(doF m pulD).2.1.now=m.now∧(((doF m pulD).2.2.dep=[]∧(doF m pulD).2.2.dog<18446744073709551616)∨ ∃ zs zf zl zt za,(doF m pulD).2.2.dep=[⟨zs,zf,zl,zt,za⟩]∧zl≤65536∧zf+zl≤1000000):=by
 have hnow:m.now<18446744073709551616:=by have:=h.ok.ok.now;omega
 rw[do_pul];refine⟨rfl,rfl, ?_⟩;rcases pull5 h.ok.ok.q hnow m.rt h.kq.only with⟨e1,e2,e3,_⟩ | ⟨f,e0,_,_,e2,e3,_⟩ | ⟨x,ex,e1,e2,_,_⟩
 ·exact .inl ⟨e2,by show(pullO _ _).dog<_;rw[e3];decide⟩
 ·exact .inl ⟨e2,by show(pullO _ _).dog<_;rw[e3];exact timeF_lt (h.ok.ok.q.fl 5 f e0)⟩
 ·right
  have hr:=h.kq.qs x (by rw[e1];simp);obtain⟨h1,h2,_⟩:=h.end_le;have hle:x.frm+x.len≤1000000:=by
   rcases hr with hr | ⟨p,hp,e3,e4⟩
   ·have:x.frm+x.len≤en:=hr
    omega
   ·have:=(h.kq.tile.mem p hp).2.2
    have:p.til=x.frm+x.len:=e4;omega
  obtain⟨zs,zf,zl,zt,za⟩:=x;exact⟨zs,zf,zl,zt,za,e2,ex.l2,hle⟩
theorem lsS_drop {drops:List Bool} {i:Nat} {m:MC} {en:Nat} {had:List (Nat×Nat)} {x:SG} (e:(doF m pulD).2.2.dep=[x]) (hd:i<60∧drops[i]? =some true):
  lsS drops i m en had=((doF (doF m pulD).2.1 (sdD 7 x.len 0)).2.1,en,had):=by
 unfold lsS;rw[e];simp only
 rw[if_pos hd]
theorem lsS_ack {drops:List Bool} {i:Nat} {m:MC} {en:Nat} {had:List (Nat×Nat)} {x:SG} (e:(doF m pulD).2.2.dep=[x]) (hd: ¬(i<60∧drops[i]? =some true)):
  lsS drops i m en had=((doF (doF (doF m pulD).2.1 (sdD 7 x.len 0)).2.1 (sdD 3 0 (mrg (had++[rgn x]) en))).2.1,mrg (had++[rgn x]) en,had++[rgn x]):=by
 unfold lsS;rw[e];simp only
 rw[if_neg hd]
theorem lsS_clk {drops:List Bool} {i:Nat} {m:MC} {en:Nat} {had:List (Nat×Nat)} (e:(doF m pulD).2.2.dep=[]) (hd:(doF m pulD).2.2.dog≠0):
  lsS drops i m en had=((doF (doF m pulD).2.1 (clkD (doF m pulD).2.2.dog)).2.1,en,had):=by
 unfold lsS;rw[e];simp only
 rw[if_pos hd]
theorem lsS_los {drops:List Bool} {i:Nat} {m:MC} {en:Nat} {had:List (Nat×Nat)} (e:(doF m pulD).2.2.dep=[]) (hd:(doF m pulD).2.2.dog=0):
  lsS drops i m en had=((doF (doF (doF m pulD).2.1 (clkD ((doF m pulD).2.1.now+1000000000))).2.1 (sdD 4 0 0)).2.1,en,had):=by
 unfold lsS;rw[e];simp only
 rw[if_neg (by rw[hd];simp)]
theorem lsS_len (drops:List Bool) (i:Nat) (m:MC) (en:Nat) (had:List (Nat×Nat)):(lsS drops i m en had).2.2.length≤had.length+1:=by
 unfold lsS;split
 ·split<;>simp
 ·split<;>simp
theorem lsN_len (drops:List Bool) (m:MC): ∀ i,(lsN drops m i).2.2.length≤i
 | 0=>Nat.le_refl 0
 | i+1=>Nat.le_trans (lsS_len _ _ _ _ _) (Nat.succ_le_succ (lsN_len drops m i))
theorem mrg1_succ {l:List (Nat×Nat)} {n:Nat} {r:Nat×Nat} (h:l[n]? =some r) (u:Nat):mrg1 (l.take (n+1)) u=if r.1≤mrg1 (l.take n) u then max (mrg1 (l.take n) u) r.2 else mrg1 (l.take n) u:=by
 obtain⟨hl,rfl⟩:=List.getElem?_eq_some_iff.1 h;unfold mrg1;rw[List.take_succ_eq_append_getElem hl,List.foldl_append];rfl
theorem rgl_two {l:List (Nat×Nat)} {n:Nat} {r:Nat×Nat} (h:l[n]? =some r):(l.flatMap rgl)[n*2]? =some (.int .u64 r.1)∧(l.flatMap rgl)[n*2+1]? =some (.int .u64 r.2):=
 ⟨flat_at rgl_len h 0 (by decide),flat_at rgl_len h 1 (by decide)⟩
theorem rgl_snoc (l:List (Nat×Nat)) (r:Nat×Nat):(l++[r]).flatMap rgl=l.flatMap rgl++[.int .u64 r.1, .int .u64 r.2]:=by
 rw[List.flatMap_append];simp[rgl]
end
end Go.Proofs.YtojgokiobdpclaaGreat
