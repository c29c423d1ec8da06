import Derived.Test.YtojgokiobdpclaaGreatP36
namespace Go.Proofs.YtojgokiobdpclaaGreat
set_option linter.unusedVariables false
set_option linter.unusedSimpArgs false
set_option maxRecDepth 8000
set_option maxHeartbeats 8000000
section
open Go.RowKit Go.Lib
theorem tlim_ge (rate tso most:Nat):2*tso≤tlimF rate tso most:=by unfold tlimF;omega
theorem SK.lim_le {k:SK} (h:k.ok):k.lim≤1073741824:=tlimF_le _ _ _ (tsoF_le _ _ h.m1 h.m2) h.c2
theorem SK.ok.sentF_ {k:SK} (h:k.ok) {now:Nat} (hn:now<18446744073709551616):(sentF k.sa now k.fl).ok∧(sentF k.sa now k.fl).ok2:=by
 refine⟨sentF_ok h.sa hn, ?_⟩;obtain⟨z1,z2,z3,z4⟩:=h.sa2;unfold sentF;split
 ·exact⟨z1,z2,z3,z4⟩
 ·exact⟨z1,z2,z3,z4⟩
theorem SK.snt_ok {k:SK} (h:k.ok) {now:Nat} (hn:now<18446744073709551616):(k.snt now).ok∧(k.snt now).d<18446744073709551616:=by
 have h1:=(h.sentF_ hn).1;exact⟨sentV_ok h1 hn,h1.1⟩
theorem agL_mem {l:List PC} {y:ST} {p:PC} (h:p∈agL l y):p∈l∨ ∃ x∈l,p={ x with sent:=y,lost:=false }:=by
 unfold agL at h;split at h
 ·rename_i x hx
  rcases List.mem_or_eq_of_mem_set h with h | h
  ·exact .inl h
  ·exact .inr ⟨x,List.mem_of_getElem? hx,h⟩
 ·exact .inl h
theorem agL_len (l:List PC) (y:ST):(agL l y).length=l.length:=by
 unfold agL;split
 ·exact List.length_set
 ·rfl
theorem SK.brd_no {k:SK} (h:k.los=false) (now:Nat):k.brd now={ k with sa:=sentF k.sa now k.fl,bf:=btkF k.bf (min k.tso k.uns),pcs:=k.pcs++[⟨k.e,k.bf.tk+min k.tso k.uns,k.snt now,false,false⟩],e:=k.bf.tk+min k.tso k.uns }:=by
 unfold SK.brd;rw[h];rfl
theorem SK.rg_no {k:SK} (h:k.los=false):k.rg=(k.bf.tk,k.bf.tk+min k.tso k.uns):=by unfold SK.rg;rw[h];rfl
theorem SK.ok.brd_ {k:SK} (h:k.ok) (hm:k.mayE=0) {now:Nat} (hn:now<18446744073709551616):(k.brd now).ok:=by
 obtain⟨_,hz1,_,hz3,hz4⟩:=SK.may_zero hm;obtain⟨s1,s2⟩:=h.sentF_ hn;obtain⟨t1,t2⟩:=SK.snt_ok h hn;cases hl:k.los with
 | true=>
  rw[SK.brd_los hl];exact⟨h.id,h.m1,h.m2,h.c1,h.c2,h.bf,h.e,by show(agL _ _).length≤_;rw[agL_len];exact h.len,fun p hp=>by
   rcases agL_mem hp with hp | ⟨x,hx,rfl⟩
   ·exact h.pc p hp
   ·obtain⟨p1,p2,p3,_⟩:=h.pc x hx
    exact⟨p1,p2,p3,t1,t2⟩,s1,s2,h.bb,h.out,h.at_⟩
 | false=>
  rw[SK.brd_no hl];have hu:=hz1 hl;have b1:=tsoF_le k.bb.rate k.mss h.m1 h.m2;have b2:=tsoF_ge k.bb.rate k.mss h.m1;have ht:k.tso=tsoF k.bb.rate k.mss:=rfl;have hun:k.uns=k.bf.wr-k.bf.tk:=rfl;have he:=h.e;refine⟨h.id,h.m1,h.m2,h.c1,h.c2,btkF_ok h.bf (by omega),rfl, ?_,fun p hp=> ?_,s1,s2,h.bb,h.out,h.at_⟩
  ·show(k.pcs++[_]).length≤4096
   have:=hz4 hl;simp
   omega
  ·have hp:p∈k.pcs++[⟨k.e,k.bf.tk+min k.tso k.uns,k.snt now,false,false⟩]:=hp
   rcases List.mem_append.1 hp with hp | hp
   ·obtain⟨p1,p2,p3,p4⟩:=h.pc p hp
    exact⟨p1,p2,by show p.til≤k.bf.tk+_;omega,p4⟩
   ·rw[List.mem_singleton]at hp
    subst hp;exact⟨by show k.e<k.bf.tk+_;omega,by show k.bf.tk+_≤k.e+65536;omega,Nat.le_refl _,t1,t2⟩
theorem SK.brd_same (k:SK) (now:Nat):(k.brd now).id=k.id∧(k.brd now).out=k.out∧(k.brd now).at_=k.at_∧(k.brd now).bb=k.bb∧(k.brd now).mss=k.mss∧(k.brd now).most=k.most∧(k.brd now).bf.wr=k.bf.wr∧(k.brd now).bf.ba=k.bf.ba:=by
 unfold SK.brd;split<;>exact⟨rfl,rfl,rfl,rfl,rfl,rfl,rfl,rfl⟩
theorem SK.ok.emitF_ {k:SK} (h:k.ok) (hm:k.mayE=0) {now:Nat} (hn:now<18446744073709551616):(k.emitF now).ok:=by
 have hb:=h.brd_ hm hn;obtain⟨_,_,_,hz3,_⟩:=SK.may_zero hm;obtain⟨r1,r2,r3⟩:=SK.rg_ok h hm;have hl:=SK.lim_le h;exact⟨hb.id,hb.m1,hb.m2,hb.c1,hb.c2,hb.bf,hb.e,hb.len,hb.pc,hb.sa,hb.sa2,hb.bb,by show k.out+(k.rg.2-k.rg.1)≤_;omega,satAdd_lt' _ _⟩
theorem SK.emitX_ok {k:SK} (h:k.ok) (hm:k.mayE=0) {now:Nat} (hn:now<18446744073709551616):(k.emitX now).ok:=by
 obtain⟨r1,r2,r3⟩:=SK.rg_ok h hm;have ha:=h.at_;exact⟨h.id,by show 1≤k.rg.2-k.rg.1;omega,by show k.rg.2-k.rg.1≤65536;omega,by show max now k.at_<_;omega,by show k.rg.1<_;omega⟩
theorem SK.ok.mayS_ {k:SK} (h:k.ok):k.mayS.ok:=by
 unfold SK.mayS;split
 ·obtain⟨z1,z2,z3,z4⟩:=h.sa2
  have hd:=h.sa.1;exact⟨h.id,h.m1,h.m2,h.c1,h.c2,h.bf,h.e,h.len,h.pc,limF_ok h.sa,⟨z1,z2,z3,by have:=satAdd_lt' k.sa.d k.fl;show max 1 _<_;omega⟩,h.bb,h.out,h.at_⟩
 ·exact h
theorem SK.mayS_same (k:SK):k.mayS.id=k.id∧k.mayS.out=k.out∧k.mayS.at_=k.at_∧k.mayS.bb=k.bb∧k.mayS.mss=k.mss∧k.mayS.most=k.most∧k.mayS.bf=k.bf∧k.mayS.pcs=k.pcs∧k.mayS.e=k.e:=by
 unfold SK.mayS;split<;>exact⟨rfl,rfl,rfl,rfl,rfl,rfl,rfl,rfl,rfl⟩
theorem SK.ok.donF_ {k:SK} (h:k.ok) (n:Int):(k.donF n).ok:=by
 unfold SK.donF;split
 ·exact h
 ·have:=h.out
  exact⟨h.id,h.m1,h.m2,h.c1,h.c2,h.bf,h.e,h.len,h.pc,h.sa,h.sa2,h.bb,by show k.out-_≤_;omega,h.at_⟩
theorem SK.donF_same (k:SK) (n:Int):(k.donF n).id=k.id∧(k.donF n).out≤k.out∧(k.donF n).at_=k.at_∧(k.donF n).bb=k.bb∧(k.donF n).mss=k.mss∧(k.donF n).most=k.most∧(k.donF n).bf=k.bf∧(k.donF n).pcs=k.pcs∧(k.donF n).e=k.e:=by
 unfold SK.donF;split
 ·exact⟨rfl,Nat.le_refl _,rfl,rfl,rfl,rfl,rfl,rfl,rfl⟩
 ·exact⟨rfl,Nat.sub_le _ _,rfl,rfl,rfl,rfl,rfl,rfl,rfl⟩
theorem SK.ok.write_ {k:SK} (h:k.ok) {n:Int} (hw:(k.bf.wr:Int)+n≤1000000000000):({ k with bf:=bwrF k.bf n }:SK).ok:=by
 have:(bwrF k.bf n).tk=k.bf.tk:=by unfold bwrF;split<;>rfl
 exact⟨h.id,h.m1,h.m2,h.c1,h.c2,bwrF_ok h.bf hw,by show k.e=_;rw[this];exact h.e,h.len,h.pc,h.sa,h.sa2,h.bb,h.out,h.at_⟩
end
end Go.Proofs.YtojgokiobdpclaaGreat
