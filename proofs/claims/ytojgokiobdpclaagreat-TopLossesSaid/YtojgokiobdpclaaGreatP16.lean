import Derived.Test.YtojgokiobdpclaaGreatP04
import Derived.Test.YtojgokiobdpclaaGreatP09
import Derived.Shelf.SlicesE.DeleteFunc
import Derived.Shelf.SlicesE.Clone
import Derived.Shelf.SlicesQ.IndexFunc
import Derived.Lib.SliceRun
import Derived.Lib.RowBridge
import Derived.Shelf.SlGeneric
namespace Go.Proofs.YtojgokiobdpclaaGreat
set_option linter.unusedVariables false
set_option linter.unusedSimpArgs false
set_option maxRecDepth 8000
set_option maxHeartbeats 8000000
section
open Go.RowKit Go.Lib Go.Shelf Go.Sort
def Tryz.l152_ren:Go.Shelf.Ren:=⟨fun | 10=>152 | 6=>174 | n=>n,fun | 22=>39 | 23=>3 | 25=>118 | 3=>3 | 4=>4 | 0=>0 | n=>n,fun | n=>n⟩
theorem Tryz.l152:Go.Proofs.SlLaysH.n10 Tryz.prog Tryz.l152_ren where
 mixed:=by kernel_rfl
 f6:=⟨ "slices.IndexFunc[[]int,int]",by decide,Tryz.func174.trans (congrArg some (by kernel_rfl))⟩
 f10:=⟨ "slices.DeleteFunc[[]int,int]",by decide,Tryz.func152.trans (congrArg some (by kernel_rfl))⟩
 t0:=Tryz.underlying0
 a0:=Tryz.isAgg0
 z0:=Tryz.sizeOf0
 v0:=Tryz.zeroValue0
 t3:=Tryz.underlying3
 a3:=Tryz.isAgg3
 z3:=Tryz.sizeOf3
 v3:=Tryz.zeroValue3
 t4:=Tryz.underlying4
 a4:=Tryz.isAgg4
 z4:=Tryz.sizeOf4
 v4:=Tryz.zeroValue4
 t22:=Tryz.underlying39
 a22:=Tryz.isAgg39
 z22:=Tryz.sizeOf39
 v22:=Tryz.zeroValue39
 a23:=Tryz.isAgg3
 z23:=Tryz.sizeOf3
 t25:=Tryz.underlying118
 a25:=Tryz.isAgg118
 z25:=Tryz.sizeOf118
 v25:=Tryz.zeroValue118
def Tryz.l68_ren:Go.Shelf.Ren:=⟨fun | 41=>68 | n=>n,fun | 22=>38 | 23=>48 | 4=>4 | n=>n,fun | n=>n⟩
theorem Tryz.l68:Go.Proofs.SlLaysE0.n41 Tryz.prog Tryz.l68_ren where
 mixed:=by kernel_rfl
 f41:=⟨ "slices.Clone[[]canter/api.Seg,canter/api.Seg]",by decide,Tryz.func68.trans (congrArg some (by kernel_rfl))⟩
 t4:=Tryz.underlying4
 a4:=Tryz.isAgg4
 z4:=Tryz.sizeOf4
 v4:=Tryz.zeroValue4
 t22:=Tryz.underlying38
 a22:=Tryz.isAgg38
 z22:=Tryz.sizeOf38
 v22:=Tryz.zeroValue38
def Tryz.l183_ren:Go.Shelf.Ren:=⟨fun | 8=>183 | 6=>201 | n=>n,fun | 22=>44 | 23=>64 | 25=>280 | 4=>4 | 3=>3 | 0=>0 | n=>n,fun | n=>n⟩
theorem Tryz.l183:Go.Proofs.SlLaysH0.n8 Tryz.prog Tryz.l183_ren where
 mixed:=by kernel_rfl
 f6:=⟨ "slices.IndexFunc[[]canter/api.Range,canter/api.Range]",by decide,Tryz.func201.trans (congrArg some (by kernel_rfl))⟩
 f8:=⟨ "slices.ContainsFunc[[]canter/api.Range,canter/api.Range]",by decide,Tryz.func183.trans (congrArg some (by kernel_rfl))⟩
 t0:=Tryz.underlying0
 a0:=Tryz.isAgg0
 z0:=Tryz.sizeOf0
 v0:=Tryz.zeroValue0
 t3:=Tryz.underlying3
 a3:=Tryz.isAgg3
 z3:=Tryz.sizeOf3
 v3:=Tryz.zeroValue3
 t4:=Tryz.underlying4
 a4:=Tryz.isAgg4
 z4:=Tryz.sizeOf4
 v4:=Tryz.zeroValue4
 t22:=Tryz.underlying44
 a22:=Tryz.isAgg44
 z22:=Tryz.sizeOf44
 v22:=Tryz.zeroValue44
 t25:=Tryz.underlying280
 a25:=Tryz.isAgg280
 z25:=Tryz.sizeOf280
 v25:=Tryz.zeroValue280
def Rd (w:World) (v:Value) (size n:Nat) (xs:List Value):Prop:=xs.length=n*size∧
 (((∃ a c,v= .slice a 0 c)∧n=0)∨ ∃ b off cap,v= .slice (some ⟨b,off,none⟩) n cap∧b<w.heap.size∧n≤cap∧cap≤maxLen∧ ∀ j,j<n*size→w.cell? ⟨b,off+j,none⟩=xs[j]?)
section
variable {w w':World} {g:Nat→Nat} {i:Nat} {e:TypeId} {size:Nat} {v:Value} {n:Nat} {xs:List Value}
theorem Rd.below (h:Rd w v size n xs) (hb:Below w.heap.size w w'):Rd w' v size n xs:=by
 refine⟨h.1, ?_⟩;rcases h.2 with hn | ⟨b,off,cap,h1,h2,h3,h4,h5⟩
 ·exact .inl hn
 ·exact .inr ⟨b,off,cap,h1,Nat.lt_of_lt_of_le h2 hb.size,h3,h4,fun j hj=>(World.cell?_of_block (hb.block b h2)).trans (h5 j hj)⟩
theorem Sli.rd (h:Sli w g i e size v n xs):Rd w v size n xs:=by
 refine⟨h.1, ?_⟩;rcases h.form with⟨h1,h2,h3⟩ | ⟨b,off,cap,rfl,h2,h3,h4,h5⟩
 ·exact .inl ⟨⟨_,_,h1⟩,h2⟩
 ·exact .inr ⟨b,off,cap,rfl,h3,h4,h5,fun j hj=>h.cells j hj⟩
theorem Rd.own {base:Nat} (h:w.ownsRow base e size v n xs):Rd w v size n xs:=(Sli.of_own (g':=fun _=>0) (i:=0) h (fun _ _=>rfl)).rd
theorem Sli.clip {b off cap m:Nat} (h:Sli w g i e size (.slice (some ⟨b,off,none⟩) n cap) n xs) (hm:m≤n):Sli w g i e size (.slice (some ⟨b,off,none⟩) m cap) m (xs.take (m*size)):=by
 have hmn:m*size≤n*size:=Nat.mul_le_mul_right _ hm;refine⟨by rw[List.length_take,h.1];omega, ?_⟩;rcases h.2 with⟨h1,h2⟩ | ⟨b',off',cap',cur,h1,h2,h3,h4,h5,h6,h7⟩
 ·cases h1
 ·cases h1
  exact .inr ⟨b,off,cap,cur,rfl,h2,h3,by omega,h5,h6,by rw[←h7,List.take_take,Nat.min_eq_left hmn]⟩
theorem Sli.setCells {b off cap:Nat}: ∀(vs:List Value) (j:Nat) {w:World} {xs:List Value},Sli w g i e size (.slice (some ⟨b,off,none⟩) n cap) n xs→j+vs.length≤n*size→
  Sli (w.setCells b (off+j) vs) g i e size (.slice (some ⟨b,off,none⟩) n cap) n (xs.take j++vs++xs.drop (j+vs.length))
 | [],j,w,xs,h,hl=>by simpa [World.setCells]using h
 | v::r,j,w,xs,h,hl=>by
  simp only[List.length_cons]at hl;have h2:=Sli.setCells r (j+1) (h.stored j v (by omega)) (by omega);have hx:=h.1;have e:(xs.set j v).take (j+1)++r++(xs.set j v).drop (j+1+r.length)=xs.take j++(v::r)++xs.drop (j+(v::r).length):=by
   rw[List.drop_set_of_lt (by omega),List.length_cons];have e1:(xs.set j v).take (j+1)=xs.take j++[v]:=by
    rw[List.take_add_one,List.take_set_of_le (Nat.le_refl j)];simp[show j<xs.length by omega]
   rw[e1,show j+1+r.length=j+(r.length+1)from by omega];simp
  rw[e]at h2;exact h2
theorem grown_setCells (b:Nat): ∀(vs:List Value) (o:Nat) (w:World),w.grownBy (w.setCells b o vs) (some b)
 | [],o,w=>World.grownBy.refl w _
 | v::r,o,w=>(grown_set w b o v).trans (grown_setCells b r (o+1) _)
end
def ints (l:List Nat):List Value:=l.map fun k=>Value.int .i64 (k:Nat)
theorem ints_len (l:List Nat):(ints l).length=l.length:=by simp[ints]
theorem del1_any (B k x:Nat) (w:World) (hc:w.cell? ⟨B,0,none⟩=some (.int .i64 k)):
  Calls Tryz.prog 151 #[.int .i64 x, .pointer (some ⟨B,0,none⟩)] w fun e w'=>e= .returned (.bool (decide (x=k)))∧ ∃ q,w'=w.drewN q:=by
 by_cases h:x=k
 ·subst h
  go_enter Tryz.func151,Tryz.ntmps151
  go_wp2;go_ret
  exact⟨by simp,0,rfl⟩
 ·have hb:((x:Int)==(k:Int))=false:=by rw[beq_eq_false_iff_ne];omega
  have h':decide (x=k)=false:=by simpa using h
  rw[h'];clear h h';go_enter Tryz.func151,Tryz.ntmps151
  go_wp2;go_ret
  exact⟨by simp,0,rfl⟩
theorem drew_sli {w:World} {g:Nat→Nat} {i:Nat} {e:TypeId} {size:Nat} {v:Value} {n:Nat} {xs:List Value} (h:Sli w g i e size v n xs) (q:Nat):Sli (w.drewN q) g i e size v n xs:=h
theorem del_any (g:Nat→Nat) (i B k:Nat) (v:Value) (l:List Nat) (w:World) (hl:l.length≤8) (hs:Sli w g i 3 1 v l.length (ints l)) (hc:w.cell? ⟨B,0,none⟩=some (.int .i64 k)) (hB:g B≠i):
  Calls Tryz.prog 152 #[v, .func (.func 151) #[] #[.pointer (some ⟨B,0,none⟩)]] w fun e w'=>
   ∃ v',e= .returned v'∧Sli w' g i 3 1 v' (l.filter (fun x=> !decide (x=k))).length (ints (l.filter (fun x=> !decide (x=k))))∧ ∃ row,w.grownBy w' row∧ ∀ b,row=some b→g b=i:=by
 have eg: ∀ args w,(callFunc 151 args).run Tryz.prog w= .ok (.enter 151 args) w:=enters_of Tryz.func151 (by kernel_rfl) rfl;have hBlt:=World.block_lt_of_cell? _ _ hc;rcases hs.form with⟨rfl,h2,h3⟩ | ⟨b,off,cap,rfl,ht,hb,hn,hm⟩
 ·obtain rfl:l=[]:=List.eq_nil_of_length_eq_zero h2
  clear hs h2 h3;have D:Hid (∀ w',w=w'→Calls Tryz.prog 174 #[.slice none 0 0, .func (.func 151) #[] #[.pointer (some ⟨B,0,none⟩)]] w' fun e w''=>e= .returned (.int .i64 (-1))∧w'=w''):=by
   refine zH fun w' e=> ?_
   subst e;go_enter Tryz.func174,Tryz.ntmps174
   go_wp2;refine wp_loop_rounds 1 ?_;rw[rounds_succ];go_wp2;go_ret
   exact⟨rfl,rfl⟩
  go_enter Tryz.func152,Tryz.ntmps152
  go_wp2_with fail
  refine(D.out _ rfl).mono ?_;rintro e w' ⟨rfl,rfl⟩;go_wp2_with fail
  go_ret
  exact⟨_,rfl,by simpa [ints]using Sli.nil w g i _ 1,none,World.grownBy.refl w _,by simp⟩
 ·have hne:B≠b:=by rintro rfl;exact hB ht
  have hmm:=hm;unfold maxLen at hmm;have hH:Holds (fun k:Nat=>Value.int .i64 (k:Nat)) w b off l.toArray:=by
   intro j hj;have hj':j<l.length:=by simpa using hj
   refine⟨?_,hs.free _⟩;rw[hs.cells j (by omega)];simp[ints,hj']
  have hp:PredAt Tryz.prog 151 #[.pointer (some ⟨B,0,none⟩)] (fun k:Nat=>Value.int .i64 (k:Nat)) (fun x=>decide (x=k)) w:=
   fun W x hb=>del1_any B k x W ((hb.cell (p:=⟨B,0,none⟩) hBlt).trans hc)
  have hpo:PredOver Tryz.prog 151 #[.pointer (some ⟨B,0,none⟩)] (fun k:Nat=>Value.int .i64 (k:Nat)) (fun x=>decide (x=k)) b off l.toArray.size w:=
   fun n os dk x _=>del1_any B k x _ (by
    unfold sortWorld;rw[cell?_grow _ _ _ (by show B<(putRow _ _ _ _ _).heap.size;rw[size_putRow];exact hBlt),cell?_putRow_other _ _ b off _ _ (Or.inl hne)];exact hc)
  have hcon:=AnyE.slices_DeleteFunc Tryz.l152 (fun k:Nat=>Value.int .i64 (k:Nat)) (fun _=>rfl) (fun x=>decide (x=k)) 151 #[.pointer (some ⟨B,0,none⟩)] eg 0 Tryz.zeroValue3 b off cap l.toArray w hp hpo hH (by simp;omega) (by simpa using hn);change Calls Tryz.prog 152 _ _ _ at hcon
  simp only[List.size_toArray]at hcon;refine hcon.mono ?_;rintro e w' ⟨rfl,q,rfl⟩;have hf:(l.filter (fun x=> !decide (x=k))).length≤l.length:=List.length_filter_le _ _;have hlen:(l.filter (fun x=> !decide (x=k))++List.replicate (l.length-(l.filter (fun x=> !decide (x=k))).length) 0).length=l.toArray.size:=by simp;omega
  rw[Lib.putRow_eq_setCells _ w b off l.toArray _ q hH hlen];have hlen':(List.map (fun k:Nat=>Value.int .i64 (k:Nat)) (l.filter (fun x=> !decide (x=k))++List.replicate (l.length-(l.filter (fun x=> !decide (x=k))).length) 0)).length=l.length:=by rw[List.length_map,hlen];simp
  have h2:=Sli.setCells (List.map (fun k:Nat=>Value.int .i64 (k:Nat)) (l.filter (fun x=> !decide (x=k))++List.replicate (l.length-(l.filter (fun x=> !decide (x=k))).length) 0)) 0 (drew_sli hs q) (by rw[hlen'];omega);have h3:=h2.clip hf;refine⟨_,rfl, ?_,some b,(by_drewN w q (some b)).trans (grown_setCells b _ _ _),fun b' e=>by cases e;exact ht⟩;have e2:ints (l.filter (fun x=> !decide (x=k)))=List.take ((l.filter (fun x=> !decide (x=k))).length*1) (List.take 0 (ints l)++(List.map (fun k:Nat=>Value.int .i64 (k:Nat)) (l.filter (fun x=> !decide (x=k))++List.replicate (l.length-(l.filter (fun x=> !decide (x=k))).length) 0))++List.drop (0+(List.map (fun k:Nat=>Value.int .i64 (k:Nat)) (l.filter (fun x=> !decide (x=k))++List.replicate (l.length-(l.filter (fun x=> !decide (x=k))).length) 0)).length) (ints l)):=by
   rw[hlen',List.drop_eq_nil_of_le (by simp[ints])];simp only[List.take_zero,List.nil_append,List.append_nil,Nat.mul_one,List.map_append];rw[List.take_left' (by simp)];rfl
  rw[e2];exact h3
end
section
open Go.RowKit Go.Lib
section
variable {P:Program} (w:World)
theorem run_append_zeros_nil (t u ty e:TypeId) (i:TypeInfo) (z:Value) (ht:P.underlying t=some (.slice e)) (hu:P.underlying u=some (.int .i64)) (hi:P.info? e=some i) (hz:i.zero=some z)
  (size bytes:Nat) (hsize:i.size=size) (hby:i.bytes=bytes) (hzs:z.cells.size=size) (hsz:0<size) (base:Nat) (hb:base≤w.heap.size)
  (n:Nat) (h0:0<n) (h63:n≤1000000) (h48:n*bytes≤140737488355328):
  ∃ cap w',(Builtin.append_ #[t,u] ty #[.slice none 0 0, .int .i64 (n:Nat)]).run P w= .ok (.slice (some ⟨w.heap.size,0,none⟩) n cap) w'∧
   w'.ownsRow base e size (.slice (some ⟨w.heap.size,0,none⟩) 0 cap) 0 []∧n≤cap∧Below w.heap.size w w'∧w'.heap.size=w.heap.size+1:=by
 subst hsize;subst hby;have hn:n≠0:=by omega
 have hw:IntKind.i64.wrap (n:Int)=n:=by
  simp[IntKind.wrap,IntKind.bits,IntKind.signed]
  omega
 have h1: ¬((n:Int)<0):=by omega
 have h2: ¬(281474976710656<(n:Int)*(i.bytes:Int)):=by
  have:(n:Int)*(i.bytes:Int)=((n*i.bytes:Nat):Int):=by simp
  omega
 have h3: ¬(9223372036854775807<(n:Int)):=by omega
 have h4: ¬(281474976710656<Builtin.nextslicecap n 0*i.bytes):=by rw[nextslicecap_zero h0];omega
 have hge:=grownCap_ge w n 0 e;have hcm:grownCap w n 0 e≤maxLen:=grownCap_le_maxLen w n 0 e (by unfold maxLen;omega);refine⟨grownCap w n 0 e,w.drew.alloc (.cells (Builtin.zeroCells z.cells n++Builtin.zeroCells z.cells (grownCap w n 0 e-n)) e), ?_, ?_,hge, ?_,by simp⟩
 ·simp[Builtin.append_,run_underlying ht,run_underlying hu,sizeOf,typeInfo,zeroValue,hi,hz,asInt,asIntOf,hw,h1,h2,h3,h4,hn,Question.forced,run_firstCells_none,newRow,grownCap]
  exact fun h=>by have:=Nat.mul_pos h0 hsz;omega
 ·refine⟨by simp, .inr ⟨w.heap.size,_,_,rfl,hb,heap_alloc_new w.drew _,Nat.zero_le _,hcm, ?_,by simp⟩⟩
  simp only[Array.size_append,size_zeroCells,hzs,←Nat.add_mul];congr 1
  omega
 ·exact((Below.refl w.heap.size w).drew).alloc (Nat.le_refl _) _
theorem run_append_none (t ty e:TypeId) (i:TypeInfo) (ht:P.underlying t=some (.slice e)) (hi:P.info? e=some i) (a x:Option Addr) (n cap c:Nat) (hn:n≤cap):
  (Builtin.append_ #[t,t] ty #[.slice a n cap, .slice x 0 c]).run P w= .ok (.slice a n cap) w:=by
 cases a<;>cases x<;>simp[Builtin.append_,run_underlying ht,sizeOf,typeInfo,hi,Builtin.lenOf,Builtin.firstCells,loadCells,loadCellsFrom,hn,storeCells]
theorem wpList_append_none {ops:Array Oper} {rest:List Oper} {o:Oper} {a:Act} {Q:Exit→Act→World→Prop} (hgd:o.guard=none) (s x:Operand) (t:TypeId)
  (ho:o.op= .call { callee:= .builtin .append,args:= #[s,x],argTypes:= #[t,t] }) (e:TypeId) (i:TypeInfo) (ht:P.underlying t=some (.slice e)) (hi:P.info? e=some i)
  (b y:Option Addr) (n cap c:Nat) (hs:a.eval s= .slice b n cap) (hx:a.eval x= .slice y 0 c) (hn:n≤cap)
  (h:wpList P ops Q rest (a.put o.dst (.slice b n cap)) w):wpList P ops Q (o::rest) a w:=by
 refine wpList_plain hgd fun K hK=> ?_
 have hr:=run_append_none (P:=P) w t o.type e i ht hi b y n cap c hn;unfold Oper.wp execOp;simp only[ho,resolve,invoke,builtin,Sem.run_bind,Sem.run_pure,Result.andThen_ok,List.map_toArray,List.map_cons,List.map_nil,hs,hx,hr];exact hK _ _ h
theorem wpList_append_zeros {ops:Array Oper} {rest:List Oper} {o:Oper} {a:Act} {Q:Exit→Act→World→Prop} (hgd:o.guard=none) (s x:Operand) (t u:TypeId)
  (ho:o.op= .call { callee:= .builtin .append,args:= #[s,x],argTypes:= #[t,u] }) (e:TypeId) (i:TypeInfo) (z:Value) (ht:P.underlying t=some (.slice e)) (hu:P.underlying u=some (.int .i64)) (hi:P.info? e=some i) (hz:i.zero=some z)
  (size bytes:Nat) (hsize:i.size=size) (hby:i.bytes=bytes) (hzs:z.cells.size=size) (hsz:0<size) (base:Nat) (hb:base≤w.heap.size)
  (n:Nat) (h0:0<n) (h63:n≤1000000) (h48:n*bytes≤140737488355328) (hs:a.eval s= .slice none 0 0) (hx:a.eval x= .int .i64 (n:Nat))
  (h: ∀ cap w',w'.ownsRow base e size (.slice (some ⟨w.heap.size,0,none⟩) 0 cap) 0 []→n≤cap→Below w.heap.size w w'→wpList P ops Q rest (a.put o.dst (.slice (some ⟨w.heap.size,0,none⟩) n cap)) w'):wpList P ops Q (o::rest) a w:=by
 refine wpList_plain hgd fun K hK=> ?_
 obtain⟨cap,w',hr,h1,h2,h3,_⟩:=run_append_zeros_nil (P:=P) w t u o.type e i z ht hu hi hz size bytes hsize hby hzs hsz base hb n h0 h63 h48;unfold Oper.wp execOp;simp only[ho,resolve,invoke,builtin,Sem.run_bind,Sem.run_pure,Result.andThen_ok,List.map_toArray,List.map_cons,List.map_nil,hs,hx,hr];exact hK _ _ (h cap w' h1 h2 h3)
end
theorem infoI: ∃ i0:TypeInfo,Hid (Tryz.prog.info? 3=some i0∧i0.zero=some (.int .i64 0)∧i0.size=1∧i0.bytes=8):=by
 obtain⟨i0,h1,h2,h3,h4⟩:=info_parts (show(Tryz.prog.info? 3).map (fun i=>(i.zero,i.size,i.bytes))=some (some (.int .i64 0),1,8) by kernel_rfl);exact⟨i0,zH ⟨h1,h2,h3,h4⟩⟩
theorem grow_none (w:World):
  Calls Tryz.prog 173 #[.slice none 0 0, .int .i64 0] w fun e w'=>e= .returned (.slice none 0 0)∧w=w':=by
 go_enter Tryz.func173,Tryz.ntmps173
 go_wp2;go_ret
 exact⟨rfl,rfl⟩
theorem grow_some (n:Nat) (h0:0<n) (hn:n≤1000) (w:World):
  Calls Tryz.prog 173 #[.slice none 0 0, .int .i64 n] w fun e w'=> ∃ g cap,e= .returned (.slice (some ⟨g,0,none⟩) 0 cap)∧n≤cap∧w'.ownsRow w.heap.size 3 1 (.slice (some ⟨g,0,none⟩) 0 cap) 0 []∧Below w.heap.size w w':=by
 obtain⟨i0,HI⟩:=infoI;go_enter Tryz.func173,Tryz.ntmps173
 go_wp2_with (at_builtin;refine wpList_append_zeros _ rfl _ _ 39 3 rfl 3 i0 (.int .i64 0) Tryz.underlying39 Tryz.underlying3 HI.out.1 HI.out.2.1 1 8 HI.out.2.2.1 HI.out.2.2.2 rfl (by decide) w.heap.size (Nat.le_refl _) n h0 ?c1 ?c2 rfl rfl ?_)
 case c1=>omega
 case c2=>omega
 intro cap w1 h1 h2 h3;go_wp2;go_ret
 exact⟨_,cap,rfl,h2,h1,h3⟩
theorem Rd.form {w:World} {v:Value} {size n:Nat} {xs:List Value} (h:Rd w v size n xs): ∃ a cap,v= .slice a n cap∧n≤cap∧(0<n→ ∃ b off,a=some ⟨b,off,none⟩∧b<w.heap.size∧ ∀ j,j<n*size→w.cell? ⟨b,off+j,none⟩=xs[j]?):=by
 rcases h.2 with⟨h1,h2⟩ | ⟨b,off,cap,h1,h2,h3,h4,h5⟩
 ·obtain⟨a,c,h1⟩:=h1
  exact⟨a,c,by rw[h2];exact h1,by omega,fun h=>by omega⟩
 ·exact⟨_,cap,h1,h3,fun _=>⟨b,off,rfl,h2,h5⟩⟩
theorem own_cap {w:World} {base:Nat} {e:TypeId} {size n cap:Nat} {xs:List Value} {a:Option Addr} (h:w.ownsRow base e size (.slice a n cap) n xs):n≤cap:=by
 rcases h.2 with⟨h1,h2⟩ | ⟨g,cap',cur,h1,h2,h3,h4,_⟩
 ·omega
 ·cases h1;exact h4
theorem concat_any (b:Nat) (v1 v2:Value) (l1 l2:List Nat) (w:World) (hb:At w b 39 #[v1,v2]) (h1:Rd w v1 1 l1.length (ints l1)) (h2:Rd w v2 1 l2.length (ints l2)) (n1:l1.length≤8) (n2:l2.length≤8):
  Calls Tryz.prog 150 #[.slice (some ⟨b,0,none⟩) 2 2] w fun e w'=>(∃ v,e= .returned v∧Rd w' v 1 (l1++l2).length (ints (l1++l2)))∧Below w.heap.size w w':=by
 obtain⟨i0,HI⟩:=infoI;obtain⟨a1,k1,rfl,m1,r1⟩:=h1.form;obtain⟨a2,k2,rfl,m2,r2⟩:=h2.form;have c0:=hb.ce 0;have c1:=hb.ce 1;obtain⟨L1,e1⟩: ∃ L,l1.length=L:=⟨_,rfl⟩;obtain⟨L2,e2⟩: ∃ L,l2.length=L:=⟨_,rfl⟩;have q1:(ints l1).length=L1*1:=by rw[ints_len];omega
 have q2:(ints l2).length=L2*1:=by rw[ints_len];omega
 have one: ∀ l,∀ u∈ints l,u.oneCell'=true:=by
  intro l u hu;simp only[ints,List.mem_map]at hu;obtain⟨k,_,rfl⟩:=hu;rfl
 have one1:=zH (one l1);have one2:=zH (one l2);have R1:=zH r1;have R2:=zH r2;have Q1:=zH q1;have Q2:=zH q2;have hap:ints (l1++l2)=ints l1++ints l2:=by simp[ints]
 have hlen:(l1++l2).length=L1+L2:=by simp[e1,e2]
 rw[hap,hlen];rw[e1]at c0 m1 n1;rw[e2]at c1 m2 n2;replace R1:=zH (show 0<L1→_ from e1▸R1.out);replace R2:=zH (show 0<L2→_ from e2▸R2.out);clear hb h1 h2 r1 r2 one e1 e2 hap hlen q1 q2;rcases Nat.eq_zero_or_pos L1 with z1 | z1
 ·subst z1
  rcases Nat.eq_zero_or_pos L2 with z2 | z2
  ·subst z2
   have C:Hid (∀ w',w=w'→Calls Tryz.prog 173 #[.slice none 0 0, .int .i64 0] w' fun e w''=>e= .returned (.slice none 0 0)∧w'=w''):=zH (fun w' e=>by subst e;exact grow_none w);clear m1 m2 n1 n2;go_enter Tryz.func150,Tryz.ntmps150
   go_wp2_with fail
   refine wp_loop_rounds 3 ?_;rw[rounds_succ];go_wp2_with fail
   rw[rounds_succ];go_wp2_with fail
   rw[rounds_succ];go_wp2_with fail
   refine(C.out _ rfl).mono ?_;rintro e w' ⟨rfl,rfl⟩;go_wp2_with fail
   refine wp_loop_rounds 3 ?_;rw[rounds_succ];go_wp2_with (at_builtin;refine wpList_append_none _ rfl _ _ 39 rfl 3 i0 Tryz.underlying39 HI.out.1 _ _ _ _ _ rfl rfl ?a1 ?_)
   case a1=>omega
   go_wp2_with fail
   rw[rounds_succ];go_wp2_with (at_builtin;refine wpList_append_none _ rfl _ _ 39 rfl 3 i0 Tryz.underlying39 HI.out.1 _ _ _ _ _ rfl rfl ?a2 ?_)
   case a2=>omega
   go_wp2_with fail
   rw[rounds_succ];go_wp2_with fail
   go_ret
   refine⟨⟨_,rfl, ?_⟩,Below.refl _ _⟩;rw[show ints l1=[]from List.eq_nil_of_length_eq_zero Q1.out,show ints l2=[]from List.eq_nil_of_length_eq_zero Q2.out];exact⟨rfl, .inl ⟨⟨_,_,rfl⟩,rfl⟩⟩
  ·obtain⟨b2,o2,rfl,lt2,cells2⟩:=R2.out z2
   have w2:=wrap64_of L2 (by omega);have y2: ¬(L2:Int)<0:=by omega
   have CE2:=zH cells2;clear cells2;have C:Hid (∀ w',w=w'→Calls Tryz.prog 173 #[.slice none 0 0, .int .i64 L2] w' fun e w''=> ∃ g cap,e= .returned (.slice (some ⟨g,0,none⟩) 0 cap)∧L2≤cap∧w''.ownsRow w.heap.size 3 1 (.slice (some ⟨g,0,none⟩) 0 cap) 0 []∧Below w.heap.size w w''):=zH (fun w' e=>by subst e;exact grow_some L2 z2 (by omega) w);go_enter Tryz.func150,Tryz.ntmps150
   go_wp2_with fail
   refine wp_loop_rounds 3 ?_;rw[rounds_succ];go_wp2_with fail
   rw[rounds_succ];go_wp2_with fail
   rw[rounds_succ];go_wp2_with fail
   refine(C.out _ rfl).mono ?_;rintro e w1 ⟨g,cap,rfl,hcap,ho,hB⟩;have d0:w1.cell? ⟨b,0,none⟩=some (.slice a1 0 k1):=(hB.cell (World.block_lt_of_cell? _ _ c0)).trans c0;have d1:w1.cell? ⟨b,1,none⟩=some (.slice (some ⟨b2,o2,none⟩) L2 k2):=(hB.cell (World.block_lt_of_cell? _ _ c1)).trans c1;have CW:Hid (∀ j,j<L2*1→w1.cell? ⟨b2,o2+j,none⟩=(ints l2)[j]?):=zH fun j hj=>(hB.cell (p:=⟨b2,o2+j,none⟩) lt2).trans (CE2.out j hj)
   have HO:=zH ho;have HB:=zH hB;have hsz:=hB.size;clear ho hB c0 c1;go_wp2_with fail
   refine wp_loop_rounds 3 ?_;rw[rounds_succ];go_wp2_with (at_builtin;refine wpList_append_none _ rfl _ _ 39 rfl 3 i0 Tryz.underlying39 HI.out.1 _ _ _ _ _ rfl rfl ?b1 ?_)
   case b1=>omega
   go_wp2_with fail
   rw[rounds_succ];go_wp2_with (at_builtin;refine wpList_append_lies _ rfl _ _ 39 rfl w.heap.size 3 i0 (.int .i64 0) 1 8 Tryz.underlying39 HI.out.1 HI.out.2.1 HI.out.2.2.1 HI.out.2.2.2 rfl (by decide) _ 0 ([]) rfl HO.out ⟨b2,o2,none⟩ L2 _ (ints l2) rfl ?c1 ?c2 one2.out (by omega) ?c3 ?c4 ?c5 _ rfl ?_)
   case c1=>exact Q2.out
   case c2=>intro j u hu;rw[Addr.add_lit,CW.out j (by have:=(List.getElem?_eq_some_iff.1 hu).1;rw[Q2.out]at this;exact this)];exact hu
   case c3=>unfold maxLen;omega
   case c4=>omega
   case c5=>omega
   intro g2 cap2 w2' ho2 hg2 hat2 hlt2;go_wp2_with fail
   rw[rounds_succ];go_wp2_with fail
   go_ret
   refine⟨⟨_,rfl, ?_⟩, ?_⟩
   ·have hr:=Rd.own ho2
    rw[show ints l1=[]from List.eq_nil_of_length_eq_zero Q1.out,List.nil_append];simpa using hr
   ·exact HB.out.grown hg2 hsz (fun k hk=>(HO.out.lt k hk).1)
 ·obtain⟨b1,o1,rfl,lt1,cells1⟩:=R1.out z1
  have HW1:=zH (wrap64_of L1 (by omega));have y1: ¬(L1:Int)<0:=by omega
  have CE1:=zH cells1;have lt0:=World.block_lt_of_cell? _ _ c0;clear cells1;rcases Nat.eq_zero_or_pos L2 with z2 | z2
  ·subst z2
   have C:Hid (∀ w',w=w'→Calls Tryz.prog 173 #[.slice none 0 0, .int .i64 L1] w' fun e w''=> ∃ g cap,e= .returned (.slice (some ⟨g,0,none⟩) 0 cap)∧L1≤cap∧w''.ownsRow w.heap.size 3 1 (.slice (some ⟨g,0,none⟩) 0 cap) 0 []∧Below w.heap.size w w''):=zH (fun w' e=>by subst e;exact grow_some L1 z1 (Nat.le_trans n1 (by decide)) w);have hw1:=HW1.out;go_enter Tryz.func150,Tryz.ntmps150
   go_wp2_with fail
   refine wp_loop_rounds 3 ?_;rw[rounds_succ];go_wp2_with fail
   rw[rounds_succ];go_wp2_with fail
   rw[rounds_succ];go_wp2_with fail
   refine(C.out _ rfl).mono ?_;clear hw1;rintro e w1 ⟨g,cap,rfl,hcap,ho,hB⟩;have d0:w1.cell? ⟨b,0,none⟩=some (.slice (some ⟨b1,o1,none⟩) L1 k1):=(hB.cell (World.block_lt_of_cell? _ _ c0)).trans c0;have d1:w1.cell? ⟨b,1,none⟩=some (.slice a2 0 k2):=(hB.cell (World.block_lt_of_cell? _ _ c1)).trans c1;have CW1:Hid (∀ j,j<L1*1→w1.cell? ⟨b1,o1+j,none⟩=(ints l1)[j]?):=zH fun j hj=>(hB.cell (p:=⟨b1,o1+j,none⟩) lt1).trans (CE1.out j hj)
   have HO:=zH ho;have HB:=zH hB;have hsz:=hB.size;clear ho hB c0 c1;go_wp2_with fail
   refine wp_loop_rounds 3 ?_;rw[rounds_succ];go_wp2_with (at_builtin;refine wpList_append_lies _ rfl _ _ 39 rfl w.heap.size 3 i0 (.int .i64 0) 1 8 Tryz.underlying39 HI.out.1 HI.out.2.1 HI.out.2.2.1 HI.out.2.2.2 rfl (by decide) _ 0 ([]) rfl HO.out ⟨b1,o1,none⟩ L1 _ (ints l1) rfl ?c1 ?c2 one1.out (by omega) ?c3 ?c4 ?c5 _ rfl ?_)
   case c1=>exact Q1.out
   case c2=>intro j u hu;rw[Addr.add_lit,CW1.out j (by have:=(List.getElem?_eq_some_iff.1 hu).1;rw[Q1.out]at this;exact this)];exact hu
   case c3=>unfold maxLen;omega
   case c4=>omega
   case c5=>omega
   intro g2 cap2 w2' ho2 hg2 hat2 hlt2;have hne: ∀ k,k<w.heap.size→w2'.heap[k]? =w1.heap[k]? :=fun k hk=>hg2.block k (Nat.lt_of_lt_of_le hk hsz) (fun e=>by have:=(HO.out.lt k e.symm).1;omega)
   have f1:w2'.cell? ⟨b,1,none⟩=some (.slice a2 0 k2):=(World.cell?_of_block (hne b lt0)).trans d1;have hcap2:=own_cap ho2;have HO2:=zH ho2;have HG2:=zH hg2;have hsz2:=hg2.size;clear ho2 hg2 hne d0 d1;go_wp2_with fail
   rw[rounds_succ];go_wp2_with (at_builtin;refine wpList_append_none _ rfl _ _ 39 rfl 3 i0 Tryz.underlying39 HI.out.1 _ _ _ _ _ rfl rfl ?k ?_)
   case k=>omega
   go_wp2_with fail
   rw[rounds_succ];go_wp2_with fail
   go_ret
   refine⟨⟨_,rfl, ?_⟩,HB.out.grown HG2.out hsz (fun k hk=>(HO.out.lt k hk).1)⟩;have hr:=Rd.own HO2.out;rw[show ints l2=[]from List.eq_nil_of_length_eq_zero Q2.out,List.append_nil];simpa using hr
  ·obtain⟨b2,o2,rfl,lt2,cells2⟩:=R2.out z2
   have CE2:=zH cells2;clear cells2;obtain⟨S,eS⟩: ∃ S:Nat,L1+L2=S:=⟨_,rfl⟩;have hS:S≤16:=by omega
   have eS2:(L1:Int)+L2=S:=by omega
   have hS0:0<S:=by omega
   have hS1:S≤1000:=by omega
   have HWS:=zH (wrap64_of S (by omega));have yS: ¬(S:Int)<0:=Int.not_lt.mpr (Int.natCast_nonneg _);have C:Hid (∀ w',w=w'→Calls Tryz.prog 173 #[.slice none 0 0, .int .i64 S] w' fun e w''=> ∃ g cap,e= .returned (.slice (some ⟨g,0,none⟩) 0 cap)∧S≤cap∧w''.ownsRow w.heap.size 3 1 (.slice (some ⟨g,0,none⟩) 0 cap) 0 []∧Below w.heap.size w w''):=zH (fun w' e=>by subst e;exact grow_some S hS0 hS1 w);have hw1:=HW1.out;have wS:=HWS.out;go_enter Tryz.func150,Tryz.ntmps150
   go_wp2_with fail
   refine wp_loop_rounds 3 ?_;rw[rounds_succ];go_wp2_with fail
   rw[rounds_succ];go_wp2_with fail
   rw[rounds_succ];go_wp2_with fail
   refine(C.out _ rfl).mono ?_;clear wS hw1;rintro e w1 ⟨g,cap,rfl,hcap,ho,hB⟩;have d0:w1.cell? ⟨b,0,none⟩=some (.slice (some ⟨b1,o1,none⟩) L1 k1):=(hB.cell (World.block_lt_of_cell? _ _ c0)).trans c0;have d1:w1.cell? ⟨b,1,none⟩=some (.slice (some ⟨b2,o2,none⟩) L2 k2):=(hB.cell (World.block_lt_of_cell? _ _ c1)).trans c1;have CW1:Hid (∀ j,j<L1*1→w1.cell? ⟨b1,o1+j,none⟩=(ints l1)[j]?):=zH fun j hj=>(hB.cell (p:=⟨b1,o1+j,none⟩) lt1).trans (CE1.out j hj)
   have CW2:Hid (∀ j,j<L2*1→w1.cell? ⟨b2,o2+j,none⟩=(ints l2)[j]?):=zH fun j hj=>(hB.cell (p:=⟨b2,o2+j,none⟩) lt2).trans (CE2.out j hj)
   have lt2':b2<w1.heap.size:=Nat.lt_of_lt_of_le lt2 hB.size;have HO:=zH ho;have HB:=zH hB;have hsz:=hB.size;clear ho hB c0 c1;go_wp2_with fail
   refine wp_loop_rounds 3 ?_;rw[rounds_succ];go_wp2_with (at_builtin;refine wpList_append_lies _ rfl _ _ 39 rfl w.heap.size 3 i0 (.int .i64 0) 1 8 Tryz.underlying39 HI.out.1 HI.out.2.1 HI.out.2.2.1 HI.out.2.2.2 rfl (by decide) _ 0 ([]) rfl HO.out ⟨b1,o1,none⟩ L1 _ (ints l1) rfl ?c1 ?c2 one1.out (by omega) ?c3 ?c4 ?c5 _ rfl ?_)
   case c1=>exact Q1.out
   case c2=>intro j u hu;rw[Addr.add_lit,CW1.out j (by have:=(List.getElem?_eq_some_iff.1 hu).1;rw[Q1.out]at this;exact this)];exact hu
   case c3=>unfold maxLen;omega
   case c4=>omega
   case c5=>omega
   intro g2 cap2 w2' ho2 hg2 hat2 hlt2;have hne: ∀ k,k<w.heap.size→w2'.heap[k]? =w1.heap[k]? :=fun k hk=>hg2.block k (Nat.lt_of_lt_of_le hk hsz) (fun e=>by have:=(HO.out.lt k e.symm).1;omega)
   have f1:w2'.cell? ⟨b,1,none⟩=some (.slice (some ⟨b2,o2,none⟩) L2 k2):=(World.cell?_of_block (hne b lt0)).trans d1;have hcap2:=own_cap ho2;have HO2:=zH ho2;have HG2:=zH hg2;have hsz2:=hg2.size;have CW3:Hid (∀ j,j<L2*1→w2'.cell? ⟨b2,o2+j,none⟩=(ints l2)[j]?):=zH fun j hj=>(World.cell?_of_block (hne b2 lt2)).trans (CW2.out j hj)
   clear ho2 hg2 hne d0 d1;go_wp2_with fail
   rw[rounds_succ];go_wp2_with (at_builtin;refine wpList_append_lies _ rfl _ _ 39 rfl w.heap.size 3 i0 (.int .i64 0) 1 8 Tryz.underlying39 HI.out.1 HI.out.2.1 HI.out.2.2.1 HI.out.2.2.2 rfl (by decide) _ L1 (ints l1) rfl HO2.out ⟨b2,o2,none⟩ L2 _ (ints l2) rfl ?k1 ?k2 one2.out (by omega) ?k3 ?k4 ?k5 _ rfl ?_)
   case k1=>exact Q2.out
   case k2=>intro j u hu;rw[Addr.add_lit,CW3.out j (by have:=(List.getElem?_eq_some_iff.1 hu).1;rw[Q2.out]at this;exact this)];exact hu
   case k3=>unfold maxLen;omega
   case k4=>omega
   case k5=>omega
   intro g3 cap3 w3' ho3 hg3 hat3 hlt3;go_wp2_with fail
   rw[rounds_succ];go_wp2_with fail
   go_ret
   refine⟨⟨_,rfl, ?_⟩,(HB.out.grown HG2.out hsz (fun k hk=>(HO.out.lt k hk).1)).grown hg3 (Nat.le_trans hsz hsz2) (fun k hk=>(HO2.out.lt k hk).1)⟩;have hr:=Rd.own ho3;rw[eS];exact hr
end
end Go.Proofs.YtojgokiobdpclaaGreat
