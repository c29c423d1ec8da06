import Derived.Test.YtojgokiobdpclaaGreatP15
import Derived.Test.YtojgokiobdpclaaGreatP18
import Derived.Test.YtojgokiobdpclaaGreatP19
namespace Go.Proofs.YtojgokiobdpclaaGreat
set_option linter.unusedVariables false
set_option linter.unusedSimpArgs false
set_option maxRecDepth 8000
set_option maxHeartbeats 8000000
section
open Go.RowKit Go.Lib
def ackF (s:SA) (now size:Nat) (x:ST):SA:=
 let s1:SA:={ s with d:=satAdd s.d size,da:=now,mark:=if s.mark<satAdd s.d size then 0 else s.mark,acks:=satAdd s.acks size,is:=true }
 if(!s.is||decide (s.prior≤x.d))=true then { s1 with prior:=x.d,priorAt:=x.da,lim:=x.lim,sending:=satSub x.at_ x.fa,rtt:=satSub now x.at_,fa:=x.at_ }else s1
theorem ackF_ok {s:SA} {now size:Nat} {x:ST} (h:s.ok) (hn:now<18446744073709551616) (hx:x.ok):(ackF s now size x).ok:=by
 unfold ackF;dsimp only
 split
 ·exact⟨satAdd_lt,hn,hx.1,satAdd_lt,hx.2.1⟩
 ·exact⟨satAdd_lt,hn,h.2.2.1,satAdd_lt,h.2.2.2.2⟩
theorem acked_core (b:Nat) (s:SA) (now size:Nat) (x:ST) (V A S R:Nat) (hV:satAdd s.d size=V) (hA:satAdd s.acks size=A) (hS:satSub x.at_ x.fa=S) (hR:satSub now x.at_=R)
  (hs:s.ok) (hn:now<18446744073709551616) (hz:size<18446744073709551616) (hx:x.ok) (w:World) (h:At w b 224 (sam s))  :
  Calls Tryz.prog 132 #[.pointer (some ⟨b,0,none⟩), .int .u64 now, .int .u64 size,stv x] w fun e w'=>e= .returned (.tuple #[])∧Put w w' b 224 (sam (if(!s.is||decide (s.prior≤x.d))=true then { s with d:=V,da:=now,mark:=if s.mark<V then 0 else s.mark,acks:=A,is:=true,prior:=x.d,priorAt:=x.da,lim:=x.lim,sending:=S,rtt:=R,fa:=x.at_ }else { s with d:=V,da:=now,mark:=if s.mark<V then 0 else s.mark,acks:=A,is:=true })):=by
 by_cases c1:s.mark<V
 ·rw[if_pos c1]
  cases hi:s.is
  ·rw[if_pos (by simp)]
   exact acked_mf b s now size x V A S R hV hA hS hR hs hn hz hx w h c1 hi
  ·by_cases c2:s.prior≤x.d
   ·rw[if_pos (by simp[c2])]
    exact acked_mt b s now size x V A S R hV hA hS hR hs hn hz hx w h c1 hi c2
   ·rw[if_neg (by simp[c2])]
    exact acked_mn b s now size x V A S R hV hA hS hR hs hn hz hx w h c1 hi c2
 ·rw[if_neg c1]
  cases hi:s.is
  ·rw[if_pos (by simp)]
   exact acked_kf b s now size x V A S R hV hA hS hR hs hn hz hx w h c1 hi
  ·by_cases c2:s.prior≤x.d
   ·rw[if_pos (by simp[c2])]
    exact acked_kt b s now size x V A S R hV hA hS hR hs hn hz hx w h c1 hi c2
   ·rw[if_neg (by simp[c2])]
    exact acked_kn b s now size x V A S R hV hA hS hR hs hn hz hx w h c1 hi c2
theorem acked_any (b:Nat) (s:SA) (now size:Nat) (x:ST) (hs:s.ok) (hn:now<18446744073709551616) (hz:size<18446744073709551616) (hx:x.ok) (w:World) (h:At w b 224 (sam s)):
  Calls Tryz.prog 132 #[.pointer (some ⟨b,0,none⟩), .int .u64 now, .int .u64 size,stv x] w fun e w'=>e= .returned (.tuple #[])∧Put w w' b 224 (sam (ackF s now size x)):=
 acked_core b s now size x _ _ _ _ rfl rfl rfl rfl hs hn hz hx w h
end
section
open Go.RowKit Go.Lib
theorem sam0_ok:sam0.ok:=⟨by decide,by decide,by decide,by decide,by decide⟩
theorem sentF_ok {s:SA} {now f:Nat} (h:s.ok) (hn:now<18446744073709551616):(sentF s now f).ok:=by
 unfold sentF;split
 ·exact⟨h.1,hn,hn,h.2.2.2⟩
 ·exact h
theorem sentV_ok {s:SA} {now:Nat} (h:s.ok) (hn:now<18446744073709551616):(sentV s now).ok:=⟨hn,h.2.1,h.2.2.1⟩
theorem limF_ok {s:SA} {f:Nat} (h:s.ok):(limF s f).ok:=h
theorem takeF_ok {s:SA} (h:s.ok):(takeF s).ok:=⟨h.1,h.2.1,h.2.2.1,by simp[takeF],by simp[takeF]⟩
section
variable {T:TypeId}
theorem take_any (b:Nat) (s:SA) (now l f:Nat) (hs:s.ok) (hn:now<18446744073709551616) (w:World) (h:At w b 224 (sam s)):
  Calls Tryz.prog 164 #[.pointer (some ⟨b,0,none⟩), .int .u64 now, .int .u64 l, .int .u64 f] w fun e w'=>e= .returned (smp (takeV s now l f))∧Put w w' b 224 (sam (takeF s)):=by
 unfold takeV;cases hi:s.is
 ·exact take_no b s now l f w h hi
 ·exact take_yes b s now l f hs hn w h hi
theorem acked_res (b:Nat) (s s':SA) (now size:Nat) (x:ST) {N Z:Int} {V:Value} (hu:ackF s now size x=s') (hN:N=now) (hZ:Z=size) (hV:V=stv x)
  (hs:s.ok) (hn:now<18446744073709551616) (hz:size<18446744073709551616) (hx:x.ok) (w:World) (h:At w b 224 (sam s)):
  Calls Tryz.prog 132 #[.pointer (some ⟨b,0,none⟩), .int .u64 N, .int .u64 Z,V] w fun e w'=>e= .returned (.tuple #[])∧Put w w' b 224 (sam s'):=by
 subst hu hN hZ hV;exact acked_any b s now size x hs hn hz hx w h
end
end
end Go.Proofs.YtojgokiobdpclaaGreat
