/- The walk of AuditAgain. -/
import Derived.Test.YtojgpgjmcamfoaaLaw27
import Derived.Test.YtojgpgjmcamfoaaSegR
namespace Go.Proofs.Ytojgpgjmcamfoaa
open Go.RowKit Go.Lib
set_option linter.unusedVariables false

def agn (x : Sg) : Sg := ⟨x.sock, x.fr, x.len, x.stamp, true⟩
theorem agn_ok {x : Sg} (h : x.ok) : (agn x).ok := h
def notAg (x : Sg) : Bool := !x.again
def AgRel (l : List Sg) (w0 : World) (v3 v4 v5 : Value) (wr : World) : Prop :=
  ∃ i : Nat, i ≤ l.length ∧ v5 = .int .i64 i ∧ SlOwn wr w0.heap.size v3 ((l.take i).filter notAg) ∧ SlOwn wr w0.heap.size v4 ((l.take i).map agn) ∧ Apt v3 v4 ∧ Below w0.heap.size w0 wr
theorem take_snoc' {α : Type} {l : List α} {i : Nat} {x : α} (h : l[i]? = some x) : l.take (i + 1) = l.take i ++ [x] := by rw [List.take_add_one, h]; rfl
theorem notAg_eq : notAg = fun x => !x.again := rfl

set_option maxRecDepth 8000 in
set_option maxHeartbeats 4000000 in
theorem again27_any (a : Option Addr) (c : Nat) (l : List Sg) (w : World) (hl : SegRow w a l) (hc : l.length ≤ c) :
    Calls Try.prog 11 #[.slice a l.length c] w fun e w' => e = .returned (.bool true) ∧ Below w.heap.size w w' := by
  have b1 := hl.1
  have HL := Lib.hid hl
  have HC := Lib.hid hc
  clear hl hc
  by_cases hx : (30 : Int) < l.length
  · go_enter Try.func11, Try.ntmps11
    go_wp2_with fail
    refine (awake27 _).mono ?_; rintro e w1 ⟨rfl, b1⟩
    go_wp2
    go_ret
    exact ⟨rfl, b1⟩
  · go_enter Try.func11, Try.ntmps11
    go_wp2_with fail
    go_loopw [3, 4, 5] (fun v3 v4 v5 wr => AgRel l w v3 v4 v5 wr) (fun _ _ v5 _ => l.length - (intOf v5).toNat)
    case atStart => exact ⟨0, by omega, rfl, SlOwn.nil _ _, SlOwn.nil _ _, .inl rfl, Below.refl _ _⟩
    case round =>
      obtain ⟨i, hi1, rfl, hS, hA, hap, hB⟩ := hrel
      have HB := Lib.hid hB
      have HS := Lib.hid hS
      have HA := Lib.hid hA
      have HAP := Lib.hid hap
      clear hS hA hap
      by_cases hlt : i < l.length
      · obtain ⟨b, off, x, rfl, hb, hx, hok, c0, c1, c2, c3, c4⟩ := (HL.out.below hB).at_ hlt
        have HX := Lib.hid hx
        have HOK := Lib.hid hok
        have HT := Lib.hid (take_snoc' hx)
        have HSL : Hid (((l.take i).filter notAg).length ≤ 30) := Lib.hid (by have := List.length_filter_le notAg (l.take i); rw [List.length_take] at this; omega)
        have HAL : Hid (((l.take i).map agn).length ≤ 30) := Lib.hid (by rw [List.length_map, List.length_take]; omega)
        have hBs := hB.size
        have HM : Hid ((l.take (i + 1)).map agn = (l.take i).map agn ++ [agn x]) := Lib.hid (by rw [HT.out, List.map_append]; rfl)
        have HF0 : Hid (x.again = false → (l.take (i + 1)).filter notAg = (l.take i).filter notAg ++ [x]) := Lib.hid (fun h => by rw [HT.out, List.filter_append]; simp [notAg, h])
        have HF1 : Hid (x.again = true → (l.take (i + 1)).filter notAg = (l.take i).filter notAg) := Lib.hid (fun h => by rw [HT.out, List.filter_append]; simp [notAg, h])
        generalize (l.take i).filter notAg = ls at *
        generalize (l.take i).map agn = la at *
        clear hx hok hB
        cases hag : x.again
        · rw [hag] at c4
          have AT : Hid (At (wr.alloc (.cells #[.int .i64 x.sock, .int .u64 x.fr, .int .i64 x.len, .int .u64 x.stamp, .bool false] 55)) wr.heap.size 55 (segC x)) := by
            rw [show segC x = #[.int .i64 x.sock, .int .u64 x.fr, .int .i64 x.len, .int .u64 x.stamp, .bool false] from by rw [segC, hag]]
            exact Lib.hid (At.made wr _ _)
          have HF := Lib.hid (HF0.out hag)
          clear hag
          go_wp2_with (at_builtin; refine wpList_app_seg _ rfl _ _ rfl w.heap.size _ _ rfl (HS.out.alloc _) _ rfl x AT.out ?c1 ?c2 ?_)
          case c1 => have := HSL.out; omega
          case c2 => simp; omega
          intro g cp w3 hS3 hg3 hv3 hl3
          have SS : Hid (SlOwn w3 w.heap.size (.slice (some ⟨g, 0, none⟩) (ls.length + 1) cp) ((l.take (i + 1)).filter notAg)) := by rw [HF.out]; exact Lib.hid hS3
          have AA := Lib.hid ((HA.out.alloc _).apt hg3 HAP.out.symm)
          have AP : Hid (Apt (.slice (some ⟨g, 0, none⟩) (ls.length + 1) cp) _) := Lib.hid (apt_new hv3 (HA.out.alloc (.cells #[.int .i64 x.sock, .int .u64 x.fr, .int .i64 x.len, .int .u64 x.stamp, .bool false] 55)) (by first | rfl | simp) HAP.out)
          have BB := Lib.hid ((HB.out.alloc hBs _).grown hg3 (by simp; omega) (fun k hk => (HS.out.lt k hk).1))
          clear hS3 hg3 hv3
          obtain ⟨_, _, x', e, hb3, hx', _, e0, e1, e2, e3, e4⟩ := (HL.out.below BB.out).at_ hlt
          cases e
          obtain rfl : x = x' := Option.some.inj (HX.out.symm.trans hx')
          clear hx' c0 c1 c2 c3 c4
          have ATT : Hid (At ((w3.alloc (.cells #[.int .i64 x.sock, .int .u64 x.fr, .int .i64 x.len, .int .u64 x.stamp, .bool true] 55)).alloc (.cells #[.int .i64 x.sock, .int .u64 x.fr, .int .i64 x.len, .int .u64 x.stamp, .bool true] 55)) (w3.heap.size + 1) 55 (segC (agn x))) := by
            have := At.made (w3.alloc (.cells #[.int .i64 x.sock, .int .u64 x.fr, .int .i64 x.len, .int .u64 x.stamp, .bool true] 55)) 55 (segC (agn x))
            rw [show (w3.alloc (.cells #[.int .i64 x.sock, .int .u64 x.fr, .int .i64 x.len, .int .u64 x.stamp, .bool true] 55)).heap.size = w3.heap.size + 1 from by simp] at this
            exact Lib.hid this
          go_wp2_with (at_builtin; refine wpList_app_seg _ rfl _ _ rfl w.heap.size _ _ rfl ((AA.out.alloc (.cells #[.int .i64 x.sock, .int .u64 x.fr, .int .i64 x.len, .int .u64 x.stamp, .bool true] 55)).alloc (.cells #[.int .i64 x.sock, .int .u64 x.fr, .int .i64 x.len, .int .u64 x.stamp, .bool true] 55)) _ rfl (agn x) ATT.out ?da1 ?da2 ?_)
          case da1 => have := HAL.out; omega
          case da2 => have := BB.out.size; simp; omega
          intro g2 cp2 w6 hS6 hg6 hv6 hl6
          have AA6 : Hid (SlOwn w6 w.heap.size (.slice (some ⟨g2, 0, none⟩) (la.length + 1) cp2) ((l.take (i + 1)).map agn)) := by rw [HM.out]; exact Lib.hid hS6
          have SS6 := Lib.hid (((SS.out.alloc (.cells #[.int .i64 x.sock, .int .u64 x.fr, .int .i64 x.len, .int .u64 x.stamp, .bool true] 55)).alloc (.cells #[.int .i64 x.sock, .int .u64 x.fr, .int .i64 x.len, .int .u64 x.stamp, .bool true] 55)).apt hg6 AP.out)
          have AP6 : Hid (Apt (.slice (some ⟨g2, 0, none⟩) (la.length + 1) cp2) _) := Lib.hid (apt_new hv6 ((SS.out.alloc (.cells #[.int .i64 x.sock, .int .u64 x.fr, .int .i64 x.len, .int .u64 x.stamp, .bool true] 55)).alloc (.cells #[.int .i64 x.sock, .int .u64 x.fr, .int .i64 x.len, .int .u64 x.stamp, .bool true] 55)) (by first | rfl | simp) AP.out.symm)
          have BB6 := Lib.hid (((BB.out.alloc BB.out.size (.cells #[.int .i64 x.sock, .int .u64 x.fr, .int .i64 x.len, .int .u64 x.stamp, .bool true] 55)).alloc (by have := BB.out.size; simp; omega) (.cells #[.int .i64 x.sock, .int .u64 x.fr, .int .i64 x.len, .int .u64 x.stamp, .bool true] 55)).grown hg6 (by have := BB.out.size; simp; omega) (fun k hk => (AA.out.lt k hk).1))
          clear hS6 hg6 hv6 e0 e1 e2 e3 e4
          go_wp2
          go_roundw
          case rel => exact ⟨i + 1, by omega, by simp, SS6.out, AA6.out, AP6.out.symm, BB6.out⟩
          case measure => simp [intOf]; omega
        · rw [hag] at c4
          have HF := Lib.hid (HF1.out hag)
          have SS := HS
          rw [← HF.out] at SS
          have AA := HA
          have AP := HAP
          have BB := HB
          have e0 := c0
          have e1 := c1
          have e2 := c2
          have e3 := c3
          have e4 := c4
          clear hag c0 c1 c2 c3 c4
          have ATT : Hid (At ((wr.alloc (.cells #[.int .i64 x.sock, .int .u64 x.fr, .int .i64 x.len, .int .u64 x.stamp, .bool true] 55)).alloc (.cells #[.int .i64 x.sock, .int .u64 x.fr, .int .i64 x.len, .int .u64 x.stamp, .bool true] 55)) (wr.heap.size + 1) 55 (segC (agn x))) := by
            have := At.made (wr.alloc (.cells #[.int .i64 x.sock, .int .u64 x.fr, .int .i64 x.len, .int .u64 x.stamp, .bool true] 55)) 55 (segC (agn x))
            rw [show (wr.alloc (.cells #[.int .i64 x.sock, .int .u64 x.fr, .int .i64 x.len, .int .u64 x.stamp, .bool true] 55)).heap.size = wr.heap.size + 1 from by simp] at this
            exact Lib.hid this
          go_wp2_with (at_builtin; refine wpList_app_seg _ rfl _ _ rfl w.heap.size _ _ rfl ((AA.out.alloc (.cells #[.int .i64 x.sock, .int .u64 x.fr, .int .i64 x.len, .int .u64 x.stamp, .bool true] 55)).alloc (.cells #[.int .i64 x.sock, .int .u64 x.fr, .int .i64 x.len, .int .u64 x.stamp, .bool true] 55)) _ rfl (agn x) ATT.out ?db1 ?db2 ?_)
          case db1 => have := HAL.out; omega
          case db2 => have := BB.out.size; simp; omega
          intro g2 cp2 w6 hS6 hg6 hv6 hl6
          have AA6 : Hid (SlOwn w6 w.heap.size (.slice (some ⟨g2, 0, none⟩) (la.length + 1) cp2) ((l.take (i + 1)).map agn)) := by rw [HM.out]; exact Lib.hid hS6
          have SS6 := Lib.hid (((SS.out.alloc (.cells #[.int .i64 x.sock, .int .u64 x.fr, .int .i64 x.len, .int .u64 x.stamp, .bool true] 55)).alloc (.cells #[.int .i64 x.sock, .int .u64 x.fr, .int .i64 x.len, .int .u64 x.stamp, .bool true] 55)).apt hg6 AP.out)
          have AP6 : Hid (Apt (.slice (some ⟨g2, 0, none⟩) (la.length + 1) cp2) _) := Lib.hid (apt_new hv6 ((SS.out.alloc (.cells #[.int .i64 x.sock, .int .u64 x.fr, .int .i64 x.len, .int .u64 x.stamp, .bool true] 55)).alloc (.cells #[.int .i64 x.sock, .int .u64 x.fr, .int .i64 x.len, .int .u64 x.stamp, .bool true] 55)) (by first | rfl | simp) AP.out.symm)
          have BB6 := Lib.hid (((BB.out.alloc BB.out.size (.cells #[.int .i64 x.sock, .int .u64 x.fr, .int .i64 x.len, .int .u64 x.stamp, .bool true] 55)).alloc (by have := BB.out.size; simp; omega) (.cells #[.int .i64 x.sock, .int .u64 x.fr, .int .i64 x.len, .int .u64 x.stamp, .bool true] 55)).grown hg6 (by have := BB.out.size; simp; omega) (fun k hk => (AA.out.lt k hk).1))
          clear hS6 hg6 hv6 e0 e1 e2 e3 e4
          go_wp2
          go_roundw
          case rel => exact ⟨i + 1, by omega, by simp, SS6.out, AA6.out, AP6.out.symm, BB6.out⟩
          case measure => simp [intOf]; omega
      · have hi : i = l.length := by omega
        have hsf := sortedF_filter l
        have hof := onceF_filter l
        have hsa := sortedF_again (l.map agn) (fun x hx => by obtain ⟨y, _, rfl⟩ := List.mem_map.1 hx; rfl)
        have hoa := onceF_again (l.map agn) (fun x hx => by obtain ⟨y, _, rfl⟩ := List.mem_map.1 hx; rfl)
        rw [← notAg_eq] at hsf hof
        rw [hi, List.take_length] at HS HA
        have hfl := List.length_filter_le notAg l
        obtain ⟨q3, p3, rfl, hc3, R3⟩ := HS.out.row (by omega) (fun x hx => HL.out.2.1 x ((List.mem_filter.1 hx).1))
        obtain ⟨q4, p4, rfl, hc4, R4⟩ := HA.out.row (by rw [List.length_map]; omega) (fun x hx => by obtain ⟨y, hy, rfl⟩ := List.mem_map.1 hx; exact agn_ok (HL.out.2.1 y hy))
        have HR3 := Lib.hid R3
        have HR4 := Lib.hid R4
        have HC3 := Lib.hid hc3
        have HC4 := Lib.hid hc4
        clear R3 R4 hc3 hc4 hfl HS HA HAP
        have H1 := Lib.hid hsf
        have H2 := Lib.hid hof
        have H3 := Lib.hid hsa
        have H4 := Lib.hid hoa
        clear hsf hof hsa hoa
        generalize l.filter notAg = l3 at *
        generalize l.map agn = l4 at *
        have hB0 := hB
        clear hB hi
        go_wp2_with fail
        refine (awake27 _).mono ?_; rintro e w1 ⟨rfl, b1⟩
        have B1 := Lib.hid (HB.out.trans (b1.mono HB.out.size))
        have G1 := Lib.hid b1
        clear b1
        go_wp2_with fail
        refine (sorted_any _ _ l _ (HL.out.below B1.out)).mono ?_; rintro e w2 ⟨rfl, b2⟩
        have B2 := Lib.hid (B1.out.trans (b2.mono B1.out.size))
        have G2 := Lib.hid (G1.out.trans (b2.mono G1.out.size))
        clear b2
        go_wp2_with fail
        refine (sorted_any _ _ l3 _ (HR3.out.below G2.out)).mono ?_; rintro e w3 ⟨rfl, b3⟩
        have B3 := Lib.hid (B2.out.trans (b3.mono B2.out.size))
        have G3 := Lib.hid (G2.out.trans (b3.mono G2.out.size))
        clear b3
        rw [H1.out]
        generalize sortedF l = P1
        go_wp2_with fail
        refine (once_any _ _ l _ (HL.out.below B3.out) HC.out).mono ?_; rintro e w4 ⟨rfl, b4⟩
        have B4 := Lib.hid (B3.out.trans (b4.mono B3.out.size))
        have G4 := Lib.hid (G3.out.trans (b4.mono G3.out.size))
        clear b4
        go_wp2_with fail
        refine (once_any _ _ l3 _ (HR3.out.below G4.out) HC3.out).mono ?_; rintro e w5 ⟨rfl, b5⟩
        have B5 := Lib.hid (B4.out.trans (b5.mono B4.out.size))
        have G5 := Lib.hid (G4.out.trans (b5.mono G4.out.size))
        clear b5
        rw [H2.out]
        generalize onceF l = P2
        go_wp2_with fail
        refine (sorted_any _ _ l4 _ (HR4.out.below G5.out)).mono ?_; rintro e w6 ⟨rfl, b6⟩
        have B6 := Lib.hid (B5.out.trans (b6.mono B5.out.size))
        have G6 := Lib.hid (G5.out.trans (b6.mono G5.out.size))
        clear b6
        rw [H3.out]
        go_wp2_with fail
        refine (once_any _ _ l4 _ (HR4.out.below G6.out) HC4.out).mono ?_; rintro e w7 ⟨rfl, b7⟩
        have B7 := Lib.hid (B6.out.trans (b7.mono B6.out.size))
        clear b7
        rw [H4.out]
        go_wp2
        go_ret
        exact ⟨rfl, B7.out⟩
end Go.Proofs.Ytojgpgjmcamfoaa
