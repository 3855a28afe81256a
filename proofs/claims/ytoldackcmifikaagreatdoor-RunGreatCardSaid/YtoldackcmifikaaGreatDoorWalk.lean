/- RunGreat returns true for every number, in every world: its walk. -/
import Derived.Test.YtoldackcmifikaaGreatDoorTail0
import Derived.Test.YtoldackcmifikaaGreatDoorTail1
import Derived.Test.YtoldackcmifikaaGreatDoorTail2
import Derived.Test.YtoldackcmifikaaGreatDoorTail3
import Derived.Test.YtoldackcmifikaaGreatDoorTail4
import Derived.Test.YtoldackcmifikaaGreatDoorTail5
import Derived.Test.YtoldackcmifikaaGreatDoorTail6
import Derived.Test.YtoldackcmifikaaGreatDoorTail7
import Derived.Test.YtoldackcmifikaaGreatDoorTail8
import Derived.Test.YtoldackcmifikaaGreatDoorTail9
import Derived.Test.YtoldackcmifikaaGreatDoorTail10
import Derived.Test.YtoldackcmifikaaGreatDoorTail11
import Derived.Test.YtoldackcmifikaaGreatDoorTail12
import Derived.Test.YtoldackcmifikaaGreatDoorTail13
import Derived.Test.YtoldackcmifikaaGreatDoorTail14
import Derived.Test.YtoldackcmifikaaGreatDoorTail15
namespace Go.Proofs.YtoldackcmifikaaGreatDoor
open Go Go.Eng
set_option maxRecDepth 100000

theorem tails (k : Nat) (h : k < 16) : tailEnds k = true := by
  match k, h with
  | 0, _ => exact tail0
  | 1, _ => exact tail1
  | 2, _ => exact tail2
  | 3, _ => exact tail3
  | 4, _ => exact tail4
  | 5, _ => exact tail5
  | 6, _ => exact tail6
  | 7, _ => exact tail7
  | 8, _ => exact tail8
  | 9, _ => exact tail9
  | 10, _ => exact tail10
  | 11, _ => exact tail11
  | 12, _ => exact tail12
  | 13, _ => exact tail13
  | 14, _ => exact tail14
  | 15, _ => exact tail15
  | k + 16, h => exact absurd h (by omega)

theorem weaker (a0 : Int) (k : Nat) (h : (wrapQ .i64 a0).tmod 16 = .ofNat k) : Weaker 73 (rset (rset (rset (rset (rset (rset .leaf 0 (.int .u8 a0)) 2 (.bool false)) 9 (.int .u8 a0)) 10 (.int .i64 (wrapQ .i64 a0))) 11 (.int .i64 ((wrapQ .i64 a0).tmod 16))) 3 (.int .i64 ((wrapQ .i64 a0).tmod 16))) (at3 k) := by
  intro i _
  rw [h]
  unfold at3
  simp only [rget_rset _ _ _ _ (show (0 : Nat) < most by decide), rget_rset _ _ _ _ (show (2 : Nat) < most by decide), rget_rset _ _ _ _ (show (3 : Nat) < most by decide), rget_rset _ _ _ _ (show (9 : Nat) < most by decide), rget_rset _ _ _ _ (show (10 : Nat) < most by decide), rget_rset _ _ _ _ (show (11 : Nat) < most by decide)]
  by_cases h3 : i = 3
  · simp [h3]
  by_cases h11 : i = 11
  · simp [h11]
  by_cases h10 : i = 10
  · simp [h10]
  by_cases h9 : i = 9
  · simp [h9]
  by_cases h2 : i = 2
  · simp [h2]
  by_cases h0 : i = 0
  · simp [h0]
  simp [h3, h11, h10, h9, h2, h0]

theorem walk (a0 : Int) (w0 : (Lit.int .u8 a0).wf = true) (w : World) :
    Calls Tryz.prog 3 #[.int .u8 a0] w fun e w' => e = .returned (.bool true) ∧ w'.os = w.os ∧ w'.tape = w.tape ∧ w'.output = w.output ∧ w.heap.size ≤ w'.heap.size ∧ ∀ k, k < w.heap.size → w'.heap[k]? = w.heap[k]? := by
  have hb : 0 ≤ a0 ∧ a0 ≤ 255 := by simpa [Lit.wf, IntKind.min, IntKind.max, IntKind.signed, IntKind.bits] using w0
  obtain ⟨m, rfl⟩ : ∃ m : Nat, a0 = (m : Int) := ⟨a0.toNat, by omega⟩
  have hm : m < 256 := by omega
  have hk : (wrapQ .i64 (m : Int)).tmod 16 = .ofNat (m % 16) := by
    rw [wrapQ_eq, show IntKind.i64.wrap (m : Int) = (m : Int) by simp [IntKind.wrap, IntKind.bits, IntKind.signed]; omega]
    rfl
  obtain ⟨t, σ, ht, hv⟩ := retTrue_ok (tails (m % 16) (by omega))
  have g1 := Goes.quick noNum nat9_ok (noDNat_ok _) (first (m : Int))
  have g2 := Goes.quick noNum nat9_ok (noDNat_ok _) (second (m : Int))
  have g3 := Goes.weaken (Goes.quickRet noNum nat9_ok (noDNat_ok _) ht) (weaker (m : Int) (m % 16) hk)
  have hbody : Tryz.f3.body = some (.seq (sq1 body) (.seq (sq1 (sq2 body)) tail)) := by kernel_rfl
  refine (Goes.call (f := 3) (fn := Tryz.f3) (args := [.int .u8 (m : Int)]) (vs := [.int .u8 (m : Int)]) (dn := noDNat) (vr := [.bool true]) noNum (noDNat_ok _) Tryz.func3 hbody (by show 1 ≤ Tryz.f3.ntmps; decide +kernel) (by decide +kernel) (.cons (.int _ _) .nil) (g1.seq (g2.seq g3)) ?_ w).mono ?_
  · have hres : Tryz.f3.results.toList = [.tmp 2] := by kernel_rfl
    have hn : Tryz.f3.ntmps = 73 := by kernel_rfl
    rw [hres, hn]
    show R.iff true _ (R.bd (.ok []) fun vs => .ok (rget t 2 :: vs)) = _
    rw [hv]; rfl
  · rintro e w' ⟨⟨L, v', rfl, hv⟩, rest⟩
    have hv : VR L (.bool true) v' := hv
    cases hv
    exact ⟨rfl, rest⟩
end Go.Proofs.YtoldackcmifikaaGreatDoor
