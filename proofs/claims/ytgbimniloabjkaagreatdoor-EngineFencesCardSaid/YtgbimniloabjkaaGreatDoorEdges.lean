/- polygon.edges: the iterator over the edges of a polygon, for every loop body that keeps the points and the iterator's own box. -/
import Derived.RangeFuncNested
import Derived.RangeFuncBound
import Derived.RangeFuncCalls
import Derived.RangeFuncLeaves
import Derived.Shelf.Abstract
import Derived.Shelf.RegionOpen
import Derived.OwnWalkIn
import Derived.TacticsInMore
import Derived.LoopNIn
import Derived.LoopIn
import Derived.Test.YtgbimniloabjkaaGreatDoorPoly
import Derived.Test.YtgbimniloabjkaaGreatDoorTape
namespace Go.Proofs.YtgbimniloabjkaaGreatDoor
open Go.RowKit Go.Shelf
attribute [local go_sem] Oper.semAt_some

/-- how many edges there are -/
def edgeN (n : Nat) : Nat := if 3 ≤ n ∧ n ≤ 64 then n else 0
/-- the edge with number i -/
def encE (ps : List Pt) (i : Nat) : Array Value :=
  #[.agg #[.int .i64 (i : Int), .int .i64 (((i + 1) % ps.length : Nat) : Int), .int .i64 (ptAt ps i).1, .int .i64 (ptAt ps i).2, .int .i64 (ptAt ps ((i + 1) % ps.length)).1, .int .i64 (ptAt ps ((i + 1) % ps.length)).2]]
theorem grown_drew (W : World) : W.grownBy W.drew none := ⟨rfl, rfl, rfl, Nat.le_refl _, fun _ _ _ => rfl⟩

set_option maxRecDepth 100000 in
set_option maxHeartbeats 1000000 in
/-- there are no edges -/
theorem edges1_none (n : Nat) (l Bv : Nat) (ps : List Pt) (hn : ¬ (3 ≤ ps.length ∧ ps.length ≤ 64)) (A : Option Addr) (c : Nat) (W : World) (hBv : W.cell? ⟨Bv, 0, none⟩ = some (.slice A ps.length c)) :
    CallsIn Fence.wide n Tryz.prog 86 #[.func (.yield l) #[] #[], .pointer (some ⟨Bv, 0, none⟩)] W fun e W' => (∃ v, e = .returned v) ∧ W' = W := by
  refine callsIn_wide.2 ?_
  have hc : ((ps.length : Nat) : Int) < 3 ∨ ((64 : Int) < ((ps.length : Nat) : Int) ∧ ¬ ((ps.length : Nat) : Int) < 3) := by omega
  rcases hc with h | ⟨h, h2⟩
  · go_enter Tryz.func86, Tryz.ntmps86
    go_wp2
    refine bodyPost_ret (results_none rfl _ _ _) rfl ?_
    exact ⟨⟨_, rfl⟩, rfl⟩
  · go_enter Tryz.func86, Tryz.ntmps86
    go_wp2
    refine bodyPost_ret (results_none rfl _ _ _) rfl ?_
    exact ⟨⟨_, rfl⟩, rfl⟩

set_option maxRecDepth 100000 in
set_option maxHeartbeats 4000000 in
theorem edges1_in (n : Nat) (hn1 : 1 ≤ n) (l Bv : Nat) (PE : Nat → Prop) (ps : List Pt) (h3 : 3 ≤ ps.length) (h64 : ps.length ≤ 64) (A : Option Addr) (c : Nat) (J Jx : List Nat → World → Prop) (W : World)
    (hJ : AbidesFrom W.heap.size J) (hPE : ∀ k, PE k → k < W.heap.size) (hPB : PE Bv)
    (hY : ∀ pre x W1, J pre W1 → pre.length < edgeN ps.length → YieldAt Fence.wide (n - 1) Tryz.prog l (encE ps x) W1 fun e W' =>
      (e = .returned (.bool true) ∧ J (pre ++ [x]) W' ∧ KeepP PE W1 W') ∨ (e = .returned (.bool false) ∧ Jx (pre ++ [x]) W'))
    (hBv : Blk W Bv 25 #[.slice A ps.length c]) (hs : SlP W PE A (ptCs ps)) (h0 : J [] W) :
    CallsIn Fence.wide n Tryz.prog 86 #[.func (.yield l) #[] #[], .pointer (some ⟨Bv, 0, none⟩)] W fun e W' => (∃ v, e = .returned v) ∧
      ((∃ ys, ys = List.range (edgeN ps.length) ∧ J ys W') ∨ (∃ pre, pre <+: List.range (edgeN ps.length) ∧ Jx pre W')) := by
  have hE : edgeN ps.length = ps.length := by unfold edgeN; rw [if_pos ⟨h3, h64⟩]
  rw [hE] at hY ⊢
  have g3 : ¬ ((ps.length : Nat) : Int) < 3 := by omega
  have g64 : ¬ (64 : Int) < ((ps.length : Nat) : Int) := by omega
  have cv := hBv.cell (i := 0) rfl
  have HY := hide hY
  have HJ := hide hJ
  clear hY hJ
  refine callsIn_of_wp Tryz.func86 rfl trivial ?_ rfl
  simp only [Tryz.ntmps86, List.size_toArray, List.length_cons, List.length_nil, Nat.reduceAdd, Nat.reduceSub, Array.replicate_succ, Array.replicate_zero, List.push_toArray, List.append_toArray, List.nil_append, List.cons_append]
  gi_wp2
  gi_loopw [16] (fun i wr => ∃ k : Nat, k ≤ ps.length ∧ i = .int .i64 k ∧ J (List.range k) wr ∧ KeepP PE W wr)
    (fun i _ => ps.length - (intOf i).toNat)
  case atStart => exact ⟨0, Nat.zero_le _, rfl, h0, KeepP.refl _ _⟩
  case round =>
    obtain ⟨k, hk, rfl, hJs, hkp⟩ := hrel
    by_cases hlt : k < ps.length
    · have cvr : wr.cell? ⟨Bv, 0, none⟩ = some (.slice A ps.length c) := (hBv.kept hkp hPB).cell (i := 0) rfl
      have hsr := (hs.kept hkp).sl hPE
      have hlti : ((k : Nat) : Int) < ((ps.length : Nat) : Int) := by omega
      obtain ⟨nx, hnx⟩ : ∃ nx, nx = (k + 1) % ps.length := ⟨_, rfl⟩
      have hnl : nx < ps.length := by rw [hnx]; exact Nat.mod_lt _ (by omega)
      have hnli : ((nx : Nat) : Int) < ((ps.length : Nat) : Int) := by omega
      have hm : ((k : Int) + 1) % ((ps.length : Nat) : Int) = (nx : Int) := by rw [hnx]; rfl
      obtain ⟨b, off, rfl, hb⟩ := sl_pts hsr (by omega)
      obtain ⟨a0, a1⟩ := sl_pt hsr hlt
      obtain ⟨b0, b1⟩ := sl_pt hsr hnl
      have hJd : J (List.range k) wr.drew := HJ.out _ _ _ none hJs (grown_drew wr) (fun r e => by cases e)
      obtain ⟨fn, tmps, assign, body, hy, hR⟩ := HY.out (List.range k) k wr.drew hJd (by simpa using hlt)
      unfold encE at hy
      rw [← hnx] at hy
      have hR2 := hide (hR.mono (R' := fun e W' => ∃ r, e = .returned (.bool r) ∧ (r = true → J (List.range (k + 1)) W' ∧ KeepP PE wr W') ∧ (r = false → Jx (List.range (k + 1)) W')) (by
        rintro e W' (⟨rfl, h1, h2⟩ | ⟨rfl, h1⟩)
        · exact ⟨true, rfl, fun _ => ⟨by rw [List.range_succ]; exact h1, (KeepP.drew PE wr).trans h2⟩, fun h => by cases h⟩
        · exact ⟨false, rfl, (fun h => by cases h), fun _ => by rw [List.range_succ]; exact h1⟩))
      generalize hpk : ptAt ps k = pk at *
      generalize hpn : ptAt ps nx = pn at *
      obtain ⟨x1, y1⟩ := pk
      obtain ⟨x2, y2⟩ := pn
      have hcapn : (nx : Int) * 2 = ((nx * 2 : Nat) : Int) := by omega
      clear hR hJd hJs hpk hpn hsr hnx hcapn
      dsimp only at *
      have hmix : Tryz.prog.follows .mixedOrders = true := by kernel_rfl
      have hpre : List.range (k + 1) <+: List.range ps.length := by
        have e : List.range (k + 1) = (List.range ps.length).take (k + 1) := by rw [List.take_range, Nat.min_eq_left (by omega)]
        rw [e]; exact List.take_prefix _ _
      gi_wp2
      rw [hm]
      gi_region_with_o (refine hR2.out.mono ?_; rintro e W3 ⟨r, rfl, hr1, hr2⟩)
      all_goals
        have HR1 := hide hr1
        have HR2 := hide hr2
        clear hr1 hr2 hy hR2
        cases r with
        | false =>
          gi_wp2
          refine bodyPost_ret (results_none rfl _ _ _) rfl ?_
          exact ⟨⟨_, rfl⟩, .inr ⟨List.range (k + 1), hpre, by simpa using HR2.out⟩⟩
        | true =>
          gi_wp2
          go_roundw
          case rel => exact ⟨k + 1, by omega, by go_num, (HR1.out rfl).1, hkp.trans (HR1.out rfl).2⟩
          case measure => simp [intOf]; omega
    · obtain rfl : k = ps.length := by omega
      gi_wp2
      go_end0
      exact ⟨⟨_, rfl⟩, .inl ⟨_, rfl, hJs⟩⟩

/-- **the iterator's contract** -/
theorem edges_stops (n : Nat) (hn1 : 1 ≤ n) (Bv : Nat) (PE : Nat → Prop) (ps : List Pt) (A : Option Addr) (c : Nat) (w : World) (hPE : ∀ k, PE k → k < w.heap.size) (hPB : PE Bv) (hBv : Blk w Bv 25 #[.slice A ps.length c]) (hs : SlP w PE A (ptCs ps)) :
    SeqStopsK Fence.wide n Tryz.prog 86 #[.pointer (some ⟨Bv, 0, none⟩)] (encE ps) (KeepP PE) (fun ys => ys = List.range (edgeN ps.length)) (fun pre => pre <+: List.range (edgeN ps.length)) (edgeN ps.length) w := by
  intro l J Jx W hW hJ _ hY h0
  have hk : KeepP PE w W := KeepP.of_below hW hPE
  have hB : Blk W Bv 25 #[.slice A ps.length c] := hBv.step hW
  by_cases h : 3 ≤ ps.length ∧ ps.length ≤ 64
  · exact edges1_in n hn1 l Bv PE ps h.1 h.2 A c J Jx W hJ (fun k hp => Nat.lt_of_lt_of_le (hPE k hp) hW.size) hPB hY hB (hs.kept hk) h0
  · refine (edges1_none n l Bv ps h A c W (hB.cell (i := 0) rfl)).mono ?_
    rintro e W' ⟨hv, rfl⟩
    exact ⟨hv, .inl ⟨[], by unfold edgeN; rw [if_neg h]; rfl, h0⟩⟩

set_option maxRecDepth 100000 in
set_option maxHeartbeats 1000000 in
/-- polygon.edges lays the list into a box and hands the closure over it -/
theorem edges_any (v : Value) (A : Option Addr) (n c : Nat) (hv : v = .slice A n c) (w : World) :
    Calls Tryz.prog 62 #[v] w fun e w' => e = .returned (.func (.func 86) #[] #[.pointer (some ⟨w.heap.size, 0, none⟩)]) ∧ w' = w.alloc (.cells #[.slice A n c] 25) := by
  subst hv
  go_enter Tryz.func62, Tryz.ntmps62
  go_wp2
  go_ret
  exact ⟨rfl, rfl⟩
end Go.Proofs.YtgbimniloabjkaaGreatDoor
