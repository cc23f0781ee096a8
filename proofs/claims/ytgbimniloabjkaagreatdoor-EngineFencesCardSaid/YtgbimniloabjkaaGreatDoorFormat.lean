/- header.Format: its bytes or its error, as a function of the header. -/
import Derived.Test.YtgbimniloabjkaaGreatDoorHdBase
import Derived.ChangeAlike
namespace Go.Proofs.YtgbimniloabjkaaGreatDoor
open Go.RowKit

theorem u8_info : (Tryz.prog.info? 5).map (fun i => (i.zero, i.size, i.bytes)) = some (some (.int .u8 0), 1, 1) := by kernel_rfl

theorem byCells_one (bs : List Int) : ∀ u ∈ byCells bs, u.oneCell' = true := by
  intro u hu
  simp only [byCells, List.mem_map] at hu
  obtain ⟨x, _, rfl⟩ := hu
  rfl

def fbyte (r : Rg) : Int := r.v + (if r.d then 128 else 0)
/-- the bytes of a header -/
def fbytes (op vs : Int) (rs : List Rg) (pts : Int) : List Int :=
  [op] ++ (if op = 3 then [vs] else if 4 ≤ op then [(rs.length : Int)] else []) ++ rs.map fbyte ++ (if op = 5 then [pts % 256, pts / 256] else [])
def hformat (op vs : Int) (rs : List Rg) (pts : Int) : List Int × Int := if hcheck op vs rs pts = 0 then (fbytes op vs rs pts, 0) else ([], hcheck op vs rs pts)

def Formatted (r : List Int × Int) (w : World) (e : Ending) (w' : World) : Prop :=
  ∃ v, e = .returned (.tuple #[v, .int .i64 r.2]) ∧ w'.ownsRow w.heap.size 5 1 v r.1.length (byCells r.1) ∧ Below w.heap.size w w'

/-- the loop's state -/
def FLoop (w w0 : World) (bs : List Int) (v : Value) (wr : World) : Prop := wr.ownsRow w0.heap.size 5 1 v bs.length (byCells bs) ∧ Below w0.heap.size w0 wr ∧ Below w.heap.size w wr

theorem or128_fin : ∀ n : Fin 128, bits BinOp.or IntKind.u8 (n.val : Int) 128 = (n.val : Int) + 128 := by decide +kernel
theorem or128 (x : Int) (h0 : 0 ≤ x) (h1 : x < 128) : bits BinOp.or IntKind.u8 x 128 = x + 128 := by
  obtain ⟨n, rfl⟩ := Int.eq_ofNat_of_zero_le h0
  exact or128_fin ⟨n, by omega⟩

theorem byCells_append (a b : List Int) : byCells (a ++ b) = byCells a ++ byCells b := by simp [byCells]

section
variable (vs : Int) (rs : List Rg) (A : Option Addr) (c : Nat) (pts : Int) (w : World)
variable (hs : Sl w w.heap.size A (rgCells rs)) (hn : rs.length ≤ maxLen)
include hs hn

set_option maxRecDepth 100000 in
set_option maxHeartbeats 1000000 in
theorem format_err (op : Int) (he : hcheck op vs rs pts ≠ 0) :
    Calls Tryz.prog 41 #[.agg #[.int .i64 op, .int .i64 vs, .slice A rs.length c, .int .i64 pts]] w (Formatted (hformat op vs rs pts) w) := by
  have hf : hformat op vs rs pts = ([], hcheck op vs rs pts) := by unfold hformat; rw [if_neg he]
  rw [hf]
  have hs' := hide hs; clear hs
  have he' : (hcheck op vs rs pts != 0) = true := by rw [bne_iff_ne]; exact he
  have HF := hide hf; clear hf
  have HE := hide he; clear he
  go_enter Tryz.func41, Tryz.ntmps41
  go_wp2_with fail
  refine (check_any vs rs A c pts _ ((hs'.out.below (bl_alloc (Below.refl _ _) _)).more (by simp)) hn op).mono ?_
  rintro e w1 ⟨rfl, hb⟩
  go_wp2
  go_ret2
  exact ⟨_, rfl, World.ownsRow_nil _ _ _ _, bl_step (bl_alloc (Below.refl _ _) _) hb⟩

set_option maxRecDepth 100000 in
set_option maxHeartbeats 2000000 in
theorem format_12 (op : Int) (hop : op = 1 ∨ op = 2) (hz : hcheck op vs rs pts = 0) :
    Calls Tryz.prog 41 #[.agg #[.int .i64 op, .int .i64 vs, .slice A rs.length c, .int .i64 pts]] w (Formatted (hformat op vs rs pts) w) := by
  have hf : hformat op vs rs pts = (fbytes op vs rs pts, 0) := by unfold hformat; rw [if_pos hz]
  rw [hf]
  obtain ⟨_, _, _, hv, _, hl, _, hp, _⟩ := hcheck_zero hz
  have e1 := hl (by omega); have e2 := hv (by omega); have e3 := hp (by omega)
  subst e1 e2 e3
  clear hv hl hp
  have hs' := hide hs; clear hs
  have HF := hide hf; clear hf
  have HZ := hide hz; clear hz
  rcases hop with rfl | rfl
  all_goals
    go_enter Tryz.func41, Tryz.ntmps41
    go_wp2_with fail
    refine (check_any 0 [] A c 0 _ ((hs'.out.below (bl_alloc (Below.refl _ _) _)).more (by simp)) hn _).mono ?_
    rintro e w1 ⟨rfl, hb⟩
    rw [HZ.out]
    obtain ⟨hcl, hfr⟩ := bcell hb
    have hl := hb.size
    simp at hl
    have hl2 : w.heap.size < w1.heap.size := by omega
    go_wp2
    refine wp_loop_rounds 1 ?_
    rw [rounds_succ]
    go_wp2
    go_ret2
    refine ⟨_, rfl, own_of_blk (xs := byCells [_]) (Blk.new _ _ _) (by omega) rfl (by unfold maxLen; omega), bl_alloc (bl_step (bl_alloc (Below.refl _ _) _) hb) _⟩
end
end Go.Proofs.YtgbimniloabjkaaGreatDoor
