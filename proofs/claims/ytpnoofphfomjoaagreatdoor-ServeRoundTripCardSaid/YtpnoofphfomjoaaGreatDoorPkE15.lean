/- Format HdMath HdLaws Conv Bytes -/
import Derived.ChangeAlike
import Derived.Laws.BytesArg
import Derived.Test.YtpnoofphfomjoaaGreatDoorPkE01
import Derived.Test.YtpnoofphfomjoaaGreatDoorPkE06
namespace Go.Proofs.YtpnoofphfomjoaaGreatDoor
open Go.RowKit
theorem u8_info : (Tryz.prog.info? 5).map (fun i => (i.zero, i.size, i.bytes)) = some (some (.int .u8 0), 1, 1) := by kernel_rfl
theorem byCells_one (bs : List Int) : ∀ u ∈ byCells bs, u.oneCell' = true := by
  intro u hu
  simp only [byCells, List.mem_map] at hu
  obtain ⟨x, _, rfl⟩ := hu
  rfl
def fbyte (r : Rg) : Int := r.v + (if r.d then 128 else 0)
/-- the bytes of a header -/
def fbytes (op vs : Int) (rs : List Rg) (pts : Int) : List Int :=
  [op] ++ (if op = 3 then [vs] else if 4 ≤ op then [(rs.length : Int)] else []) ++ rs.map fbyte ++ (if op = 5 then [pts % 256, pts / 256] else [])
def hformat (op vs : Int) (rs : List Rg) (pts : Int) : List Int × Int := if hcheck op vs rs pts = 0 then (fbytes op vs rs pts, 0) else ([], hcheck op vs rs pts)
def Formatted (r : List Int × Int) (w : World) (e : Ending) (w' : World) : Prop :=
  ∃ v, e = .returned (.tuple #[v, .int .i64 r.2]) ∧ w'.ownsRow w.heap.size 5 1 v r.1.length (byCells r.1) ∧ Below w.heap.size w w'
theorem or128_fin : ∀ n : Fin 128, bits BinOp.or IntKind.u8 (n.val : Int) 128 = (n.val : Int) + 128 := by decide +kernel
theorem or128 (x : Int) (h0 : 0 ≤ x) (h1 : x < 128) : bits BinOp.or IntKind.u8 x 128 = x + 128 := by
  obtain ⟨n, rfl⟩ := Int.eq_ofNat_of_zero_le h0
  exact or128_fin ⟨n, by omega⟩
theorem byCells_append (a b : List Int) : byCells (a ++ b) = byCells a ++ byCells b := by simp [byCells]
section
variable (vs : Int) (rs : List Rg) (A : Option Addr) (c : Nat) (pts : Int) (w : World)
variable (hs : Sl w w.heap.size A (rgCells rs)) (hn : rs.length ≤ maxLen)
include hs hn
set_option maxRecDepth 100000 in
set_option maxHeartbeats 1000000 in
theorem format_err (op : Int) (he : hcheck op vs rs pts ≠ 0) :
    Calls Tryz.prog 55 #[.agg #[.int .i64 op, .int .i64 vs, .slice A rs.length c, .int .i64 pts]] w (Formatted (hformat op vs rs pts) w) := by
  have hf : hformat op vs rs pts = ([], hcheck op vs rs pts) := by unfold hformat; rw [if_neg he]
  rw [hf]
  have hs' := hide hs; clear hs
  have he' : (hcheck op vs rs pts != 0) = true := by rw [bne_iff_ne]; exact he
  have HF := hide hf; clear hf
  have HE := hide he; clear he
  go_enter Tryz.func55, Tryz.ntmps55
  go_wp2_with fail
  refine (check_any vs rs A c pts _ ((hs'.out.below (bl_alloc (Below.refl _ _) _)).more (by simp)) hn op).mono ?_
  rintro e w1 ⟨rfl, hb⟩
  go_wp2
  go_ret2
  exact ⟨_, rfl, World.ownsRow_nil _ _ _ _, bl_step (bl_alloc (Below.refl _ _) _) hb⟩
set_option maxRecDepth 100000 in
set_option maxHeartbeats 2000000 in
theorem format_12 (op : Int) (hop : op = 1 ∨ op = 2) (hz : hcheck op vs rs pts = 0) :
    Calls Tryz.prog 55 #[.agg #[.int .i64 op, .int .i64 vs, .slice A rs.length c, .int .i64 pts]] w (Formatted (hformat op vs rs pts) w) := by
  have hf : hformat op vs rs pts = (fbytes op vs rs pts, 0) := by unfold hformat; rw [if_pos hz]
  rw [hf]
  obtain ⟨_, _, _, hv, _, hl, _, hp, _⟩ := hcheck_zero hz
  have e1 := hl (by omega); have e2 := hv (by omega); have e3 := hp (by omega)
  subst e1 e2 e3
  clear hv hl hp
  have hs' := hide hs; clear hs
  have HF := hide hf; clear hf
  have HZ := hide hz; clear hz
  rcases hop with rfl | rfl
  all_goals
    go_enter Tryz.func55, Tryz.ntmps55
    go_wp2_with fail
    refine (check_any 0 [] A c 0 _ ((hs'.out.below (bl_alloc (Below.refl _ _) _)).more (by simp)) hn _).mono ?_
    rintro e w1 ⟨rfl, hb⟩
    rw [HZ.out]
    obtain ⟨hcl, hfr⟩ := bcell hb
    have hl := hb.size
    simp at hl
    have hl2 : w.heap.size < w1.heap.size := by omega
    go_wp2
    refine wp_loop_rounds 1 ?_
    rw [rounds_succ]
    go_wp2
    go_ret2
    refine ⟨_, rfl, own_of_blk (xs := byCells [_]) (Blk.new _ _ _) (by omega) rfl (by unfold maxLen; omega), bl_alloc (bl_step (bl_alloc (Below.refl _ _) _) hb) _⟩
end
end Go.Proofs.YtpnoofphfomjoaaGreatDoor
namespace Go.Proofs.YtpnoofphfomjoaaGreatDoor
open Go.RowKit
theorem hcheck_ok {op vs pts : Int} {rs : List Rg} (h1 : 1 ≤ op ∧ op ≤ 5) (h3 : op = 3 → 3 ≤ vs ∧ vs ≤ 64) (hv : op ≠ 3 → vs = 0) (h4 : 4 ≤ op → 1 ≤ rs.length ∧ rs.length ≤ 64 ∧ rs.any wrongRg = false) (hl : op < 4 → rs = [])
    (h5 : op = 5 → 1 ≤ pts ∧ pts ≤ 4096) (hp : op ≠ 5 → pts = 0) (hf : rs.any fullRg = false) : hcheck op vs rs pts = 0 := by
  unfold hcheck hcheckB
  have hlen : op < 4 → rs.length = 0 := fun h => by rw [hl h]; rfl
  have hd : (decide (op = 4 ∨ op = 5) && rs.any wrongRg) = false := by
    by_cases h : op = 4 ∨ op = 5
    · rw [(h4 (by omega)).2.2, Bool.and_false]
    · rw [decide_eq_false h, Bool.false_and]
  rw [hd, hf, if_neg (by omega), if_neg (by omega), if_neg (by omega), cond_false, if_neg (by omega), if_neg (by omega), cond_false]
theorem rgOf_full (xs : List Int) : (xs.map rgOf).any fullRg = false := by
  rw [List.any_eq_false]
  intro r hr
  obtain ⟨x, _, rfl⟩ := List.mem_map.1 hr
  simp [rgOf, fullRg]
/-- every header that is parsed is well formed -/
def HdOk (r : PH × Int × Int) : Prop := r.2.2 = 0 → hcheck r.1.op r.1.vs r.1.rs r.1.pts = 0
theorem hdOk_err (e : Int) (he : e ≠ 0) : HdOk (phZero, 0, e) := fun h => absurd h he
theorem hparse_ok (bs : List Int) : HdOk (hparse bs) := by
  unfold hparse
  refine ite_ok (fun _ => hdOk_err 4 (by omega)) (fun h0 => ?_)
  refine ite_ok (fun h1 _ => hcheck_ok (by dsimp only; omega) (by dsimp only; omega) (by dsimp only; omega) (by dsimp only; omega) (fun _ => rfl) (by dsimp only; omega) (by dsimp only; omega) rfl) (fun h1 => ?_)
  refine ite_ok (fun _ => hdOk_err 5 (by omega)) (fun h2 => ?_)
  refine ite_ok (fun _ => hdOk_err 4 (by omega)) (fun h3 => ?_)
  refine ite_ok (fun h4 => ?_) (fun h4 => ?_)
  · exact ite_ok (fun _ => hdOk_err 6 (by omega)) (fun h5 _ => hcheck_ok (by dsimp only; omega) (by dsimp only; omega) (by dsimp only; omega) (by dsimp only; omega) (fun _ => rfl) (by dsimp only; omega) (by dsimp only; omega) rfl)
  refine ite_ok (fun _ => hdOk_err 6 (by omega)) (fun h5 => ?_)
  refine ite_ok (fun _ => hdOk_err 4 (by omega)) (fun h6 => ?_)
  refine ite_ok (fun _ => hdOk_err 7 (by omega)) (fun h7 => ?_)
  have hlen : (((bs.drop 2).take (bs.getD 1 0).toNat).map rgOf).length = (bs.getD 1 0).toNat := by
    rw [List.length_map, List.length_take, List.length_drop]; omega
  rw [Bool.not_eq_true] at h7
  refine ite_ok (fun h8 _ => hcheck_ok (by dsimp only; omega) (by dsimp only; omega) (by dsimp only; omega) (fun _ => ⟨by dsimp only; omega, by dsimp only; omega, h7⟩) (by dsimp only; omega) (by dsimp only; omega) (by dsimp only; omega) (rgOf_full _)) (fun h8 => ?_)
  refine ite_ok (fun _ => hdOk_err 4 (by omega)) (fun h9 => ?_)
  exact ite_ok (fun _ => hdOk_err 6 (by omega)) (fun h10 _ => hcheck_ok (by dsimp only; omega) (by dsimp only; omega) (by dsimp only; omega) (fun _ => ⟨by dsimp only; omega, by dsimp only; omega, h7⟩) (by dsimp only; omega) (by dsimp only; omega) (by dsimp only; omega) (rgOf_full _))
end Go.Proofs.YtpnoofphfomjoaaGreatDoor
namespace Go.Proofs.YtpnoofphfomjoaaGreatDoor
open Go.RowKit
/-- what Parse makes of a region that was formatted -/
def rgBack (r : Rg) : Rg := ⟨r.d, r.v, none, 0, 0⟩
theorem rgOf_fbyte (r : Rg) (h0 : 0 ≤ r.v) (h1 : r.v ≤ 64) : rgOf (fbyte r) = rgBack r := by
  unfold rgOf fbyte rgBack
  cases r.d
  · simp only [Bool.false_eq_true, if_false, Int.add_zero]
    rw [decide_eq_false (by omega), show r.v % 128 = r.v by omega]
  · simp only [if_true]
    rw [decide_eq_true (by omega), show (r.v + 128) % 128 = r.v by omega]
theorem verts_ok {rs : List Rg} (h : rs.any wrongRg = false) : ∀ r ∈ rs, 0 ≤ r.v ∧ r.v ≤ 64 := by
  intro r hr
  have h1 := List.any_eq_false.1 h r hr
  unfold wrongRg sizeOfReg at h1
  by_cases h0 : r.v = 0
  · omega
  · by_cases h3 : 3 ≤ r.v ∧ r.v ≤ 64
    · omega
    · rw [if_neg h0, if_neg h3] at h1; simp at h1
theorem map_back {rs : List Rg} (h : ∀ r ∈ rs, 0 ≤ r.v ∧ r.v ≤ 64) : (rs.map fbyte).map rgOf = rs.map rgBack := by
  rw [List.map_map]
  exact List.map_congr_left fun r hr => rgOf_fbyte r (h r hr).1 (h r hr).2
theorem back_wrong (rs : List Rg) : (rs.map rgBack).any wrongRg = rs.any wrongRg := by
  rw [List.any_map]; rfl
theorem getD_pair (a b : Int) (l : List Int) : (a :: b :: l).getD 0 0 = a ∧ (a :: b :: l).getD 1 0 = b := ⟨rfl, rfl⟩
theorem getD_mid (a b : Int) (m : List Int) (x y : Int) (rest : List Int) (n : Nat) (hn : m.length = n) :
    (a :: b :: (m ++ x :: y :: rest)).getD (2 + n) 0 = x ∧ (a :: b :: (m ++ x :: y :: rest)).getD (3 + n) 0 = y := by
  subst hn
  constructor
  · rw [List.getD_eq_getElem?_getD, show 2 + m.length = m.length + 1 + 1 by omega, List.getElem?_cons_succ, List.getElem?_cons_succ, List.getElem?_append_right (Nat.le_refl _)]; simp
  · rw [List.getD_eq_getElem?_getD, show 3 + m.length = (m.length + 1) + 1 + 1 by omega, List.getElem?_cons_succ, List.getElem?_cons_succ, List.getElem?_append_right (by omega)]; simp
/-- the beginning of a parse over regions -/
theorem hparse_regions {a : Int} {m : List Int} {tl : List Int} (ha : a = 4 ∨ a = 5) (h1 : 1 ≤ m.length) (h2 : m.length ≤ 64) (hw : (m.map rgOf).any wrongRg = false) :
    hparse (a :: (m.length : Int) :: (m ++ tl)) =
      (if a = 4 then (⟨4, 0, m.map rgOf, 0⟩, 2 + (m.length : Int), 0)
       else if tl.length < 2 then (phZero, 0, 4)
       else if tl.getD 0 0 + 256 * tl.getD 1 0 < 1 ∨ 4096 < tl.getD 0 0 + 256 * tl.getD 1 0 then (phZero, 0, 6)
       else (⟨5, 0, m.map rgOf, tl.getD 0 0 + 256 * tl.getD 1 0⟩, 4 + (m.length : Int), 0)) := by
  obtain ⟨g0, g1⟩ := getD_pair a (m.length : Int) (m ++ tl)
  have hlen : (a :: (m.length : Int) :: (m ++ tl)).length = 2 + m.length + tl.length := by simp; omega
  have htake : ((a :: (m.length : Int) :: (m ++ tl)).drop 2).take m.length = m := by simp
  unfold hparse
  rw [hlen, g0, g1, Int.toNat_natCast, htake, hw, if_neg (by omega), if_neg (by omega), if_neg (by omega), if_neg (by omega), if_neg (by omega), if_neg (by omega), if_neg (by omega), if_neg (by simp)]
  by_cases h4 : a = 4
  · rw [if_pos h4, if_pos h4]
  · rw [if_neg h4, if_neg h4]
    by_cases ht : tl.length < 2
    · rw [if_pos (by omega), if_pos ht]
    · rw [if_neg (by omega), if_neg ht]
      match tl, ht with
      | [], ht => simp at ht
      | [_], ht => simp at ht
      | x :: y :: rest, _ =>
        obtain ⟨e1, e2⟩ := getD_mid a (m.length : Int) m x y rest m.length rfl
        rw [e1, e2]
        rfl
/-- Parse inverts Format, whatever follows. -/
theorem hparse_format {op vs pts : Int} {rs : List Rg} (h : hcheck op vs rs pts = 0) (rest : List Int) :
    hparse (fbytes op vs rs pts ++ rest) = (⟨op, vs, rs.map rgBack, pts⟩, ((fbytes op vs rs pts).length : Int), 0) := by
  obtain ⟨h1, h2, h3, hv, h4, hl, h5, hp, _⟩ := hcheck_zero h
  by_cases c12 : op = 1 ∨ op = 2
  · have e1 := hl (by omega); have e2 := hv (by omega); have e3 := hp (by omega)
    subst e1 e2 e3
    rcases c12 with rfl | rfl <;> (unfold hparse fbytes; simp)
  by_cases c3 : op = 3
  · have e1 := hl (by omega); have e3 := hp (by omega)
    obtain ⟨v1, v2⟩ := h3 c3
    subst c3 e1 e3
    unfold hparse fbytes
    simp
    rw [if_neg (by omega), if_neg (by omega)]
  obtain ⟨l1, l2, hw⟩ := h4 (by omega)
  have hvk := verts_ok hw
  have e2 := hv c3
  subst e2
  have hm : ((rs.map fbyte).map rgOf).any wrongRg = false := by rw [map_back hvk, back_wrong, hw]
  by_cases c4 : op = 4
  · have e3 := hp (by omega)
    subst c4 e3
    have hb : fbytes 4 0 rs 0 ++ rest = 4 :: ((rs.map fbyte).length : Int) :: (rs.map fbyte ++ rest) := by simp [fbytes]
    rw [hb, hparse_regions (.inl rfl) (by simpa using l1) (by simpa using l2) hm, if_pos rfl, map_back hvk]
    simp [fbytes]; omega
  · have c5 : op = 5 := by omega
    obtain ⟨p1, p2⟩ := h5 c5
    subst c5
    have hb : fbytes 5 0 rs pts ++ rest = 5 :: ((rs.map fbyte).length : Int) :: (rs.map fbyte ++ (pts % 256 :: pts / 256 :: rest)) := by simp [fbytes]
    rw [hb, hparse_regions (.inr rfl) (by simpa using l1) (by simpa using l2) hm, if_neg (by omega), if_neg (by simp), if_neg (by simp; omega), map_back hvk]
    simp [fbytes]
    omega
theorem fbyte_rgOf (x : Int) (h0 : 0 ≤ x) (h1 : x ≤ 255) : fbyte (rgOf x) = x := by
  unfold fbyte rgOf
  by_cases h : 128 ≤ x
  · simp only [h, decide_true, if_true]; omega
  · simp only [h, decide_false, Bool.false_eq_true, if_false]; omega
theorem map_fbyte {l : List Int} (h : ∀ x ∈ l, 0 ≤ x ∧ x ≤ 255) : (l.map rgOf).map fbyte = l := by
  rw [List.map_map]
  conv => rhs; rw [← List.map_id l]
  exact List.map_congr_left fun x hx => fbyte_rgOf x (h x hx).1 (h x hx).2
/-- what is parsed is formatted as the beginning of the bytes -/
def CanOk (bs : List Int) (r : PH × Int × Int) : Prop := r.2.2 = 0 → fbytes r.1.op r.1.vs r.1.rs r.1.pts = bs.take r.2.1.toNat ∧ 1 ≤ r.2.1 ∧ r.2.1 ≤ bs.length
theorem canOk_err {bs : List Int} (e : Int) (he : e ≠ 0) : CanOk bs (phZero, 0, e) := fun h => absurd h he
theorem hparse_canonical (bs : List Int) (hby : ∀ (j : Nat) (x : Int), bs[j]? = some x → 0 ≤ x ∧ x ≤ 255) : CanOk bs (hparse bs) := by
  have hmem : ∀ x ∈ bs, 0 ≤ x ∧ x ≤ 255 := fun x hx => by
    obtain ⟨j, hj⟩ := List.mem_iff_getElem?.1 hx
    exact hby j x hj
  unfold hparse
  refine ite_ok (fun _ => canOk_err 4 (by omega)) (fun h0 => ?_)
  match bs, h0 with
  | [], h0 => simp at h0
  | a :: l, h0 =>
    have ga : (a :: l).getD 0 0 = a := rfl
    rw [ga]
    refine ite_ok (fun h1 _ => ?_) (fun h1 => ?_)
    · refine ⟨?_, by simp, by simp; omega⟩
      rcases h1 with rfl | rfl <;> simp [fbytes]
    refine ite_ok (fun _ => canOk_err 5 (by omega)) (fun h2 => ?_)
    refine ite_ok (fun _ => canOk_err 4 (by omega)) (fun h3 => ?_)
    match l, h3 with
    | [], h3 => simp at h3
    | n :: l, h3 =>
      obtain ⟨_, g1⟩ := getD_pair a n l
      have hl : ∀ x ∈ l, 0 ≤ x ∧ x ≤ 255 := fun x hx => hmem x (by simp [hx])
      rw [g1]
      refine ite_ok (fun h4 => ite_ok (fun _ => canOk_err 6 (by omega)) (fun h5 _ => ?_)) (fun h4 => ?_)
      · subst h4; exact ⟨by simp [fbytes], by simp, by simp; omega⟩
      refine ite_ok (fun _ => canOk_err 6 (by omega)) (fun h5 => ?_)
      refine ite_ok (fun _ => canOk_err 4 (by omega)) (fun h6 => ?_)
      refine ite_ok (fun _ => canOk_err 7 (by omega)) (fun h7 => ?_)
      obtain ⟨m, hm⟩ := Int.eq_ofNat_of_zero_le (show 0 ≤ n by omega)
      subst hm
      simp only [List.length_cons] at h6
      have hdt : ((a :: (m : Int) :: l).drop 2).take (m : Int).toNat = l.take m := by simp
      rw [hdt]
      have hfb : ((l.take m).map rgOf).map fbyte = l.take m := map_fbyte fun x hx => hl x (List.mem_of_mem_take hx)
      have hlm : ((l.take m).map rgOf).length = m := by rw [List.length_map, List.length_take]; omega
      refine ite_ok (fun h8 _ => ⟨?_, by dsimp only; omega, by dsimp only; simp only [List.length_cons]; omega⟩) (fun h8 => ?_)
      · dsimp only
        subst h8
        rw [show (2 + (m : Int)).toNat = m + 2 by omega]
        unfold fbytes
        rw [hfb, hlm]
        simp
      refine ite_ok (fun _ => canOk_err 4 (by omega)) (fun h9 => ?_)
      simp only [List.length_cons] at h9
      refine ite_ok (fun _ => canOk_err 6 (by omega)) (fun h10 _ => ⟨?_, by dsimp only; omega, by dsimp only; simp only [List.length_cons]; omega⟩)
      dsimp only
      have h5' : a = 5 := by omega
      subst h5'
      obtain ⟨x, hx⟩ : ∃ x, l[m]? = some x := ⟨_, List.getElem?_eq_getElem (by omega)⟩
      obtain ⟨y, hy⟩ : ∃ y, l[m + 1]? = some y := ⟨_, List.getElem?_eq_getElem (by omega)⟩
      have gx : (5 :: (m : Int) :: l).getD (2 + (m : Int).toNat) 0 = x := by
        rw [List.getD_eq_getElem?_getD, Int.toNat_natCast, show 2 + m = m + 1 + 1 by omega, List.getElem?_cons_succ, List.getElem?_cons_succ, hx]; rfl
      have gy : (5 :: (m : Int) :: l).getD (3 + (m : Int).toNat) 0 = y := by
        rw [List.getD_eq_getElem?_getD, Int.toNat_natCast, show 3 + m = (m + 1) + 1 + 1 by omega, List.getElem?_cons_succ, List.getElem?_cons_succ, hy]; rfl
      rw [gx, gy]
      obtain ⟨x0, x1⟩ := hl x (List.mem_of_getElem? hx)
      obtain ⟨y0, y1⟩ := hl y (List.mem_of_getElem? hy)
      have ht : l.take (m + 2) = l.take m ++ [x, y] := by
        rw [List.take_add_one, List.take_add_one, hx, hy]; simp
      rw [show (4 + (m : Int)).toNat = m + 2 + 2 by omega]
      unfold fbytes
      rw [hfb, hlm, show (x + 256 * y) % 256 = x by omega, show (x + 256 * y) / 256 = y by omega]
      simp [ht]
theorem fbytes_byte {op vs pts : Int} {rs : List Rg} (h : hcheck op vs rs pts = 0) : ∀ (j : Nat) (x : Int), (fbytes op vs rs pts)[j]? = some x → 0 ≤ x ∧ x ≤ 255 := by
  obtain ⟨h1, h2, h3, hv, h4, hl, h5, hp, _⟩ := hcheck_zero h
  intro j x hx
  have hm := List.mem_of_getElem? hx
  unfold fbytes at hm
  simp only [List.mem_append, List.mem_singleton, List.mem_map] at hm
  rcases hm with ((hm | hm) | ⟨r, hr, hm⟩) | hm
  · omega
  · by_cases c3 : op = 3
    · rw [if_pos c3] at hm; simp at hm; have := h3 c3; omega
    · rw [if_neg c3] at hm
      by_cases c4 : 4 ≤ op
      · rw [if_pos c4] at hm; simp at hm; have := h4 c4; omega
      · rw [if_neg c4] at hm; simp at hm
  · by_cases c4 : 4 ≤ op
    · have := verts_ok (h4 c4).2.2 r hr
      subst hm
      unfold fbyte; split <;> omega
    · rw [hl (by omega)] at hr; simp at hr
  · by_cases c5 : op = 5
    · rw [if_pos c5] at hm
      have := h5 c5
      simp at hm
      rcases hm with rfl | rfl <;> omega
    · rw [if_neg c5] at hm; simp at hm
end Go.Proofs.YtpnoofphfomjoaaGreatDoor
namespace Go.Proofs.YtpnoofphfomjoaaGreatDoor
open Go.RowKit
theorem conv_bytes (w : World) (B : Nat) (A : Option Addr) (bs : List Int) (c : Nat) (hs : Sl w B A (byCells bs)) :
    (convert 44 9 (.slice A bs.length c)).run Tryz.prog w = .ok (.string (strOfNums bs)) w := by
  rcases hs with hs | ⟨b, off, rfl, _, hc⟩
  · have h0 : bs = [] := by simpa [byCells] using hs
    subst h0
    cases A with
    | none => exact run_convert_bytes_nil w _ _ Tryz.underlying44 Tryz.underlying5 0 c _ Tryz.underlying9
    | some a =>
      rw [run_convert_bytes_string w _ _ _ _ _ c Tryz.underlying44 Tryz.underlying5 Tryz.underlying9, run_bytesToString w a _ c [] rfl]
      rfl
  · refine run_convert_bytes_arg w _ _ Tryz.underlying44 Tryz.underlying5 b off _ c bs rfl (fun i hi => ?_) _ Tryz.underlying9
    have h : bs[i]? = some bs[i] := List.getElem?_eq_getElem hi
    refine hc i _ ?_
    simp [byCells, h]
end Go.Proofs.YtpnoofphfomjoaaGreatDoor
namespace Go.Proofs.YtpnoofphfomjoaaGreatDoor
open Go.RowKit
theorem Sl.take {w : World} {B : Nat} {A : Option Addr} {xs : List Value} (h : Sl w B A xs) (k : Nat) : Sl w B A (xs.take k) := by
  rcases h with h | ⟨b, off, hA, hB, hc⟩
  · exact .inl (by simp [h])
  · exact .inr ⟨b, off, hA, hB, fun j u hu => by
      rw [List.getElem?_take] at hu
      split at hu
      · exact hc j u hu
      · cases hu⟩
theorem equal_true (bs : List Int) (A A' : Option Addr) (c c' : Nat) (w : World) (hs : Sl w w.heap.size A (byCells bs)) (hs' : Sl w w.heap.size A' (byCells bs)) :
    Calls Tryz.prog 19 #[.slice A bs.length c, .slice A' bs.length c'] w fun e w' => e = .returned (.bool true) ∧ w = w' := by
  have h1 := conv_bytes w _ A bs c hs
  have h2 := conv_bytes w _ A' bs c' hs'
  go_enter Tryz.func19, Tryz.ntmps19
  go_wp2
  go_ret
  exact ⟨ret_bool (by simp), rfl⟩
end Go.Proofs.YtpnoofphfomjoaaGreatDoor
