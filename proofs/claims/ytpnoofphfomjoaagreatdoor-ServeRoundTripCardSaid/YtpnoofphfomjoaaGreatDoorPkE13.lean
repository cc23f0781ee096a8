/- RoundMath2 -/
import Derived.Test.YtpnoofphfomjoaaGreatDoorPkE05
import Derived.Test.YtpnoofphfomjoaaGreatDoorPkE12
import Derived.Test.YtpnoofphfomjoaaGreatDoorPkE15
namespace Go.Proofs.YtpnoofphfomjoaaGreatDoor
open Go.RowKit
/- words as bytes -/
theorem le_words (x : Int) (n : Nat) : le ((List.range n).map fun k => x / 256 ^ k % 256) = x % 256 ^ n := by
  induction n with
  | zero => simp [le]
  | succ n ih =>
    rw [List.range_succ, List.map_append, List.map_singleton, le_snoc, ih, List.length_map, List.length_range]
    have h := Int.emod_add_mul_ediv (x / 256 ^ n) 256
    have h1 := Int.emod_add_mul_ediv x (256 ^ n)
    have h2 := Int.emod_add_mul_ediv x (256 ^ (n + 1))
    rw [div256_succ] at h
    have e : (256 : Int) ^ (n + 1) = 256 ^ n * 256 := Int.pow_succ 256 n
    rw [e] at h2
    have e2 : (256 : Int) ^ n * (256 * (x / 256 ^ (n + 1))) = 256 ^ n * 256 * (x / (256 ^ n * 256)) := by rw [← Int.mul_assoc, e]
    have h3 : (256 : Int) ^ n * (x / 256 ^ n % 256 + 256 * (x / 256 ^ (n + 1))) = 256 ^ n * (x / 256 ^ n) := by rw [h]
    rw [Int.mul_add, e2] at h3
    rw [e, Int.mul_comm (x / 256 ^ n % 256)]
    omega
theorem le_word8 {x : Int} (h : U64 x) : le (word8 x) = x := by
  unfold word8
  rw [le_words]
  exact Int.emod_eq_of_lt h.1 h.2
theorem word8_by (x : Int) : By (word8 x) := by
  intro y hy
  obtain ⟨k, _, rfl⟩ := List.mem_map.1 hy
  omega
theorem le_inj : ∀ (a b : List Int), By a → By b → a.length = b.length → le a = le b → a = b
  | [], [], _, _, _, _ => rfl
  | [], _ :: _, _, _, h, _ => by simp at h
  | _ :: _, [], _, _, h, _ => by simp at h
  | x :: a, y :: b, ha, hb, hl, he => by
    simp only [le] at he
    have h1 := ha.head
    have h2 := hb.head
    have hxy : x = y := by omega
    have : le a = le b := by omega
    rw [hxy, le_inj a b ha.tail hb.tail (by simpa using hl) this]
theorem le_u64 {l : List Int} (hl : l.length = 8) (hb : By l) : U64 (le l) := by
  have := le_bd l hb
  rw [hl] at this
  exact ⟨this.1, by have := this.2; simpa using this⟩
theorem word8_le {l : List Int} (hl : l.length = 8) (hb : By l) : word8 (le l) = l :=
  le_inj _ _ (word8_by _) hb (by rw [word8_length, hl]) (le_word8 (le_u64 hl hb))
theorem u64_i64 {x : Int} (h : U64 x) : IntKind.u64.wrap (i64w x) = x := by
  unfold i64w wrap64
  rw [IntKind.wrap_u64]
  unfold U64 at h
  omega
theorem i64_u64 {x : Int} (h0 : -9223372036854775808 ≤ x) (h1 : x < 9223372036854775808) : i64w (IntKind.u64.wrap x) = x := by
  unfold i64w wrap64
  rw [IntKind.wrap_u64]
  omega
/- points and queries as bytes -/
theorem eight_dropR (bs : List Int) (a k : Nat) : eight bs (a + k) = eight (bs.drop a) k := by unfold eight; rw [List.drop_drop]
theorem eight_left {l r : List Int} (h : l.length = 8) : eight (l ++ r) 0 = l := by
  unfold eight; rw [List.drop_zero, List.take_left' h]
theorem eight_right {l r : List Int} {k : Nat} (h : l.length = k) (j : Nat) : eight (l ++ r) (k + j) = eight r j := by
  rw [eight_dropR, List.drop_left' h]
theorem ptsOf_succ (bs : List Int) (n : Nat) : ptsOf bs (n + 1) = ptRd bs 0 :: ptsOf (bs.drop 16) n := by
  unfold ptsOf
  rw [List.range_succ_eq_map, List.map_cons, List.map_map]
  congr 1
  refine List.map_congr_left fun i _ => ?_
  show ptRd bs (i + 1) = ptRd (bs.drop 16) i
  unfold ptRd
  rw [← eight_dropR, ← eight_dropR, show 16 * (i + 1) = 16 + 16 * i by omega, show 16 + 16 * i + 8 = 16 + (16 * i + 8) by omega]
theorem qusOf_succ' (bs : List Int) (n : Nat) : qusOf bs (n + 1) = quAt bs 0 :: qusOf (bs.drop 24) n := by
  unfold qusOf
  rw [List.range_succ_eq_map, List.map_cons, List.map_map]
  congr 1
  refine List.map_congr_left fun i _ => ?_
  show quAt bs (i + 1) = quAt (bs.drop 24) i
  unfold quAt
  rw [← eight_dropR, ← eight_dropR, ← eight_dropR, show 24 * (i + 1) = 24 + 24 * i by omega, show 24 + 24 * i + 8 = 24 + (24 * i + 8) by omega, show 24 + 24 * i + 16 = 24 + (24 * i + 16) by omega]
def P64 (p : Int × Int) : Prop := (-9223372036854775808 ≤ p.1 ∧ p.1 ≤ 9223372036854775807) ∧ (-9223372036854775808 ≤ p.2 ∧ p.2 ≤ 9223372036854775807)
theorem ptRd_pt16 {p : Int × Int} (h : P64 p) (X : List Int) : ptRd (pt16 p ++ X) 0 = p := by
  unfold ptRd pt16
  rw [List.append_assoc, Nat.mul_zero, eight_left (word8_length _), show 0 + 8 = 8 + 0 by omega, eight_right (word8_length _), eight_left (word8_length _)]
  unfold u64w
  rw [le_word8 (u64w_u64 _), le_word8 (u64w_u64 _), i64_u64 h.1.1 (by have := h.1.2; omega), i64_u64 h.2.1 (by have := h.2.2; omega)]
theorem quAt_q24 {q : (Int × Int) × Int} (h : P64 q.1) (hu : U64 q.2) (X : List Int) : quAt (q24 q ++ X) 0 = q := by
  have h1 := ptRd_pt16 h (word8 q.2 ++ X)
  unfold ptRd at h1
  unfold quAt q24
  rw [List.append_assoc, Nat.mul_zero, show 0 + 16 = 16 + 0 by omega, eight_right (pt16_length _), eight_left (word8_length _), le_word8 hu]
  rw [Nat.mul_zero] at h1
  rw [h1]
theorem ptsOf_flat : ∀ (ps : List (Int × Int)) (X : List Int), (∀ p ∈ ps, P64 p) → ptsOf (ps.flatMap pt16 ++ X) ps.length = ps
  | [], _, _ => rfl
  | p :: ps, X, h => by
    rw [List.flatMap_cons, List.append_assoc, List.length_cons, ptsOf_succ, ptRd_pt16 (h p (by simp)), List.drop_left' (pt16_length p), ptsOf_flat ps X fun q hq => h q (by simp [hq])]
theorem qusOf_flat : ∀ (qs : List ((Int × Int) × Int)) (X : List Int), (∀ q ∈ qs, P64 q.1 ∧ U64 q.2) → qusOf (qs.flatMap q24 ++ X) qs.length = qs
  | [], _, _ => rfl
  | q :: qs, X, h => by
    rw [List.flatMap_cons, List.append_assoc, List.length_cons, qusOf_succ', quAt_q24 (h q (by simp)).1 (h q (by simp)).2, List.drop_left' (q24_length q), qusOf_flat qs X fun r hr => h r (by simp [hr])]
theorem pt16_at {bs : List Int} (h : 16 ≤ bs.length) (hb : By bs) : pt16 (ptRd bs 0) = bs.take 16 := by
  unfold pt16 ptRd u64w
  have l0 : (eight bs (16 * 0)).length = 8 := eight_len (by omega)
  have l1 : (eight bs (16 * 0 + 8)).length = 8 := eight_len (by omega)
  rw [u64_i64 (le_u64 l0 (eight_by hb _)), u64_i64 (le_u64 l1 (eight_by hb _)), word8_le l0 (eight_by hb _), word8_le l1 (eight_by hb _)]
  have := pt_split bs 0
  rw [Nat.mul_zero, List.drop_zero] at this
  conv => rhs; rw [this, ← List.append_assoc]
  rw [Nat.mul_zero] at l0 l1 ⊢
  rw [List.take_left' (by rw [List.length_append, l0, l1])]
theorem q24_at {bs : List Int} (h : 24 ≤ bs.length) (hb : By bs) : q24 (quAt bs 0) = bs.take 24 := by
  have h1 := pt16_at (by omega) hb
  have l2 : (eight bs (24 * 0 + 16)).length = 8 := eight_len (by omega)
  have hp : (quAt bs 0).1 = ptRd bs 0 := rfl
  unfold q24
  rw [hp, h1]
  unfold quAt
  rw [word8_le l2 (eight_by hb _)]
  unfold eight
  rw [Nat.mul_zero, show 0 + 16 = 16 by omega, show 24 = 16 + 8 by omega, List.take_add]
theorem flat_ptsOf : ∀ (n : Nat) (bs : List Int), 16 * n ≤ bs.length → By bs → (ptsOf bs n).flatMap pt16 = bs.take (16 * n)
  | 0, bs, _, _ => by simp [ptsOf]
  | n + 1, bs, h, hb => by
    rw [ptsOf_succ, List.flatMap_cons, pt16_at (by omega) hb, flat_ptsOf n (bs.drop 16) (by rw [List.length_drop]; omega) (hb.drop _), show 16 * (n + 1) = 16 + 16 * n by omega, List.take_add]
theorem flat_qusOf : ∀ (n : Nat) (bs : List Int), 24 * n ≤ bs.length → By bs → (qusOf bs n).flatMap q24 = bs.take (24 * n)
  | 0, bs, _, _ => by simp [qusOf]
  | n + 1, bs, h, hb => by
    rw [qusOf_succ', List.flatMap_cons, q24_at (by omega) hb, flat_qusOf n (bs.drop 24) (by rw [List.length_drop]; omega) (hb.drop _), show 24 * (n + 1) = 24 + 24 * n by omega, List.take_add]
end Go.Proofs.YtpnoofphfomjoaaGreatDoor
namespace Go.Proofs.YtpnoofphfomjoaaGreatDoor
open Go.RowKit
theorem rb_key (rs : List Rg) (h : rs.any fullRg = false) : (rs.map rgBack).map Rg.key = rs.map Rg.key := by
  rw [List.map_map]
  refine List.map_congr_left fun r hr => ?_
  have := List.any_eq_false.1 h r hr
  unfold fullRg at this
  have hn : r.n = 0 := by have : ¬ 0 < r.n := by simpa using this
                          omega
  show (r.d, r.v, 0) = (r.d, r.v, r.n)
  rw [hn]
theorem any_key {p : Rg → Bool} (f : Bool × Int × Nat → Bool) (hp : ∀ r, p r = f r.key) {rs rs' : List Rg} (h : rs.map Rg.key = rs'.map Rg.key) : rs.any p = rs'.any p := by
  have e : ∀ l : List Rg, l.any p = (l.map Rg.key).any f := fun l => by
    rw [List.any_map]; congr 1; funext r; exact hp r
  rw [e, e, h]
theorem len_key {rs rs' : List Rg} (h : rs.map Rg.key = rs'.map Rg.key) : rs.length = rs'.length := by have := congrArg List.length h; simpa using this
theorem hcheck_key {op vs pts : Int} {rs rs' : List Rg} (h : rs.map Rg.key = rs'.map Rg.key) : hcheck op vs rs pts = hcheck op vs rs' pts := by
  unfold hcheck
  rw [len_key h, any_key (p := wrongRg) (fun k => sizeOfReg k.2.1 == 0) (fun _ => rfl) h, any_key (p := fullRg) (fun k => decide (0 < k.2.2)) (fun _ => rfl) h]
theorem fbytes_key {op vs pts : Int} {rs rs' : List Rg} (h : rs.map Rg.key = rs'.map Rg.key) : fbytes op vs rs pts = fbytes op vs rs' pts := by
  have e : ∀ l : List Rg, l.map fbyte = (l.map Rg.key).map (fun k => k.2.1 + (if k.1 then 128 else 0)) := fun l => by rw [List.map_map]; rfl
  unfold fbytes
  rw [len_key h, e, e, h]
theorem nSum_key {rs rs' : List Rg} (h : rs.map Rg.key = rs'.map Rg.key) : nSum rs = nSum rs' := by
  have e : ∀ l : List Rg, nSum l = ((l.map Rg.key).map (fun k => sizeN k.2.1)).sum := fun l => by rw [List.map_map]; rfl
  rw [e, e, h]
/-- what is decoded behind a header -/
theorem hdecode_of {op vs pts : Int} {rs : List Rg} (h : hcheck op vs rs pts = 0) {pl : List Int} (hl : (pl.length : Int) = 16 * (nSum rs : Int) + 16 * cntP op vs + 24 * cntQ op pts) :
    hdecode (fbytes op vs rs pts ++ pl) = (rqOf ⟨op, vs, rs.map rgBack, pts⟩ pl, 0) := by
  obtain ⟨h1, h2, h3, h4, h5, h6, h7, h8, hfl⟩ := hcheck_zero h
  have hkb := rb_key rs hfl
  have hb : hcheck op vs (rs.map rgBack) pts = 0 := by rw [hcheck_key hkb]; exact h
  have hp := hparse_format h pl
  have hc : hclass (fbytes op vs rs pts ++ pl) = 0 := by
    unfold hclass
    rw [hp]
    dsimp only
    rw [if_pos rfl]
    refine if_pos ?_
    rw [List.length_append]
    unfold hpay
    rw [if_pos hb, ← nSum_cast, nSum_key hkb]
    have e1 : cntP op vs = fixedOf op + vs := by
      unfold cntP fixedOf
      by_cases a1 : op = 1
      · have := h4 (by omega); rw [if_pos a1, if_pos a1]; omega
      · by_cases a2 : op = 2
        · have := h4 (by omega); rw [if_neg a1, if_pos a2, if_neg a1, if_pos a2]; omega
        · by_cases a3 : op = 3
          · rw [if_neg a1, if_neg a2, if_pos a3, if_neg a1, if_neg a2, if_neg (by omega)]; omega
          · have := h4 a3
            by_cases a4 : op = 4
            · rw [if_neg a1, if_neg a2, if_neg a3, if_pos a4, if_neg a1, if_neg a2, if_neg (by omega)]; omega
            · rw [if_neg a1, if_neg a2, if_neg a3, if_neg a4, if_neg a1, if_neg a2, if_pos (by omega)]; omega
    have e2 : cntQ op pts = pts := by
      unfold cntQ
      by_cases a : op = 1 ∨ op = 2 ∨ op = 3 ∨ op = 4
      · rw [if_pos a]; have := h8 (by omega); omega
      · rw [if_neg a]
    rw [e1, e2] at hl
    push_cast
    omega
  unfold hdecode
  rw [if_pos hc, hp]
  dsimp only
  rw [Int.toNat_natCast, List.drop_left' rfl]
theorem gBytes_cons (g : Gr) (gs : List Gr) : gBytes (g :: gs) = g.2.flatMap pt16 ++ gBytes gs := by simp [gBytes]
theorem regsOf_flat : ∀ (gs : List Gr) (hrs : List Rg) (X : List Int), gs.length = hrs.length → (gs.zip hrs).any szBad = false → (gs.zip hrs).any kdBad = false → (∀ g ∈ gs, g.1.n = g.2.length) → (∀ g ∈ gs, ∀ p ∈ g.2, P64 p) →
    regsOf (hrs.map rgBack) (gBytes gs ++ X) = gs.map gdOf ∧ (gBytes gs).length = 16 * nSum hrs
  | [], [], _, _, _, _, _, _ => ⟨rfl, rfl⟩
  | [], _ :: _, _, h, _, _, _, _ => by simp at h
  | _ :: _, [], _, h, _, _, _, _ => by simp at h
  | g :: gs, r :: hrs, X, hl, hs, hk, hn, hp => by
    rw [List.zip_cons_cons, List.any_cons, Bool.or_eq_false_iff] at hs hk
    obtain ⟨i1, i2⟩ := regsOf_flat gs hrs X (by simpa using hl) hs.2 hk.2 (fun x hx => hn x (by simp [hx])) (fun x hx => hp x (by simp [hx]))
    have s0 : (g.1.n : Int) = sizeOfReg r.v := by have := hs.1; unfold szBad at this; simpa using this
    have k0 := hk.1
    unfold kdBad at k0
    rw [Bool.or_eq_false_iff] at k0
    have d0 : g.1.d = r.d := by simpa using k0.1
    have v0 : g.1.v = r.v := by simpa using k0.2
    have hgl : g.2.length = sizeN r.v := by have := hn g (by simp); have := sizeN_cast r.v; omega
    have hfl : (g.2.flatMap pt16).length = 16 * sizeN r.v := by rw [flat_len pt16 16 pt16_length, hgl]; omega
    constructor
    · rw [List.map_cons, regsOf, gBytes_cons, List.append_assoc]
      have e1 : ptsOf (g.2.flatMap pt16 ++ (gBytes gs ++ X)) (sizeN (rgBack r).v) = g.2 := by
        show ptsOf _ (sizeN r.v) = _
        rw [← hgl]; exact ptsOf_flat _ _ (hp g (by simp))
      have e2 : (g.2.flatMap pt16 ++ (gBytes gs ++ X)).drop (16 * sizeN (rgBack r).v) = gBytes gs ++ X := List.drop_left' hfl
      rw [e1, e2, i1, List.map_cons]
      show (r.d, r.v, g.2) :: _ = (g.1.d, g.1.v, g.2) :: _
      rw [d0, v0]
    · rw [gBytes_cons, List.length_append, hfl, i2]
      simp only [nSum, List.map_cons, List.sum_cons]
      omega
/-- Decode inverts Encode. -/
theorem hdecode_encode {op vs pts : Int} {hrs : List Rg} {gs : List Gr} {ps : List (Int × Int)} {qs : List ((Int × Int) × Int)} {b : List Int} (h : hencode op vs hrs pts gs ps qs = (b, 0))
    (hn : ∀ g ∈ gs, g.1.n = g.2.length) (h1 : ∀ g ∈ gs, ∀ p ∈ g.2, P64 p) (h2 : ∀ p ∈ ps, P64 p) (h3 : ∀ q ∈ qs, P64 q.1 ∧ U64 q.2) :
    hdecode b = (⟨⟨op, vs, hrs.map rgBack, pts⟩, gs.map gdOf, ps, qs⟩, 0) ∧ (hrs.map rgBack).map Rg.key = hrs.map Rg.key := by
  unfold hencode at h
  by_cases hc : hcheck op vs hrs pts = 0
  · rw [if_neg (by simpa using hc)] at h
    by_cases ha : gs.length ≠ hrs.length ∨ (ps.length : Int) ≠ cntP op vs ∨ (qs.length : Int) ≠ cntQ op pts
    · rw [if_pos ha] at h; simp at h
    · rw [if_neg ha] at h
      cases hs : (gs.zip hrs).any szBad with
      | true => rw [hs, if_pos rfl] at h; simp at h
      | false =>
        rw [hs, if_neg (by simp)] at h
        cases hk : (gs.zip hrs).any kdBad with
        | true => rw [hk, if_pos rfl] at h; simp at h
        | false =>
          rw [hk, if_neg (by simp)] at h
          simp only [Prod.mk.injEq, and_true] at h
          have hl1 : gs.length = hrs.length := by omega
          obtain ⟨e1, e2⟩ := regsOf_flat gs hrs (ps.flatMap pt16 ++ qs.flatMap q24) hl1 hs hk hn h1
          have hfull := (hcheck_zero hc).2.2.2.2.2.2.2.2
          have hkey := rb_key hrs hfull
          refine ⟨?_, hkey⟩
          have hb : b = fbytes op vs hrs pts ++ (gBytes gs ++ (ps.flatMap pt16 ++ qs.flatMap q24)) := by rw [← h]; simp [List.append_assoc]
          have hlen : ((gBytes gs ++ (ps.flatMap pt16 ++ qs.flatMap q24)).length : Int) = 16 * (nSum hrs : Int) + 16 * cntP op vs + 24 * cntQ op pts := by
            rw [List.length_append, List.length_append, e2, flat_len pt16 16 pt16_length, flat_len q24 24 q24_length]; push_cast; omega
          rw [hb, hdecode_of hc hlen]
          have hd : (gBytes gs ++ (ps.flatMap pt16 ++ qs.flatMap q24)).drop (16 * nSum (hrs.map rgBack)) = ps.flatMap pt16 ++ qs.flatMap q24 := by
            rw [nSum_key hkey]; exact List.drop_left' e2
          have hp : (cntP op vs).toNat = ps.length := by omega
          have hq : (cntQ op pts).toNat = qs.length := by omega
          unfold rqOf
          dsimp only
          rw [e1, hd, hp, hq, ptsOf_flat ps _ h2]
          have hqs : qusOf (ps.flatMap pt16 ++ qs.flatMap q24) qs.length = qs := by
            by_cases h5 : op = 5
            · have : ps = [] := List.eq_nil_of_length_eq_zero (by have : cntP op vs = 0 := by unfold cntP; rw [if_neg (by omega), if_neg (by omega), if_neg (by omega), if_neg (by omega)]
                                                                  omega)
              subst this
              have := qusOf_flat qs [] h3
              simpa using this
            · have hz := hcheck_zero hc
              have : qs = [] := List.eq_nil_of_length_eq_zero (by have : cntQ op pts = 0 := by unfold cntQ; rw [if_pos (by omega)]
                                                                  omega)
              subst this
              rfl
          rw [hqs]
  · rw [if_pos hc] at h
    simp only [Prod.mk.injEq] at h
    exact absurd h.2 hc
theorem canon_regs : ∀ (R : List Rg) (pay : List Int) (gs : List Gr) (hrs : List Rg), gs.map gdOf = regsOf R pay → hrs.map Rg.key = R.map Rg.key → (∀ g ∈ gs, g.1.n = g.2.length) → 16 * nSum R ≤ pay.length → By pay →
    (gs.zip hrs).any szBad = false ∧ (gs.zip hrs).any kdBad = false ∧ gBytes gs = pay.take (16 * nSum R) ∧ gs.length = hrs.length
  | [], pay, gs, hrs, hg, hk, _, _, _ => by
    have e1 : gs = [] := by simpa [regsOf] using hg
    have e2 : hrs = [] := by simpa using hk
    subst e1 e2
    exact ⟨rfl, rfl, by simp [gBytes, nSum], rfl⟩
  | r :: R, pay, gs, hrs, hg, hk, hn, hl, hb => by
    cases gs with
    | nil => simp [regsOf] at hg
    | cons g gs =>
      cases hrs with
      | nil => simp at hk
      | cons h hrs =>
        simp only [List.map_cons, List.cons.injEq, regsOf] at hg hk
        have hns : nSum (r :: R) = sizeN r.v + nSum R := by simp [nSum]
        rw [hns] at hl
        obtain ⟨i1, i2, i3, i4⟩ := canon_regs R (pay.drop (16 * sizeN r.v)) gs hrs hg.2 hk.2 (fun x hx => hn x (by simp [hx])) (by rw [List.length_drop]; omega) (hb.drop _)
        obtain ⟨g0, _⟩ := hg
        obtain ⟨k0, _⟩ := hk
        simp only [gdOf, Prod.mk.injEq] at g0
        simp only [Rg.key, Prod.mk.injEq] at k0
        have hg2 : g.2.length = sizeN r.v := by rw [g0.2.2, ptsOf_length]
        have hgn := hn g (by simp)
        have sz : szBad (g, h) = false := by
          unfold szBad; dsimp only; rw [k0.2.1, ← sizeN_cast]; simp; omega
        have kd : kdBad (g, h) = false := by
          unfold kdBad; dsimp only; rw [k0.1, k0.2.1, g0.1, g0.2.1]; simp
        refine ⟨?_, ?_, ?_, by simp [i4]⟩
        · rw [List.zip_cons_cons, List.any_cons, sz, i1]; rfl
        · rw [List.zip_cons_cons, List.any_cons, kd, i2]; rfl
        · rw [gBytes_cons, i3, g0.2.2, flat_ptsOf _ _ (by omega) hb, hns, Nat.mul_add, List.take_add]
/-- Encode's bytes of what was decoded -/
theorem hencode_canon {op vs pts : Int} {rs hrs : List Rg} {gs : List Gr} {pl : List Int} (h : hcheck op vs rs pts = 0) (hl : (pl.length : Int) = 16 * (nSum rs : Int) + 16 * cntP op vs + 24 * cntQ op pts) (hby : By pl)
    (hk : hrs.map Rg.key = (rs.map rgBack).map Rg.key) (hg : gs.map gdOf = regsOf (rs.map rgBack) pl) (hn : ∀ g ∈ gs, g.1.n = g.2.length) :
    hencode op vs hrs pts gs (rqOf ⟨op, vs, rs.map rgBack, pts⟩ pl).ps (rqOf ⟨op, vs, rs.map rgBack, pts⟩ pl).qs = (fbytes op vs rs pts ++ pl, 0) := by
  obtain ⟨z1, z2, z3, z4, z5, z6, z7, z8, hfull⟩ := hcheck_zero h
  have hkr := rb_key rs hfull
  have hkk := hk.trans hkr
  have hns := nSum_key hkr
  have hP0 : 0 ≤ cntP op vs := by unfold cntP; split <;> (try split) <;> (try split) <;> (try split) <;> omega
  have hQ0 : 0 ≤ cntQ op pts := by
    unfold cntQ; split
    · omega
    · have := z7 (by omega); omega
  obtain ⟨c1, c2, c3, c4⟩ := canon_regs (rs.map rgBack) pl gs hrs hg hk hn (by rw [hns]; omega) hby
  unfold hencode rqOf
  dsimp only
  rw [hcheck_key hkk, if_neg (by simpa using h), ptsOf_length, qusOf_length, if_neg (by omega), c1, if_neg (by simp), c2, if_neg (by simp), c3, hns, fbytes_key hkk]
  have hd : (pl.drop (16 * nSum rs)).length = 16 * (cntP op vs).toNat + 24 * (cntQ op pts).toNat := by rw [List.length_drop]; omega
  rw [flat_ptsOf _ _ (by omega) (hby.drop _), flat_qusOf _ _ (by omega) (hby.drop _)]
  have hPQ : (cntP op vs).toNat = 0 ∨ (cntQ op pts).toNat = 0 := by
    by_cases h5 : op = 5
    · left; unfold cntP; rw [if_neg (by omega), if_neg (by omega), if_neg (by omega), if_neg (by omega)]; rfl
    · right; unfold cntQ; rw [if_pos (by omega)]; rfl
  have ht : (pl.drop (16 * nSum rs)).take (16 * (cntP op vs).toNat) ++ (pl.drop (16 * nSum rs)).take (24 * (cntQ op pts).toNat) = pl.drop (16 * nSum rs) := by
    rcases hPQ with e | e
    · rw [e] at hd ⊢
      rw [Nat.mul_zero, List.take_zero, List.nil_append, List.take_of_length_le (by omega)]
    · rw [e] at hd ⊢
      rw [Nat.mul_zero, List.take_zero, List.append_nil, List.take_of_length_le (by omega)]
  rw [List.append_assoc, ht, List.append_assoc, List.take_append_drop]
end Go.Proofs.YtpnoofphfomjoaaGreatDoor
