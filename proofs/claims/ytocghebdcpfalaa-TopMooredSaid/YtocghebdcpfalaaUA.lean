/- UA, merged: Uz, TUa, Ub, TUc, Uc, Ud. -/
import Derived.Test.YtocghebdcpfalaaMD
set_option linter.unusedSimpArgs false
set_option linter.unusedVariables false
/- TopMoored: what its functions answer, and the plain law. -/
namespace Go.Proofs.Ytocghebdcpfalaa
open Go.RowKit
def moorB (ax ay dl dh ch : Int) : Bool := placeB ax ay && (spanB dl dh && decide (0 ≤ dl ∧ dh ≤ 100000)) && decide (0 ≤ ch ∧ ch ≤ 1000000)
def htB (lo hi : Int) : Bool := spanB lo hi && decide (-100000 ≤ lo ∧ hi ≤ 100000)
/-- The least depth of the water. -/
def dep (d h : Int) : Int := max 0 (d + h)
def hasB (x y d h ch : Int) : Bool := decide (100 * (x * x + y * y) + dep d h * dep d h ≤ ch * ch)
def offI (lo hi n : Int) : Int := max (max (lo - n) (n - hi)) 0
def crs (ax ay bx b : Int) : Int := ax * b - ay * bx
def dirB (x y : Int) : Bool := decide (max x y ≤ 1000000 ∧ -1000000 ≤ min x y)
def idB (n : Int) : Bool := decide (1 ≤ n ∧ n ≤ 100000)
/-- A report: whose sighting of what when; the box of the ship; two directions; how far. -/
structure Rep where
  (ship num time buoy a b c d fx fy tx ty far : Int)
def Rep.ok (r : Rep) : Bool := idB r.ship && (idB r.num && (idB r.buoy && decide (0 ≤ r.time ∧ r.time ≤ 10000000 ∧ 0 ≤ r.far ∧ r.far ≤ 1000000))) && (boxB r.a r.b r.c r.d && (dirB r.fx r.fy && (dirB r.tx r.ty && decide (0 < crs r.fx r.fy r.tx r.ty))))
def leadsB (lo hi f t : Int) : Bool := decide ((lo ≤ 0 ∨ 0 < f ∨ 0 < t) ∧ (0 ≤ hi ∨ f < 0 ∨ t < 0))
def some4 (p : Int → Int → Bool) (xl xh yl yh : Int) : Bool := p xl yl || (p xl yh || (p xh yl || p xh yh))
def leftB (fx fy x y : Int) : Bool := decide (0 ≤ crs fx fy x y)
def rightB (tx ty x y : Int) : Bool := decide (0 ≤ crs x y tx ty)
def coneB (fx fy tx ty xl xh yl yh : Int) : Bool := leadsB xl xh fx tx && (leadsB yl yh fy ty && (some4 (leftB fx fy) xl xh yl yh && some4 (rightB tx ty) xl xh yl yh))
/-- Does a report allow some point of a box? -/
def Rep.sees (r : Rep) (e f g h : Int) : Bool :=
  decide (max (e - r.b) (-r.far) ≤ min (f - r.a) r.far ∧ max (g - r.d) (-r.far) ≤ min (h - r.c) r.far) &&
  coneB r.fx r.fy r.tx r.ty (max (e - r.b) (-r.far)) (min (f - r.a) r.far) (max (g - r.d) (-r.far)) (min (h - r.c) r.far)
def reachLo (s f t far : Int) : Int := if min f t < 0 then max (s - far) (-1000000) else s
def reachHi (s f t far : Int) : Int := if 0 < max f t then min (s + far) 1000000 else s
theorem lin_top (α β : Int) {x y xl xh yl yh : Int} (h1 : xl ≤ x) (h2 : x ≤ xh) (h3 : yl ≤ y) (h4 : y ≤ yh) :
    ∃ X Y, (X = xl ∨ X = xh) ∧ (Y = yl ∨ Y = yh) ∧ α * x + β * y ≤ α * X + β * Y := by
  have hx : ∃ X, (X = xl ∨ X = xh) ∧ α * x ≤ α * X := by
    rcases Int.le_total 0 α with h | h
    · exact ⟨xh, .inr rfl, Int.mul_le_mul_of_nonneg_left h2 h⟩
    · exact ⟨xl, .inl rfl, Int.mul_le_mul_of_nonpos_left h h1⟩
  have hy : ∃ Y, (Y = yl ∨ Y = yh) ∧ β * y ≤ β * Y := by
    rcases Int.le_total 0 β with h | h
    · exact ⟨yh, .inr rfl, Int.mul_le_mul_of_nonneg_left h4 h⟩
    · exact ⟨yl, .inl rfl, Int.mul_le_mul_of_nonpos_left h h3⟩
  obtain ⟨X, a1, a2⟩ := hx
  obtain ⟨Y, b1, b2⟩ := hy
  exact ⟨X, Y, a1, b1, by omega⟩
theorem some4_iff {p : Int → Int → Bool} {xl xh yl yh : Int} : some4 p xl xh yl yh = true ↔ ∃ X Y, (X = xl ∨ X = xh) ∧ (Y = yl ∨ Y = yh) ∧ p X Y = true := by
  unfold some4
  simp only [Bool.or_eq_true]
  constructor
  · rintro (h | h | h | h)
    · exact ⟨_, _, .inl rfl, .inl rfl, h⟩
    · exact ⟨_, _, .inl rfl, .inr rfl, h⟩
    · exact ⟨_, _, .inr rfl, .inl rfl, h⟩
    · exact ⟨_, _, .inr rfl, .inr rfl, h⟩
  · rintro ⟨X, Y, rfl | rfl, rfl | rfl, h⟩
    · exact .inl h
    · exact .inr (.inl h)
    · exact .inr (.inr (.inl h))
    · exact .inr (.inr (.inr h))
theorem some4_more {p : Int → Int → Bool} (α β : Int) (hp : ∀ x y, p x y = true ↔ 0 ≤ α * x + β * y) {xl xh yl yh Xl Xh Yl Yh : Int} (hx : xl ≤ xh) (hy : yl ≤ yh) (h1 : Xl ≤ xl) (h2 : xh ≤ Xh) (h3 : Yl ≤ yl) (h4 : yh ≤ Yh)
    (h : some4 p xl xh yl yh = true) : some4 p Xl Xh Yl Yh = true := by
  rw [some4_iff] at h ⊢
  obtain ⟨x, y, hx', hy', hxy⟩ := h
  rw [hp] at hxy
  obtain ⟨X, Y, a1, a2, a3⟩ := lin_top α β (show Xl ≤ x by omega) (show x ≤ Xh by omega) (show Yl ≤ y by omega) (show y ≤ Yh by omega)
  exact ⟨X, Y, a1, a2, (hp X Y).2 (by omega)⟩
theorem leftB_iff (fx fy x y : Int) : leftB fx fy x y = true ↔ 0 ≤ (-fy) * x + fx * y := by
  unfold leftB crs
  rw [decide_eq_true_eq, Int.neg_mul]
  omega
theorem rightB_iff (tx ty x y : Int) : rightB tx ty x y = true ↔ 0 ≤ ty * x + (-tx) * y := by
  unfold rightB crs
  rw [decide_eq_true_eq, Int.neg_mul, Int.mul_comm ty x, Int.mul_comm tx y]
  omega
theorem leads_more {lo hi f t Lo Hi : Int} (h1 : Lo ≤ lo) (h2 : hi ≤ Hi) (h : leadsB lo hi f t = true) : leadsB Lo Hi f t = true := by
  unfold leadsB at h ⊢
  rw [decide_eq_true_eq] at h ⊢
  omega
/-- What allows a point allows each box that has it. -/
theorem sees_more {r : Rep} {x y e f g h : Int} (h1 : e ≤ x ∧ x ≤ f) (h2 : g ≤ y ∧ y ≤ h) (hs : r.sees x x y y = true) : r.sees e f g h = true := by
  unfold Rep.sees coneB at hs ⊢
  simp only [Bool.and_eq_true, decide_eq_true_eq] at hs ⊢
  obtain ⟨⟨q1, q2⟩, q3, q4, q5, q6⟩ := hs
  have a1 : max (e - r.b) (-r.far) ≤ max (x - r.b) (-r.far) := by omega
  have a2 : min (x - r.a) r.far ≤ min (f - r.a) r.far := by omega
  have a3 : max (g - r.d) (-r.far) ≤ max (y - r.d) (-r.far) := by omega
  have a4 : min (y - r.c) r.far ≤ min (h - r.c) r.far := by omega
  exact ⟨⟨by omega, by omega⟩, leads_more a1 a2 q3, leads_more a3 a4 q4, some4_more _ _ (leftB_iff _ _) q1 q2 a1 a2 a3 a4 q5, some4_more _ _ (rightB_iff _ _) q1 q2 a1 a2 a3 a4 q6⟩
theorem reach_has {a b far f t p : Int} (ha : -1000000 ≤ a) (hb : b ≤ 1000000) (hp : -1000000 ≤ p ∧ p ≤ 1000000) (hf : 0 ≤ far) (h : max (p - b) (-far) ≤ min (p - a) far) (hl : leadsB (max (p - b) (-far)) (min (p - a) far) f t = true) :
    reachLo a f t far ≤ p ∧ p ≤ reachHi b f t far := by
  unfold leadsB at hl
  rw [decide_eq_true_eq] at hl
  unfold reachLo reachHi
  constructor
  · split <;> omega
  · split <;> omega
/-- What a report allows is in its box. -/
theorem sees_box {r : Rep} (hr : r.ok = true) {x y : Int} (hp : placeB x y = true) (hs : r.sees x x y y = true) :
    (reachLo r.a r.fx r.tx r.far ≤ x ∧ x ≤ reachHi r.b r.fx r.tx r.far) ∧ reachLo r.c r.fy r.ty r.far ≤ y ∧ y ≤ reachHi r.d r.fy r.ty r.far := by
  unfold Rep.sees coneB at hs
  simp only [Bool.and_eq_true, decide_eq_true_eq] at hs
  unfold Rep.ok boxB at hr
  simp only [Bool.and_eq_true, decide_eq_true_eq] at hr
  simp only [placeB, decide_eq_true_eq] at hp
  obtain ⟨⟨q1, q2⟩, q3, q4, _, _⟩ := hs
  exact ⟨reach_has (by omega) (by omega) (by omega) (by omega) q1 q3, reach_has (by omega) (by omega) (by omega) (by omega) q2 q4⟩
theorem reach_box {r : Rep} (hr : r.ok = true) : boxB (reachLo r.a r.fx r.tx r.far) (reachHi r.b r.fx r.tx r.far) (reachLo r.c r.fy r.ty r.far) (reachHi r.d r.fy r.ty r.far) = true := by
  unfold Rep.ok boxB at hr
  simp only [Bool.and_eq_true, decide_eq_true_eq] at hr
  unfold boxB reachLo reachHi
  rw [decide_eq_true_eq]
  refine ⟨?_, ?_⟩
  · split <;> split <;> omega
  · split <;> split <;> omega
theorem sq_le {a b : Int} (h1 : -b ≤ a) (h2 : a ≤ b) : a * a ≤ b * b := by
  have h3 : 0 ≤ (b - a) * (b + a) := Int.mul_nonneg (by omega) (by omega)
  have e : (b - a) * (b + a) = b * b - a * a := by grind
  omega
theorem dep_le {d h l : Int} (hl : l ≤ h) : dep d l * dep d l ≤ dep d h * dep d h := by
  unfold dep
  exact sq_le (by omega) (by omega)
/-- If the buoy can be at a place at a height, it can be in a box that has the place, at heights that have the height. -/
theorem has_box {ax ay d h l ch x y e f g i : Int} (hl : l ≤ h) (h1 : e ≤ x ∧ x ≤ f) (h2 : g ≤ y ∧ y ≤ i) (hh : hasB (x - ax) (y - ay) d h ch = true) : hasB (offI e f ax) (offI g i ay) d l ch = true := by
  unfold hasB at hh ⊢
  rw [decide_eq_true_eq] at hh ⊢
  have a1 : offI e f ax * offI e f ax ≤ (x - ax) * (x - ax) := by
    unfold offI
    rcases Int.le_total ax x with q | q
    · exact sq_le (by omega) (by omega)
    · have := sq_le (a := max (max (e - ax) (ax - f)) 0) (b := ax - x) (by omega) (by omega)
      have e0 : (ax - x) * (ax - x) = (x - ax) * (x - ax) := by grind
      omega
  have a2 : offI g i ay * offI g i ay ≤ (y - ay) * (y - ay) := by
    unfold offI
    rcases Int.le_total ay y with q | q
    · exact sq_le (by omega) (by omega)
    · have := sq_le (a := max (max (g - ay) (ay - i)) 0) (b := ay - y) (by omega) (by omega)
      have e0 : (ay - y) * (ay - y) = (y - ay) * (y - ay) := by grind
      omega
  have a3 := dep_le (d := d) hl
  omega
/-- .. and the place is in the box of the radius. -/
theorem has_swing {ax ay d h l ch x y r : Int} (hr : 0 ≤ r) (hl : l ≤ h) (hh : hasB (x - ax) (y - ay) d h ch = true) (hm : ch * ch - dep d l * dep d l ≤ 100 * (r * r)) : (ax - r ≤ x ∧ x ≤ ax + r) ∧ ay - r ≤ y ∧ y ≤ ay + r := by
  unfold hasB at hh
  rw [decide_eq_true_eq] at hh
  have a3 := dep_le (d := d) hl
  have s1 := sq_nn (x - ax)
  have s2 := sq_nn (y - ay)
  have key : ∀ u : Int, u * u ≤ r * r → -r ≤ u ∧ u ≤ r := by
    intro u hu
    constructor
    · rcases Int.lt_or_le u (-r) with q | q
      · have h1 : 0 < (-r - u) * (r - u) := Int.mul_pos (by omega) (by omega)
        have e0 : (-r - u) * (r - u) = u * u - r * r := by grind
        omega
      · exact q
    · rcases Int.lt_or_le r u with q | q
      · have h1 : 0 < (u - r) * (u + r) := Int.mul_pos (by omega) (by omega)
        have e0 : (u - r) * (u + r) = u * u - r * r := by grind
        omega
      · exact q
  have := key (x - ax) (by omega)
  have := key (y - ay) (by omega)
  omega
end Go.Proofs.Ytocghebdcpfalaa
/- TopMoored: trees of the functions that look at single things. -/
namespace Go.Proofs.Ytocghebdcpfalaa
open Go.RowKit
def mo : Sh := .agg (List.replicate 5 (.int .i64))
def repK : List CK := List.replicate 13 (.int .i64)
def rep : Sh := .agg repK
def reps : Sh := .one (.sl repK)
def tid : Sh := .agg [.int .i64, .int .i64, .sl [.int .i64, .int .i64]]
-- term trMoV: call Try.prog ct6 (Lt.of []) 100 25 (symArgs 0 [mo]) [] 0
def trMoV : TT OpR :=
(.ite (.fn 3 (.i (.var 0) (.i (.var 1) .nil)))
  (.ite (.fn 30 (.i (.var 2) (.i (.var 3) .nil)))
    (.ite (.cmp .geq (.var 2) (.lit 0))
      (.ite (.cmp .leq (.var 3) (.lit 100000))
        (.ite (.cmp .geq (.var 4) (.lit 0))
          (.ret ((.v (.one (.z (.bool (.cmp .leq (.var 4) (.lit 1000000)))))), [], 3))
          (.ret ((.v (.one (.z (.bool (.lit false))))), [], 3)))
        (.ret ((.v (.one (.z (.bool (.lit false))))), [], 3)))
      (.ret ((.v (.one (.z (.bool (.lit false))))), [], 3)))
    (.ret ((.v (.one (.z (.bool (.lit false))))), [], 3)))
  (.ret ((.v (.one (.z (.bool (.lit false))))), [], 1)))
-- end trMoV
set_option maxRecDepth 100000 in
theorem trMoV_is : T.norm 0 (call Try.prog ct6 (Lt.of []) 100 25 (symArgs 0 [mo]) [] 0) TT.ret = trMoV := by kernel_rfl
theorem trMoV_low : trMoV.low 1000 = true := by kernel_rfl
-- term trMoH: call Try.prog ct6 (Lt.of []) 100 26 (symArgs 0 [sp]) [] 0
def trMoH : TT OpR :=
(.ite (.fn 30 (.i (.var 0) (.i (.var 1) .nil)))
  (.ite (.cmp .geq (.var 0) (.lit (-100000)))
    (.ret ((.v (.one (.z (.bool (.cmp .leq (.var 1) (.lit 100000)))))), [], 2))
    (.ret ((.v (.one (.z (.bool (.lit false))))), [], 2)))
  (.ret ((.v (.one (.z (.bool (.lit false))))), [], 2)))
-- end trMoH
set_option maxRecDepth 100000 in
theorem trMoH_is : T.norm 0 (call Try.prog ct6 (Lt.of []) 100 26 (symArgs 0 [sp]) [] 0) TT.ret = trMoH := by kernel_rfl
theorem trMoH_low : trMoH.low 1000 = true := by kernel_rfl
-- term trTiH: call Try.prog ct6 (Lt.of []) 100 45 (symArgs 0 [sp]) [] 0
def trTiH : TT OpR :=
(.ite (.fn 30 (.i (.var 0) (.i (.var 1) .nil)))
  (.ite (.cmp .geq (.var 0) (.lit (-100000)))
    (.ret ((.v (.one (.z (.bool (.cmp .leq (.var 1) (.lit 100000)))))), [], 1))
    (.ret ((.v (.one (.z (.bool (.lit false))))), [], 1)))
  (.ret ((.v (.one (.z (.bool (.lit false))))), [], 1)))
-- end trTiH
set_option maxRecDepth 100000 in
theorem trTiH_is : T.norm 0 (call Try.prog ct6 (Lt.of []) 100 45 (symArgs 0 [sp]) [] 0) TT.ret = trTiH := by kernel_rfl
theorem trTiH_low : trTiH.low 1000 = true := by kernel_rfl
-- term trSiV: call Try.prog ct6 (Lt.of []) 100 29 (symArgs 0 [rep]) [] 0
def trSiV : TT OpR :=
(.ite (.cmp .geq (.var 0) (.lit 1))
  (.ite (.not (.cmp .leq (.var 0) (.lit 100000)))
    (.ret ((.v (.one (.z (.bool (.lit false))))), [], 1))
    (.ite (.cmp .geq (.var 1) (.lit 1))
      (.ite (.not (.cmp .leq (.var 1) (.lit 100000)))
        (.ret ((.v (.one (.z (.bool (.lit false))))), [], 1))
        (.ite (.cmp .geq (.var 3) (.lit 1))
          (.ite (.not (.cmp .leq (.var 3) (.lit 100000)))
            (.ret ((.v (.one (.z (.bool (.lit false))))), [], 1))
            (.ite (.cmp .lss (.var 2) (.lit 0))
              (.ret ((.v (.one (.z (.bool (.lit false))))), [], 1))
              (.ite (.cmp .gtr (.var 2) (.lit 10000000))
                (.ret ((.v (.one (.z (.bool (.lit false))))), [], 1))
                (.ite (.cmp .lss (.var 12) (.lit 0))
                  (.ret ((.v (.one (.z (.bool (.lit false))))), [], 1))
                  (.ite (.cmp .gtr (.var 12) (.lit 1000000))
                    (.ret ((.v (.one (.z (.bool (.lit false))))), [], 1))
                    (.ite (.fn 31 (.i (.var 4) (.i (.var 5) (.i (.var 6) (.i (.var 7) .nil)))))
                      (.ite (.cmp .leq (.mx (.var 8) (.var 9)) (.lit 1000000))
                        (.ite (.cmp .geq (.mn (.var 8) (.var 9)) (.lit (-1000000)))
                          (.ite (.cmp .leq (.mx (.var 10) (.var 11)) (.lit 1000000))
                            (.ite (.cmp .geq (.mn (.var 10) (.var 11)) (.lit (-1000000)))
                              (.ret ((.v (.one (.z (.bool (.cmp .gtr (.ar .sub .i64 (.ar .mul .i64 (.var 8) (.var 11)) (.ar .mul .i64 (.var 9) (.var 10))) (.lit 0)))))), [], 5))
                              (.ret ((.v (.one (.z (.bool (.lit false))))), [], 3)))
                            (.ret ((.v (.one (.z (.bool (.lit false))))), [], 3)))
                          (.ret ((.v (.one (.z (.bool (.lit false))))), [], 2)))
                        (.ret ((.v (.one (.z (.bool (.lit false))))), [], 2)))
                      (.ret ((.v (.one (.z (.bool (.lit false))))), [], 1))))))))
          (.ret ((.v (.one (.z (.bool (.lit false))))), [], 1))))
      (.ret ((.v (.one (.z (.bool (.lit false))))), [], 1))))
  (.ret ((.v (.one (.z (.bool (.lit false))))), [], 1)))
-- end trSiV
set_option maxRecDepth 100000 in
theorem trSiV_is : T.norm 0 (call Try.prog ct6 (Lt.of []) 100 29 (symArgs 0 [rep]) [] 0) TT.ret = trSiV := by kernel_rfl
theorem trSiV_low : trSiV.low 1000 = true := by kernel_rfl
-- term trRId: call Try.prog ct6 (Lt.of []) 100 39 (symArgs 0 [it]) [] 0
def trRId : TT OpR :=
(.ite (.cmp .geq (.var 0) (.lit 1))
  (.ret ((.v (.one (.z (.bool (.cmp .leq (.var 0) (.lit 100000)))))), [], 0))
  (.ret ((.v (.one (.z (.bool (.lit false))))), [], 0)))
-- end trRId
set_option maxRecDepth 100000 in
theorem trRId_is : T.norm 0 (call Try.prog ct6 (Lt.of []) 100 39 (symArgs 0 [it]) [] 0) TT.ret = trRId := by kernel_rfl
theorem trRId_low : trRId.low 1000 = true := by kernel_rfl
-- term trRDir: call Try.prog ct6 (Lt.of []) 100 41 (symArgs 0 [pt]) [] 0
def trRDir : TT OpR :=
(.ite (.cmp .geq (.var 0) (.lit (-1000000)))
  (.ite (.cmp .leq (.var 0) (.lit 1000000))
    (.ite (.cmp .geq (.var 1) (.lit (-1000000)))
      (.ret ((.v (.one (.z (.bool (.cmp .leq (.var 1) (.lit 1000000)))))), [], 1))
      (.ret ((.v (.one (.z (.bool (.lit false))))), [], 1)))
    (.ret ((.v (.one (.z (.bool (.lit false))))), [], 1)))
  (.ret ((.v (.one (.z (.bool (.lit false))))), [], 1)))
-- end trRDir
set_option maxRecDepth 100000 in
theorem trRDir_is : T.norm 0 (call Try.prog ct6 (Lt.of []) 100 41 (symArgs 0 [pt]) [] 0) TT.ret = trRDir := by kernel_rfl
theorem trRDir_low : trRDir.low 1000 = true := by kernel_rfl
-- term trRBox: call Try.prog ct6 (Lt.of []) 100 40 (symArgs 0 [bx]) [] 0
def trRBox : TT OpR :=
(.ite (.cmp .geq (.var 0) (.lit (-1000000)))
  (.ite (.cmp .leq (.var 0) (.var 1))
    (.ite (.cmp .geq (.var 2) (.lit (-1000000)))
      (.ite (.cmp .leq (.var 2) (.var 3))
        (.ite (.cmp .leq (.var 1) (.lit 1000000))
          (.ret ((.v (.one (.z (.bool (.cmp .leq (.var 3) (.lit 1000000)))))), [], 3))
          (.ret ((.v (.one (.z (.bool (.lit false))))), [], 3)))
        (.ite (.cmp .leq (.var 1) (.lit 1000000))
          (.ret ((.v (.one (.z (.bool (.lit false))))), [], 3))
          (.ret ((.v (.one (.z (.bool (.lit false))))), [], 3))))
      (.ite (.cmp .leq (.var 1) (.lit 1000000))
        (.ret ((.v (.one (.z (.bool (.lit false))))), [], 3))
        (.ret ((.v (.one (.z (.bool (.lit false))))), [], 3))))
    (.ite (.cmp .geq (.var 2) (.lit (-1000000)))
      (.ite (.cmp .leq (.var 2) (.var 3))
        (.ret ((.v (.one (.z (.bool (.lit false))))), [], 3))
        (.ret ((.v (.one (.z (.bool (.lit false))))), [], 3)))
      (.ret ((.v (.one (.z (.bool (.lit false))))), [], 3))))
  (.ite (.cmp .geq (.var 2) (.lit (-1000000)))
    (.ite (.cmp .leq (.var 2) (.var 3))
      (.ret ((.v (.one (.z (.bool (.lit false))))), [], 3))
      (.ret ((.v (.one (.z (.bool (.lit false))))), [], 3)))
    (.ret ((.v (.one (.z (.bool (.lit false))))), [], 3))))
-- end trRBox
set_option maxRecDepth 100000 in
theorem trRBox_is : T.norm 0 (call Try.prog ct6 (Lt.of []) 100 40 (symArgs 0 [bx]) [] 0) TT.ret = trRBox := by kernel_rfl
theorem trRBox_low : trRBox.low 1000 = true := by kernel_rfl
-- term trSpMeet: call Try.prog ct6 (Lt.of []) 100 37 (symArgs 0 [sp, sp]) [] 0
def trSpMeet : TT OpR :=
(.ite (.not (.fn 30 (.i (.var 0) (.i (.var 1) .nil))))
  (.ret ((.tup [(.agg [(.z (.int .i64 (.lit 0))), (.z (.int .i64 (.lit 0)))]), (.one (.z (.int .i64 (.lit 1))))]), [], 3))
  (.ite (.not (.fn 30 (.i (.var 2) (.i (.var 3) .nil))))
    (.ret ((.tup [(.agg [(.z (.int .i64 (.lit 0))), (.z (.int .i64 (.lit 0)))]), (.one (.z (.int .i64 (.lit 1))))]), [], 3))
    (.ite (.cmp .lss (.mn (.var 1) (.var 3)) (.mx (.var 0) (.var 2)))
      (.ret ((.tup [(.agg [(.z (.int .i64 (.lit 0))), (.z (.int .i64 (.lit 0)))]), (.one (.z (.int .i64 (.lit 4))))]), [], 4))
      (.ret ((.tup [(.agg [(.z (.int .i64 (.mx (.var 0) (.var 2)))), (.z (.int .i64 (.mn (.var 1) (.var 3))))]), (.one (.z (.int .i64 (.lit 0))))]), [], 4)))))
-- end trSpMeet
set_option maxRecDepth 100000 in
theorem trSpMeet_is : T.norm 0 (call Try.prog ct6 (Lt.of []) 100 37 (symArgs 0 [sp, sp]) [] 0) TT.ret = trSpMeet := by kernel_rfl
theorem trSpMeet_low : trSpMeet.low 1000 = true := by kernel_rfl
-- term trSpJoin: call Try.prog ct6 (Lt.of []) 100 24 (symArgs 0 [sp, sp]) [] 0
def trSpJoin : TT OpR :=
(.ite (.not (.fn 30 (.i (.var 0) (.i (.var 1) .nil))))
  (.ret ((.tup [(.agg [(.z (.int .i64 (.lit 0))), (.z (.int .i64 (.lit 0)))]), (.one (.z (.int .i64 (.lit 1))))]), [], 3))
  (.ite (.not (.fn 30 (.i (.var 2) (.i (.var 3) .nil))))
    (.ret ((.tup [(.agg [(.z (.int .i64 (.lit 0))), (.z (.int .i64 (.lit 0)))]), (.one (.z (.int .i64 (.lit 1))))]), [], 3))
    (.ret ((.tup [(.agg [(.z (.int .i64 (.mn (.var 0) (.var 2)))), (.z (.int .i64 (.mx (.var 1) (.var 3))))]), (.one (.z (.int .i64 (.lit 0))))]), [], 3))))
-- end trSpJoin
set_option maxRecDepth 100000 in
theorem trSpJoin_is : T.norm 0 (call Try.prog ct6 (Lt.of []) 100 24 (symArgs 0 [sp, sp]) [] 0) TT.ret = trSpJoin := by kernel_rfl
theorem trSpJoin_low : trSpJoin.low 1000 = true := by kernel_rfl
-- term trSpSub: call Try.prog ct6 (Lt.of []) 100 57 (symArgs 0 [sp, sp]) [] 0
def trSpSub : TT OpR :=
(.ite (.not (.fn 30 (.i (.var 0) (.i (.var 1) .nil))))
  (.ret ((.tup [(.agg [(.z (.int .i64 (.lit 0))), (.z (.int .i64 (.lit 0)))]), (.one (.z (.int .i64 (.lit 1))))]), [], 3))
  (.ite (.not (.fn 30 (.i (.var 2) (.i (.var 3) .nil))))
    (.ret ((.tup [(.agg [(.z (.int .i64 (.lit 0))), (.z (.int .i64 (.lit 0)))]), (.one (.z (.int .i64 (.lit 1))))]), [], 3))
    (.ite (.not (.fn 30 (.i (.ar .sub .i64 (.var 0) (.var 3)) (.i (.ar .sub .i64 (.var 1) (.var 2)) .nil))))
      (.ret ((.tup [(.agg [(.z (.int .i64 (.lit 0))), (.z (.int .i64 (.lit 0)))]), (.one (.z (.int .i64 (.lit 3))))]), [], 5))
      (.ret ((.tup [(.agg [(.z (.int .i64 (.ar .sub .i64 (.var 0) (.var 3)))), (.z (.int .i64 (.ar .sub .i64 (.var 1) (.var 2))))]), (.one (.z (.int .i64 (.lit 0))))]), [], 5)))))
-- end trSpSub
set_option maxRecDepth 100000 in
theorem trSpSub_is : T.norm 0 (call Try.prog ct6 (Lt.of []) 100 57 (symArgs 0 [sp, sp]) [] 0) TT.ret = trSpSub := by kernel_rfl
theorem trSpSub_low : trSpSub.low 1000 = true := by kernel_rfl
-- term trReach: call Try.prog ct6 (Lt.of []) 100 30 (symArgs 0 [sp, it, it, it]) [] 0
def trReach : TT OpR :=
(.ite (.cmp .lss (.mn (.var 2) (.var 3)) (.lit 0))
  (.ite (.cmp .gtr (.mx (.var 2) (.var 3)) (.lit 0))
    (.ret ((.v (.agg [(.z (.int .i64 (.mx (.ar .sub .i64 (.var 0) (.var 4)) (.lit (-1000000))))), (.z (.int .i64 (.mn (.ar .add .i64 (.var 1) (.var 4)) (.lit 1000000))))])), [], 2))
    (.ret ((.v (.agg [(.z (.int .i64 (.mx (.ar .sub .i64 (.var 0) (.var 4)) (.lit (-1000000))))), (.z (.int .i64 (.var 1)))])), [], 2)))
  (.ite (.cmp .gtr (.mx (.var 2) (.var 3)) (.lit 0))
    (.ret ((.v (.agg [(.z (.int .i64 (.var 0))), (.z (.int .i64 (.mn (.ar .add .i64 (.var 1) (.var 4)) (.lit 1000000))))])), [], 2))
    (.ret ((.v (.agg [(.z (.int .i64 (.var 0))), (.z (.int .i64 (.var 1)))])), [], 2))))
-- end trReach
set_option maxRecDepth 100000 in
theorem trReach_is : T.norm 0 (call Try.prog ct6 (Lt.of []) 100 30 (symArgs 0 [sp, it, it, it]) [] 0) TT.ret = trReach := by kernel_rfl
theorem trReach_low : trReach.low 1000 = true := by kernel_rfl
end Go.Proofs.Ytocghebdcpfalaa
/- TopMoored: what the functions answer that look at single things. -/
namespace Go.Proofs.Ytocghebdcpfalaa
open Go.RowKit
def moorL (ds : List D) : Bool := moorB (iAt ds 0) (iAt ds 1) (iAt ds 2) (iAt ds 3) (iAt ds 4)
def htL (ds : List D) : Bool := htB (iAt ds 0) (iAt ds 1)
def repOf (ds : List D) : Rep := ⟨iAt ds 0, iAt ds 1, iAt ds 2, iAt ds 3, iAt ds 4, iAt ds 5, iAt ds 6, iAt ds 7, iAt ds 8, iAt ds 9, iAt ds 10, iAt ds 11, iAt ds 12⟩
def repL (ds : List D) : Bool := (repOf ds).ok
def idL (ds : List D) : Bool := idB (iAt ds 0)
def dirL (ds : List D) : Bool := dirB (iAt ds 0) (iAt ds 1)
theorem K7b3 (W : World) (ds l : List D) : (envOf K7 W ds).fb 3 l = placeL l := by simp only [envOf, K7, K6, K5, K]
theorem K7b30 (W : World) (ds l : List D) : (envOf K7 W ds).fb 30 l = spanL l := by simp only [envOf, K7, K6, K5, K]
theorem K7b31 (W : World) (ds l : List D) : (envOf K7 W ds).fb 31 l = boxL l := by simp only [envOf, K7, K6, K5, K]
theorem place_2 (x y : Int) : placeL [.i x, .i y] = placeB x y := rfl
theorem span_2 (x y : Int) : spanL [.i x, .i y] = spanB x y := rfl
theorem box_4 (a b c d : Int) : boxL [.i a, .i b, .i c, .i d] = boxB a b c d := rfl
theorem gRId : Gives Try.prog 39 [it] (fun ds => .bool (idL ds)) := by
  refine GivesIf.all (fn_gives K7 (by kernel_rfl) (fun ρ h => ct6_ok (K7_K6 (Sees.of h 61))) (by kernel_rfl) trRId_is trRId_low (by decide) (fun W vals ds _ _ => ?_))
  simp only [trRId, TT.sat_ret, TT.sat_ite, TT.sat_ob, TT.sat_next, TT.sat_stuck, put_i, put_b, put_d, put_fi, put_fb, put_fd, Ob.ok, B.ev, E.ev, X.ev, AL.ev, cmp_t, cmp_f, arEv, V.plain, V2.plain, S.plain, S0.plain, V.val, V2.val, S.val, S0.val, bV, iV, List.all_cons, List.all_nil, Bool.and_true, Bool.and_self, envOf_i, envOf_b, envOf_d, List.map_cons, List.map_nil, true_and, Bool.not_eq_true', Bool.not_eq_false', Bool.not_not, Bool.and_eq_true, and_f, cell_lg, cell_lb, cell_lr, cmpP, val_i, val_b, val_d, aget, Nat.reduceBEq, beq_self_eq_true, Bool.false_eq_true, if_true, if_false, Nat.reduceLT, Nat.reduceSub, Nat.sub_self, Nat.lt_irrefl]
  refine ⟨fun h1 => congrArg Value.bool ?_, fun h1 => congrArg Value.bool ?_⟩
  all_goals (rw [Bool.eq_iff_iff]; simp only [idL, idB, cmp_t, cmpP, decide_eq_true_eq, Bool.false_eq_true, false_iff]; omega)
theorem gRDir : Gives Try.prog 41 [pt] (fun ds => .bool (dirL ds)) := by
  refine GivesIf.all (fn_gives K7 (by kernel_rfl) (fun ρ h => ct6_ok (K7_K6 (Sees.of h 61))) (by kernel_rfl) trRDir_is trRDir_low (by decide) (fun W vals ds _ _ => ?_))
  simp only [trRDir, TT.sat_ret, TT.sat_ite, TT.sat_ob, TT.sat_next, TT.sat_stuck, put_i, put_b, put_d, put_fi, put_fb, put_fd, Ob.ok, B.ev, E.ev, X.ev, AL.ev, cmp_t, cmp_f, arEv, V.plain, V2.plain, S.plain, S0.plain, V.val, V2.val, S.val, S0.val, bV, iV, List.all_cons, List.all_nil, Bool.and_true, Bool.and_self, envOf_i, envOf_b, envOf_d, List.map_cons, List.map_nil, true_and, Bool.not_eq_true', Bool.not_eq_false', Bool.not_not, Bool.and_eq_true, and_f, cell_lg, cell_lb, cell_lr, cmpP, val_i, val_b, val_d, aget, Nat.reduceBEq, beq_self_eq_true, Bool.false_eq_true, if_true, if_false, Nat.reduceLT, Nat.reduceSub, Nat.sub_self, Nat.lt_irrefl]
  refine ⟨fun h1 => ⟨fun h2 => ⟨fun h3 => congrArg Value.bool ?_, fun h3 => congrArg Value.bool ?_⟩, fun h2 => congrArg Value.bool ?_⟩, fun h1 => congrArg Value.bool ?_⟩
  all_goals (rw [Bool.eq_iff_iff]; simp only [dirL, dirB, cmp_t, cmpP, decide_eq_true_eq, Bool.false_eq_true, false_iff]; omega)
theorem gRBox : Gives Try.prog 40 [bx] (fun ds => .bool (boxL ds)) := by
  refine GivesIf.all (fn_gives K7 (by kernel_rfl) (fun ρ h => ct6_ok (K7_K6 (Sees.of h 61))) (by kernel_rfl) trRBox_is trRBox_low (by decide) (fun W vals ds _ _ => ?_))
  simp only [trRBox, TT.sat_ret, TT.sat_ite, TT.sat_ob, TT.sat_next, TT.sat_stuck, put_i, put_b, put_d, put_fi, put_fb, put_fd, Ob.ok, B.ev, E.ev, X.ev, AL.ev, cmp_t, cmp_f, arEv, V.plain, V2.plain, S.plain, S0.plain, V.val, V2.val, S.val, S0.val, bV, iV, List.all_cons, List.all_nil, Bool.and_true, Bool.and_self, envOf_i, envOf_b, envOf_d, List.map_cons, List.map_nil, true_and, Bool.not_eq_true', Bool.not_eq_false', Bool.not_not, Bool.and_eq_true, and_f, cell_lg, cell_lb, cell_lr, cmpP, val_i, val_b, val_d, aget, Nat.reduceBEq, beq_self_eq_true, Bool.false_eq_true, if_true, if_false, Nat.reduceLT, Nat.reduceSub, Nat.sub_self, Nat.lt_irrefl]
  repeat' (first | refine And.intro ?_ ?_ | intro _)
  all_goals (refine congrArg Value.bool ?_; rw [Bool.eq_iff_iff]; simp only [boxL, boxB, cmp_t, cmpP, decide_eq_true_eq, Bool.false_eq_true, false_iff]; omega)
theorem gMoV : Gives Try.prog 25 [mo] (fun ds => .bool (moorL ds)) := by
  refine GivesIf.all (fn_gives K7 (by kernel_rfl) (fun ρ h => ct6_ok (K7_K6 (Sees.of h 61))) (by kernel_rfl) trMoV_is trMoV_low (by decide) (fun W vals ds _ _ => ?_))
  simp only [trMoV, TT.sat_ret, TT.sat_ite, TT.sat_ob, TT.sat_next, TT.sat_stuck, put_i, put_b, put_d, put_fi, put_fb, put_fd, Ob.ok, B.ev, E.ev, X.ev, AL.ev, cmp_t, cmp_f, arEv, V.plain, V2.plain, S.plain, S0.plain, V.val, V2.val, S.val, S0.val, bV, iV, List.all_cons, List.all_nil, Bool.and_true, Bool.and_self, envOf_i, envOf_b, envOf_d, List.map_cons, List.map_nil, true_and, Bool.not_eq_true', Bool.not_eq_false', Bool.not_not, Bool.and_eq_true, and_f, cell_lg, cell_lb, cell_lr, cmpP, val_i, val_b, val_d, aget, Nat.reduceBEq, beq_self_eq_true, Bool.false_eq_true, if_true, if_false, Nat.reduceLT, Nat.reduceSub, Nat.sub_self, Nat.lt_irrefl, K7b3, K7b30, place_2, span_2]
  have e : moorL ds = (placeB (iAt ds 0) (iAt ds 1) && (spanB (iAt ds 2) (iAt ds 3) && decide (0 ≤ iAt ds 2 ∧ iAt ds 3 ≤ 100000)) && decide (0 ≤ iAt ds 4 ∧ iAt ds 4 ≤ 1000000)) := rfl
  rw [e]
  refine ⟨fun h1 => ⟨fun h2 => ⟨fun h3 => ⟨fun h4 => ⟨fun h5 => ?_, fun h5 => ?_⟩, fun h4 => ?_⟩, fun h3 => ?_⟩, fun h2 => ?_⟩, fun h1 => ?_⟩
  all_goals (refine congrArg Value.bool ?_; rw [Bool.eq_iff_iff]; simp only [cmp_t, cmpP, decide_eq_true_eq, Bool.false_eq_true, false_iff, Bool.and_eq_true, *, true_and, false_and, and_false, not_false_eq_true]; try omega)
theorem gMoH : Gives Try.prog 26 [sp] (fun ds => .bool (htL ds)) := by
  refine GivesIf.all (fn_gives K7 (by kernel_rfl) (fun ρ h => ct6_ok (K7_K6 (Sees.of h 61))) (by kernel_rfl) trMoH_is trMoH_low (by decide) (fun W vals ds _ _ => ?_))
  simp only [trMoH, TT.sat_ret, TT.sat_ite, TT.sat_ob, TT.sat_next, TT.sat_stuck, put_i, put_b, put_d, put_fi, put_fb, put_fd, Ob.ok, B.ev, E.ev, X.ev, AL.ev, cmp_t, cmp_f, arEv, V.plain, V2.plain, S.plain, S0.plain, V.val, V2.val, S.val, S0.val, bV, iV, List.all_cons, List.all_nil, Bool.and_true, Bool.and_self, envOf_i, envOf_b, envOf_d, List.map_cons, List.map_nil, true_and, Bool.not_eq_true', Bool.not_eq_false', Bool.not_not, Bool.and_eq_true, and_f, cell_lg, cell_lb, cell_lr, cmpP, val_i, val_b, val_d, aget, Nat.reduceBEq, beq_self_eq_true, Bool.false_eq_true, if_true, if_false, Nat.reduceLT, Nat.reduceSub, Nat.sub_self, Nat.lt_irrefl, K7b30, span_2]
  have e : htL ds = (spanB (iAt ds 0) (iAt ds 1) && decide (-100000 ≤ iAt ds 0 ∧ iAt ds 1 ≤ 100000)) := rfl
  rw [e]
  refine ⟨fun h1 => ⟨fun h2 => ?_, fun h2 => ?_⟩, fun h1 => ?_⟩
  all_goals (refine congrArg Value.bool ?_; rw [Bool.eq_iff_iff]; simp only [cmp_t, cmpP, decide_eq_true_eq, Bool.false_eq_true, false_iff, Bool.and_eq_true, *, true_and, false_and, not_false_eq_true]; try omega)
theorem gTiH : Gives Try.prog 45 [sp] (fun ds => .bool (htL ds)) := by
  refine GivesIf.all (fn_gives K7 (by kernel_rfl) (fun ρ h => ct6_ok (K7_K6 (Sees.of h 61))) (by kernel_rfl) trTiH_is trTiH_low (by decide) (fun W vals ds _ _ => ?_))
  simp only [trTiH, TT.sat_ret, TT.sat_ite, TT.sat_ob, TT.sat_next, TT.sat_stuck, put_i, put_b, put_d, put_fi, put_fb, put_fd, Ob.ok, B.ev, E.ev, X.ev, AL.ev, cmp_t, cmp_f, arEv, V.plain, V2.plain, S.plain, S0.plain, V.val, V2.val, S.val, S0.val, bV, iV, List.all_cons, List.all_nil, Bool.and_true, Bool.and_self, envOf_i, envOf_b, envOf_d, List.map_cons, List.map_nil, true_and, Bool.not_eq_true', Bool.not_eq_false', Bool.not_not, Bool.and_eq_true, and_f, cell_lg, cell_lb, cell_lr, cmpP, val_i, val_b, val_d, aget, Nat.reduceBEq, beq_self_eq_true, Bool.false_eq_true, if_true, if_false, Nat.reduceLT, Nat.reduceSub, Nat.sub_self, Nat.lt_irrefl, K7b30, span_2]
  have e : htL ds = (spanB (iAt ds 0) (iAt ds 1) && decide (-100000 ≤ iAt ds 0 ∧ iAt ds 1 ≤ 100000)) := rfl
  rw [e]
  refine ⟨fun h1 => ⟨fun h2 => ?_, fun h2 => ?_⟩, fun h1 => ?_⟩
  all_goals (refine congrArg Value.bool ?_; rw [Bool.eq_iff_iff]; simp only [cmp_t, cmpP, decide_eq_true_eq, Bool.false_eq_true, false_iff, Bool.and_eq_true, *, true_and, false_and, not_false_eq_true]; try omega)
theorem mul_in {a b : Int} (ha : -1000000 ≤ a ∧ a ≤ 1000000) (hb : -1000000 ≤ b ∧ b ≤ 1000000) : (-1000000000000 ≤ a * b ∧ a * b ≤ 1000000000000) ∧ IntKind.i64.wrap (a * b) = a * b := by
  have h := mul_abs ha.1 ha.2 hb.1 hb.2
  have h' : -1000000000000 ≤ a * b ∧ a * b ≤ 1000000000000 := by omega
  exact ⟨h', wrap_in _ (by omega) (by omega)⟩
theorem crs_in {a b c d : Int} (ha : -1000000 ≤ a ∧ a ≤ 1000000) (hb : -1000000 ≤ b ∧ b ≤ 1000000) (hc : -1000000 ≤ c ∧ c ≤ 1000000) (hd : -1000000 ≤ d ∧ d ≤ 1000000) : IntKind.i64.wrap (IntKind.i64.wrap (a * d) - IntKind.i64.wrap (b * c)) = crs a b c d := by
  have h1 := mul_in ha hd
  have h2 := mul_in hb hc
  rw [h1.2, h2.2, wrap_in _ (by omega) (by omega)]
  rfl
theorem repL_eq (ds : List D) : repL ds = ((idB (iAt ds 0) && (idB (iAt ds 1) && (idB (iAt ds 3) && decide (0 ≤ iAt ds 2 ∧ iAt ds 2 ≤ 10000000 ∧ 0 ≤ iAt ds 12 ∧ iAt ds 12 ≤ 1000000)))) && (boxB (iAt ds 4) (iAt ds 5) (iAt ds 6) (iAt ds 7) && (dirB (iAt ds 8) (iAt ds 9) && (dirB (iAt ds 10) (iAt ds 11) && decide (0 < crs (iAt ds 8) (iAt ds 9) (iAt ds 10) (iAt ds 11)))))) := rfl
theorem gSiV : Gives Try.prog 29 [rep] (fun ds => .bool (repL ds)) := by
  refine GivesIf.all (fn_gives K7 (by kernel_rfl) (fun ρ h => ct6_ok (K7_K6 (Sees.of h 61))) (by kernel_rfl) trSiV_is trSiV_low (by decide) (fun W vals ds _ _ => ?_))
  simp only [trSiV, TT.sat_ret, TT.sat_ite, TT.sat_ob, TT.sat_next, TT.sat_stuck, put_i, put_b, put_d, put_fi, put_fb, put_fd, Ob.ok, B.ev, E.ev, X.ev, AL.ev, cmp_t, cmp_f, arEv, V.plain, V2.plain, S.plain, S0.plain, V.val, V2.val, S.val, S0.val, bV, iV, List.all_cons, List.all_nil, Bool.and_true, Bool.and_self, envOf_i, envOf_b, envOf_d, List.map_cons, List.map_nil, true_and, Bool.not_eq_true', Bool.not_eq_false', Bool.not_not, Bool.and_eq_true, and_f, cell_lg, cell_lb, cell_lr, cmpP, val_i, val_b, val_d, aget, Nat.reduceBEq, beq_self_eq_true, Bool.false_eq_true, if_true, if_false, Nat.reduceLT, Nat.reduceSub, Nat.sub_self, Nat.lt_irrefl, K7b31, box_4]
  rw [repL_eq]
  repeat' (first | refine And.intro ?_ ?_ | intro _)
  all_goals refine congrArg Value.bool ?_
  all_goals try rw [crs_in (by omega) (by omega) (by omega) (by omega)]
  all_goals (rw [Bool.eq_iff_iff]; simp only [idB, dirB, cmp_t, cmpP, decide_eq_true_eq, Bool.false_eq_true, false_iff, Bool.and_eq_true, *, true_and, false_and, and_false, not_false_eq_true]; try omega)
/-- All symbols so far. -/
def Ka1 : Interp where
  fi n l := K7.fi n l
  fb n l := match n with | 100 => moorL l | 101 => htL l | 102 => repL l | 103 => idL l | 104 => dirL l | n => K7.fb n l
  fd _ _ := []
theorem Ka1_K7 {ρ : Env} (h : Sees ρ Ka1 110) : Sees ρ K7 61 := h.trans (by decide) fun n l hn => by
  refine ⟨?_, ?_⟩
  ·
    rfl
  ·
    simp only [Ka1]
    split <;> first | omega | rfl
def cMoV := ctD [mo] fun al => .ret (bV (bF 100 moorL al))
theorem cMoV_ok {ρ : Env} (h : Sees ρ Ka1 110) : CtOne Try.prog ρ 25 cMoV :=
  ctD_ok gMoV (fun _ => rfl) (fun al => by simp only [iV, bV, V.s0, V.val, V2.val, S.val, S0.val, bF_ev (s := 100) (f := moorL) (fun l => by rw [(h 100 l (by decide)).2]; simp only [Ka1, K7, K6, K5, K])]; try rfl)
def cMoH := ctD [sp] fun al => .ret (bV (bF 101 htL al))
theorem cMoH_ok {ρ : Env} (h : Sees ρ Ka1 110) : CtOne Try.prog ρ 26 cMoH :=
  ctD_ok gMoH (fun _ => rfl) (fun al => by simp only [iV, bV, V.s0, V.val, V2.val, S.val, S0.val, bF_ev (s := 101) (f := htL) (fun l => by rw [(h 101 l (by decide)).2]; simp only [Ka1, K7, K6, K5, K])]; try rfl)
def cTiH := ctD [sp] fun al => .ret (bV (bF 101 htL al))
theorem cTiH_ok {ρ : Env} (h : Sees ρ Ka1 110) : CtOne Try.prog ρ 45 cTiH :=
  ctD_ok gTiH (fun _ => rfl) (fun al => by simp only [iV, bV, V.s0, V.val, V2.val, S.val, S0.val, bF_ev (s := 101) (f := htL) (fun l => by rw [(h 101 l (by decide)).2]; simp only [Ka1, K7, K6, K5, K])]; try rfl)
def cSiV := ctD [rep] fun al => .ret (bV (bF 102 repL al))
theorem cSiV_ok {ρ : Env} (h : Sees ρ Ka1 110) : CtOne Try.prog ρ 29 cSiV :=
  ctD_ok gSiV (fun _ => rfl) (fun al => by simp only [iV, bV, V.s0, V.val, V2.val, S.val, S0.val, bF_ev (s := 102) (f := repL) (fun l => by rw [(h 102 l (by decide)).2]; simp only [Ka1, K7, K6, K5, K])]; try rfl)
def cRId := ctD [it] fun al => .ret (bV (bF 103 idL al))
theorem cRId_ok {ρ : Env} (h : Sees ρ Ka1 110) : CtOne Try.prog ρ 39 cRId :=
  ctD_ok gRId (fun _ => rfl) (fun al => by simp only [iV, bV, V.s0, V.val, V2.val, S.val, S0.val, bF_ev (s := 103) (f := idL) (fun l => by rw [(h 103 l (by decide)).2]; simp only [Ka1, K7, K6, K5, K])]; try rfl)
def cRDir := ctD [pt] fun al => .ret (bV (bF 104 dirL al))
theorem cRDir_ok {ρ : Env} (h : Sees ρ Ka1 110) : CtOne Try.prog ρ 41 cRDir :=
  ctD_ok gRDir (fun _ => rfl) (fun al => by simp only [iV, bV, V.s0, V.val, V2.val, S.val, S0.val, bF_ev (s := 104) (f := dirL) (fun l => by rw [(h 104 l (by decide)).2]; simp only [Ka1, K7, K6, K5, K])]; try rfl)
def cRBox := ctD [bx] fun al => .ret (bV (bF 31 boxL al))
theorem cRBox_ok {ρ : Env} (h : Sees ρ Ka1 110) : CtOne Try.prog ρ 40 cRBox :=
  ctD_ok gRBox (fun _ => rfl) (fun al => by simp only [iV, bV, V.s0, V.val, V2.val, S.val, S0.val, bF_ev (s := 31) (f := boxL) (fun l => by rw [(h 31 l (by decide)).2]; simp only [Ka1, K7, K6, K5, K])]; try rfl)
def ctU : Ct := (25, cMoV) :: (26, cMoH) :: (45, cTiH) :: (29, cSiV) :: (39, cRId) :: (41, cRDir) :: (40, cRBox) :: ct6
theorem ctU_ok {ρ : Env} (h : Sees ρ Ka1 110) : CtOk Try.prog ρ ctU := .cons (cMoV_ok h) <| .cons (cMoH_ok h) <| .cons (cTiH_ok h) <| .cons (cSiV_ok h) <| .cons (cRId_ok h) <| .cons (cRDir_ok h) <| .cons (cRBox_ok h) (ct6_ok (K7_K6 (Ka1_K7 h)))
end Go.Proofs.Ytocghebdcpfalaa
/- TopMoored: trees of validity, of moorings. -/
namespace Go.Proofs.Ytocghebdcpfalaa
open Go.RowKit
-- term trRV: call Try.prog ctU (Lt.of []) 100 17 (symArgs 0 [rep]) [] 0
def trRV : TT OpR :=
(.ite (.not (.fn 103 (.i (.var 0) .nil)))
  (.ret ((.v (.one (.z (.bool (.lit false))))), [], 1))
  (.ite (.not (.fn 103 (.i (.var 1) .nil)))
    (.ret ((.v (.one (.z (.bool (.lit false))))), [], 1))
    (.ite (.not (.fn 103 (.i (.var 3) .nil)))
      (.ret ((.v (.one (.z (.bool (.lit false))))), [], 1))
      (.ite (.not (.fn 31 (.i (.var 4) (.i (.var 5) (.i (.var 6) (.i (.var 7) .nil))))))
        (.ret ((.v (.one (.z (.bool (.lit false))))), [], 1))
        (.ite (.not (.fn 104 (.i (.var 8) (.i (.var 9) .nil))))
          (.ret ((.v (.one (.z (.bool (.lit false))))), [], 1))
          (.ite (.not (.fn 104 (.i (.var 10) (.i (.var 11) .nil))))
            (.ret ((.v (.one (.z (.bool (.lit false))))), [], 1))
            (.ite (.cmp .lss (.var 2) (.lit 0))
              (.ret ((.v (.one (.z (.bool (.lit false))))), [], 1))
              (.ite (.cmp .gtr (.var 2) (.lit 10000000))
                (.ret ((.v (.one (.z (.bool (.lit false))))), [], 1))
                (.ite (.cmp .lss (.var 12) (.lit 0))
                  (.ret ((.v (.one (.z (.bool (.lit false))))), [], 1))
                  (.ite (.cmp .gtr (.var 12) (.lit 1000000))
                    (.ret ((.v (.one (.z (.bool (.lit false))))), [], 1))
                    (.ret ((.v (.one (.z (.bool (.cmp .gtr (.ar .sub .i64 (.ar .mul .i64 (.var 8) (.var 11)) (.ar .mul .i64 (.var 9) (.var 10))) (.lit 0)))))), [], 3))))))))))))
-- end trRV
set_option maxRecDepth 100000 in
theorem trRV_is : T.norm 0 (call Try.prog ctU (Lt.of []) 100 17 (symArgs 0 [rep]) [] 0) TT.ret = trRV := by kernel_rfl
theorem trRV_low : trRV.low 1000 = true := by kernel_rfl
-- term trMHolds: call Try.prog ctU (Lt.of []) 100 9 (symArgs 0 [mo, it, pt]) [] 0
def trMHolds : TT OpR :=
(.ite (.not (.fn 100 (.i (.var 0) (.i (.var 1) (.i (.var 2) (.i (.var 3) (.i (.var 4) .nil)))))))
  (.ret ((.tup [(.one (.z (.bool (.lit false)))), (.one (.z (.int .i64 (.lit 1))))]), [], 3))
  (.ite (.not (.fn 101 (.i (.var 5) (.i (.var 5) .nil))))
    (.ret ((.tup [(.one (.z (.bool (.lit false)))), (.one (.z (.int .i64 (.lit 1))))]), [], 3))
    (.ite (.not (.fn 3 (.i (.var 6) (.i (.var 7) .nil))))
      (.ret ((.tup [(.one (.z (.bool (.lit false)))), (.one (.z (.int .i64 (.lit 1))))]), [], 3))
      (.ret ((.tup [(.one (.z (.bool (.cmp .leq (.ar .add .i64 (.ar .mul .i64 (.lit 100) (.ar .add .i64 (.ar .mul .i64 (.ar .sub .i64 (.var 6) (.var 0)) (.ar .sub .i64 (.var 6) (.var 0))) (.ar .mul .i64 (.ar .sub .i64 (.var 7) (.var 1)) (.ar .sub .i64 (.var 7) (.var 1))))) (.ar .mul .i64 (.mx (.lit 0) (.ar .add .i64 (.var 2) (.var 5))) (.mx (.lit 0) (.ar .add .i64 (.var 2) (.var 5))))) (.ar .mul .i64 (.var 4) (.var 4)))))), (.one (.z (.int .i64 (.lit 0))))]), [], 7)))))
-- end trMHolds
set_option maxRecDepth 100000 in
theorem trMHolds_is : T.norm 0 (call Try.prog ctU (Lt.of []) 100 9 (symArgs 0 [mo, it, pt]) [] 0) TT.ret = trMHolds := by kernel_rfl
theorem trMHolds_low : trMHolds.low 1000 = true := by kernel_rfl
-- term trMAllows: call Try.prog ctU (Lt.of []) 100 11 (symArgs 0 [mo, sp, bx]) [] 0
def trMAllows : TT OpR :=
(.ite (.not (.fn 100 (.i (.var 0) (.i (.var 1) (.i (.var 2) (.i (.var 3) (.i (.var 4) .nil)))))))
  (.ret ((.tup [(.one (.z (.bool (.lit false)))), (.one (.z (.int .i64 (.lit 1))))]), [], 3))
  (.ite (.not (.fn 101 (.i (.var 5) (.i (.var 6) .nil))))
    (.ret ((.tup [(.one (.z (.bool (.lit false)))), (.one (.z (.int .i64 (.lit 1))))]), [], 3))
    (.ite (.not (.fn 31 (.i (.var 7) (.i (.var 8) (.i (.var 9) (.i (.var 10) .nil))))))
      (.ret ((.tup [(.one (.z (.bool (.lit false)))), (.one (.z (.int .i64 (.lit 1))))]), [], 3))
      (.ret ((.tup [(.one (.z (.bool (.cmp .leq (.ar .add .i64 (.ar .mul .i64 (.lit 100) (.ar .add .i64 (.ar .mul .i64 (.mx (.mx (.ar .sub .i64 (.var 7) (.var 0)) (.ar .sub .i64 (.var 0) (.var 8))) (.lit 0)) (.mx (.mx (.ar .sub .i64 (.var 7) (.var 0)) (.ar .sub .i64 (.var 0) (.var 8))) (.lit 0))) (.ar .mul .i64 (.mx (.mx (.ar .sub .i64 (.var 9) (.var 1)) (.ar .sub .i64 (.var 1) (.var 10))) (.lit 0)) (.mx (.mx (.ar .sub .i64 (.var 9) (.var 1)) (.ar .sub .i64 (.var 1) (.var 10))) (.lit 0))))) (.ar .mul .i64 (.mx (.lit 0) (.ar .add .i64 (.var 2) (.var 5))) (.mx (.lit 0) (.ar .add .i64 (.var 2) (.var 5))))) (.ar .mul .i64 (.var 4) (.var 4)))))), (.one (.z (.int .i64 (.lit 0))))]), [], 9)))))
-- end trMAllows
set_option maxRecDepth 100000 in
theorem trMAllows_is : T.norm 0 (call Try.prog ctU (Lt.of []) 100 11 (symArgs 0 [mo, sp, bx]) [] 0) TT.ret = trMAllows := by kernel_rfl
theorem trMAllows_low : trMAllows.low 1000 = true := by kernel_rfl
-- term trMRadius: call Try.prog ctU (Lt.of []) 100 33 (symArgs 0 [mo, sp]) [] 0
def trMRadius : TT OpR :=
(.ite (.not (.fn 100 (.i (.var 0) (.i (.var 1) (.i (.var 2) (.i (.var 3) (.i (.var 4) .nil)))))))
  (.ret ((.tup [(.one (.z (.int .i64 (.lit 0)))), (.one (.z (.int .i64 (.lit 1))))]), [], 2))
  (.ite (.not (.fn 101 (.i (.var 5) (.i (.var 6) .nil))))
    (.ret ((.tup [(.one (.z (.int .i64 (.lit 0)))), (.one (.z (.int .i64 (.lit 1))))]), [], 2))
    (.ite (.cmp .lss (.var 4) (.mx (.lit 0) (.ar .add .i64 (.var 3) (.var 6))))
      (.ret ((.tup [(.one (.z (.int .i64 (.lit 0)))), (.one (.z (.int .i64 (.lit 6))))]), [], 6))
      (.loop 0 9000 ⟨[(0, (.lit 0)), (1, (.lit 100000))], [], []⟩
        (.ite (.cmp .lss (.var 9000) (.var 9001))
          (.ite (.not (.cmp .geq (.ar .mul .i64 (.ar .mul .i64 (.lit 100) (.wr .i64 (.ar .shr .u64 (.wr .u64 (.ar .add .i64 (.var 9000) (.var 9001))) (.lit 1)))) (.wr .i64 (.ar .shr .u64 (.wr .u64 (.ar .add .i64 (.var 9000) (.var 9001))) (.lit 1)))) (.ar .sub .i64 (.ar .mul .i64 (.var 4) (.var 4)) (.ar .mul .i64 (.mx (.lit 0) (.ar .add .i64 (.var 2) (.var 5))) (.mx (.lit 0) (.ar .add .i64 (.var 2) (.var 5)))))))
            (.next 0 ⟨[(0, (.ar .add .i64 (.wr .i64 (.ar .shr .u64 (.wr .u64 (.ar .add .i64 (.var 9000) (.var 9001))) (.lit 1))) (.lit 1))), (1, (.var 9001))], [], []⟩)
            (.next 0 ⟨[(0, (.var 9000)), (1, (.wr .i64 (.ar .shr .u64 (.wr .u64 (.ar .add .i64 (.var 9000) (.var 9001))) (.lit 1))))], [], []⟩))
          (.ret ((.tup [(.one (.z (.int .i64 (.var 9000)))), (.one (.z (.int .i64 (.lit 0))))]), [], 9)))))))
-- end trMRadius
set_option maxRecDepth 100000 in
theorem trMRadius_is : T.norm 0 (call Try.prog ctU (Lt.of []) 100 33 (symArgs 0 [mo, sp]) [] 0) TT.ret = trMRadius := by kernel_rfl
theorem trMRadius_low : trMRadius.low 1000 = true := by kernel_rfl
-- term trTiV: call Try.prog ctU (Lt.of []) 100 20 (symArgs 0 [tid]) [] 0
def trTiV : TT OpR :=
(.ite (.cmp .geq (.var 0) (.lit 0))
  (.ite (.not (.cmp .leq (.var 0) (.lit 10000000)))
    (.ret ((.v (.one (.z (.bool (.lit false))))), [], 1))
    (.ite (.cmp .lss (.var 1) (.lit 1))
      (.ret ((.v (.one (.z (.bool (.lit false))))), [], 1))
      (.ite (.cmp .gtr (.var 1) (.lit 1000))
        (.ret ((.v (.one (.z (.bool (.lit false))))), [], 1))
        (.ite (.cmp .eql (.len (.var 2)) (.lit 0))
          (.ret ((.v (.one (.z (.bool (.lit false))))), [], 1))
          (.ite (.cmp .gtr (.len (.var 2)) (.lit 200))
            (.ret ((.v (.one (.z (.bool (.lit false))))), [], 1))
            (.ite (.cmp .geq (.ar .add .i64 (.var 0) (.ar .mul .i64 (.ar .sub .i64 (.len (.var 2)) (.lit 1)) (.var 1))) (.lit 0))
              (.ite (.not (.cmp .leq (.ar .add .i64 (.var 0) (.ar .mul .i64 (.ar .sub .i64 (.len (.var 2)) (.lit 1)) (.var 1))) (.lit 10000000)))
                (.ret ((.v (.one (.z (.bool (.lit false))))), [], 2))
                (.loop 0 3000 ⟨[(0, (.lit 0))], [], []⟩
                  (.ite (.cmp .lss (.var 3000) (.len (.var 2)))
                    (.ob (.tru (.cmp .leq (.lit 0) (.var 3000)))
                    (.ob (.tru (.cmp .lss (.var 3000) (.len (.var 2))))
                    (.ite (.not (.fn 101 (.i (.rd (.var 2) (.var 3000) 0) (.i (.rd (.var 2) (.var 3000) 1) .nil))))
                      (.ret ((.v (.one (.z (.bool (.lit false))))), [], 4))
                      (.next 0 ⟨[(0, (.ar .add .i64 (.var 3000) (.lit 1)))], [], []⟩))))
                    (.ret ((.v (.one (.z (.bool (.lit true))))), [], 4)))))
              (.ret ((.v (.one (.z (.bool (.lit false))))), [], 2))))))))
  (.ret ((.v (.one (.z (.bool (.lit false))))), [], 1)))
-- end trTiV
set_option maxRecDepth 100000 in
theorem trTiV_is : T.norm 0 (call Try.prog ctU (Lt.of []) 100 20 (symArgs 0 [tid]) [] 0) TT.ret = trTiV := by kernel_rfl
theorem trTiV_low : trTiV.low 1000 = true := by kernel_rfl
-- term trSLeads: call Try.prog ctU (Lt.of []) 100 65 (symArgs 0 [sp, it, it]) [] 0
def trSLeads : TT OpR :=
(.ite (.cmp .leq (.var 0) (.lit 0))
  (.ite (.cmp .geq (.var 1) (.lit 0))
    (.ret ((.v (.one (.z (.bool (.lit true))))), [], 1))
    (.ite (.cmp .lss (.var 2) (.lit 0))
      (.ret ((.v (.one (.z (.bool (.lit true))))), [], 1))
      (.ret ((.v (.one (.z (.bool (.cmp .lss (.var 3) (.lit 0)))))), [], 1))))
  (.ite (.cmp .gtr (.var 2) (.lit 0))
    (.ite (.cmp .geq (.var 1) (.lit 0))
      (.ret ((.v (.one (.z (.bool (.lit true))))), [], 1))
      (.ite (.cmp .lss (.var 2) (.lit 0))
        (.ret ((.v (.one (.z (.bool (.lit true))))), [], 1))
        (.ret ((.v (.one (.z (.bool (.cmp .lss (.var 3) (.lit 0)))))), [], 1))))
    (.ite (.cmp .gtr (.var 3) (.lit 0))
      (.ite (.cmp .geq (.var 1) (.lit 0))
        (.ret ((.v (.one (.z (.bool (.lit true))))), [], 1))
        (.ite (.cmp .lss (.var 2) (.lit 0))
          (.ret ((.v (.one (.z (.bool (.lit true))))), [], 1))
          (.ret ((.v (.one (.z (.bool (.cmp .lss (.var 3) (.lit 0)))))), [], 1))))
      (.ret ((.v (.one (.z (.bool (.lit false))))), [], 1)))))
-- end trSLeads
set_option maxRecDepth 100000 in
theorem trSLeads_is : T.norm 0 (call Try.prog ctU (Lt.of []) 100 65 (symArgs 0 [sp, it, it]) [] 0) TT.ret = trSLeads := by kernel_rfl
theorem trSLeads_low : trSLeads.low 1000 = true := by kernel_rfl
-- term trSBox: call Try.prog ctU (Lt.of []) 100 10 (symArgs 0 [rep]) [] 0
def trSBox : TT OpR :=
(.ite (.not (.fn 102 (.i (.var 0) (.i (.var 1) (.i (.var 2) (.i (.var 3) (.i (.var 4) (.i (.var 5) (.i (.var 6) (.i (.var 7) (.i (.var 8) (.i (.var 9) (.i (.var 10) (.i (.var 11) (.i (.var 12) .nil)))))))))))))))
  (.ret ((.tup [(.agg [(.z (.int .i64 (.lit 0))), (.z (.int .i64 (.lit 0))), (.z (.int .i64 (.lit 0))), (.z (.int .i64 (.lit 0)))]), (.one (.z (.int .i64 (.lit 1))))]), [], 2))
  (.ite (.cmp .lss (.mn (.var 8) (.var 10)) (.lit 0))
    (.ite (.cmp .gtr (.mx (.var 8) (.var 10)) (.lit 0))
      (.ite (.cmp .lss (.mn (.var 9) (.var 11)) (.lit 0))
        (.ite (.cmp .gtr (.mx (.var 9) (.var 11)) (.lit 0))
          (.ret ((.tup [(.agg [(.z (.int .i64 (.mx (.ar .sub .i64 (.var 4) (.var 12)) (.lit (-1000000))))), (.z (.int .i64 (.mn (.ar .add .i64 (.var 5) (.var 12)) (.lit 1000000)))), (.z (.int .i64 (.mx (.ar .sub .i64 (.var 6) (.var 12)) (.lit (-1000000))))), (.z (.int .i64 (.mn (.ar .add .i64 (.var 7) (.var 12)) (.lit 1000000))))]), (.one (.z (.int .i64 (.lit 0))))]), [], 6))
          (.ret ((.tup [(.agg [(.z (.int .i64 (.mx (.ar .sub .i64 (.var 4) (.var 12)) (.lit (-1000000))))), (.z (.int .i64 (.mn (.ar .add .i64 (.var 5) (.var 12)) (.lit 1000000)))), (.z (.int .i64 (.mx (.ar .sub .i64 (.var 6) (.var 12)) (.lit (-1000000))))), (.z (.int .i64 (.var 7)))]), (.one (.z (.int .i64 (.lit 0))))]), [], 6)))
        (.ite (.cmp .gtr (.mx (.var 9) (.var 11)) (.lit 0))
          (.ret ((.tup [(.agg [(.z (.int .i64 (.mx (.ar .sub .i64 (.var 4) (.var 12)) (.lit (-1000000))))), (.z (.int .i64 (.mn (.ar .add .i64 (.var 5) (.var 12)) (.lit 1000000)))), (.z (.int .i64 (.var 6))), (.z (.int .i64 (.mn (.ar .add .i64 (.var 7) (.var 12)) (.lit 1000000))))]), (.one (.z (.int .i64 (.lit 0))))]), [], 6))
          (.ret ((.tup [(.agg [(.z (.int .i64 (.mx (.ar .sub .i64 (.var 4) (.var 12)) (.lit (-1000000))))), (.z (.int .i64 (.mn (.ar .add .i64 (.var 5) (.var 12)) (.lit 1000000)))), (.z (.int .i64 (.var 6))), (.z (.int .i64 (.var 7)))]), (.one (.z (.int .i64 (.lit 0))))]), [], 6))))
      (.ite (.cmp .lss (.mn (.var 9) (.var 11)) (.lit 0))
        (.ite (.cmp .gtr (.mx (.var 9) (.var 11)) (.lit 0))
          (.ret ((.tup [(.agg [(.z (.int .i64 (.mx (.ar .sub .i64 (.var 4) (.var 12)) (.lit (-1000000))))), (.z (.int .i64 (.var 5))), (.z (.int .i64 (.mx (.ar .sub .i64 (.var 6) (.var 12)) (.lit (-1000000))))), (.z (.int .i64 (.mn (.ar .add .i64 (.var 7) (.var 12)) (.lit 1000000))))]), (.one (.z (.int .i64 (.lit 0))))]), [], 6))
          (.ret ((.tup [(.agg [(.z (.int .i64 (.mx (.ar .sub .i64 (.var 4) (.var 12)) (.lit (-1000000))))), (.z (.int .i64 (.var 5))), (.z (.int .i64 (.mx (.ar .sub .i64 (.var 6) (.var 12)) (.lit (-1000000))))), (.z (.int .i64 (.var 7)))]), (.one (.z (.int .i64 (.lit 0))))]), [], 6)))
        (.ite (.cmp .gtr (.mx (.var 9) (.var 11)) (.lit 0))
          (.ret ((.tup [(.agg [(.z (.int .i64 (.mx (.ar .sub .i64 (.var 4) (.var 12)) (.lit (-1000000))))), (.z (.int .i64 (.var 5))), (.z (.int .i64 (.var 6))), (.z (.int .i64 (.mn (.ar .add .i64 (.var 7) (.var 12)) (.lit 1000000))))]), (.one (.z (.int .i64 (.lit 0))))]), [], 6))
          (.ret ((.tup [(.agg [(.z (.int .i64 (.mx (.ar .sub .i64 (.var 4) (.var 12)) (.lit (-1000000))))), (.z (.int .i64 (.var 5))), (.z (.int .i64 (.var 6))), (.z (.int .i64 (.var 7)))]), (.one (.z (.int .i64 (.lit 0))))]), [], 6)))))
    (.ite (.cmp .gtr (.mx (.var 8) (.var 10)) (.lit 0))
      (.ite (.cmp .lss (.mn (.var 9) (.var 11)) (.lit 0))
        (.ite (.cmp .gtr (.mx (.var 9) (.var 11)) (.lit 0))
          (.ret ((.tup [(.agg [(.z (.int .i64 (.var 4))), (.z (.int .i64 (.mn (.ar .add .i64 (.var 5) (.var 12)) (.lit 1000000)))), (.z (.int .i64 (.mx (.ar .sub .i64 (.var 6) (.var 12)) (.lit (-1000000))))), (.z (.int .i64 (.mn (.ar .add .i64 (.var 7) (.var 12)) (.lit 1000000))))]), (.one (.z (.int .i64 (.lit 0))))]), [], 6))
          (.ret ((.tup [(.agg [(.z (.int .i64 (.var 4))), (.z (.int .i64 (.mn (.ar .add .i64 (.var 5) (.var 12)) (.lit 1000000)))), (.z (.int .i64 (.mx (.ar .sub .i64 (.var 6) (.var 12)) (.lit (-1000000))))), (.z (.int .i64 (.var 7)))]), (.one (.z (.int .i64 (.lit 0))))]), [], 6)))
        (.ite (.cmp .gtr (.mx (.var 9) (.var 11)) (.lit 0))
          (.ret ((.tup [(.agg [(.z (.int .i64 (.var 4))), (.z (.int .i64 (.mn (.ar .add .i64 (.var 5) (.var 12)) (.lit 1000000)))), (.z (.int .i64 (.var 6))), (.z (.int .i64 (.mn (.ar .add .i64 (.var 7) (.var 12)) (.lit 1000000))))]), (.one (.z (.int .i64 (.lit 0))))]), [], 6))
          (.ret ((.tup [(.agg [(.z (.int .i64 (.var 4))), (.z (.int .i64 (.mn (.ar .add .i64 (.var 5) (.var 12)) (.lit 1000000)))), (.z (.int .i64 (.var 6))), (.z (.int .i64 (.var 7)))]), (.one (.z (.int .i64 (.lit 0))))]), [], 6))))
      (.ite (.cmp .lss (.mn (.var 9) (.var 11)) (.lit 0))
        (.ite (.cmp .gtr (.mx (.var 9) (.var 11)) (.lit 0))
          (.ret ((.tup [(.agg [(.z (.int .i64 (.var 4))), (.z (.int .i64 (.var 5))), (.z (.int .i64 (.mx (.ar .sub .i64 (.var 6) (.var 12)) (.lit (-1000000))))), (.z (.int .i64 (.mn (.ar .add .i64 (.var 7) (.var 12)) (.lit 1000000))))]), (.one (.z (.int .i64 (.lit 0))))]), [], 6))
          (.ret ((.tup [(.agg [(.z (.int .i64 (.var 4))), (.z (.int .i64 (.var 5))), (.z (.int .i64 (.mx (.ar .sub .i64 (.var 6) (.var 12)) (.lit (-1000000))))), (.z (.int .i64 (.var 7)))]), (.one (.z (.int .i64 (.lit 0))))]), [], 6)))
        (.ite (.cmp .gtr (.mx (.var 9) (.var 11)) (.lit 0))
          (.ret ((.tup [(.agg [(.z (.int .i64 (.var 4))), (.z (.int .i64 (.var 5))), (.z (.int .i64 (.var 6))), (.z (.int .i64 (.mn (.ar .add .i64 (.var 7) (.var 12)) (.lit 1000000))))]), (.one (.z (.int .i64 (.lit 0))))]), [], 6))
          (.ret ((.tup [(.agg [(.z (.int .i64 (.var 4))), (.z (.int .i64 (.var 5))), (.z (.int .i64 (.var 6))), (.z (.int .i64 (.var 7)))]), (.one (.z (.int .i64 (.lit 0))))]), [], 6)))))))
-- end trSBox
set_option maxRecDepth 100000 in
theorem trSBox_is : T.norm 0 (call Try.prog ctU (Lt.of []) 100 10 (symArgs 0 [rep]) [] 0) TT.ret = trSBox := by kernel_rfl
theorem trSBox_low : trSBox.low 1000 = true := by kernel_rfl
end Go.Proofs.Ytocghebdcpfalaa
/- TopMoored: what the functions of moorings, of tables, of reports answer. -/
namespace Go.Proofs.Ytocghebdcpfalaa
open Go.RowKit
/-- The least number from i on, of so many, that is as p says. -/
def leastF (p : Nat → Bool) : Nat → Nat → Nat
  | 0, i => i
  | f + 1, i => if p i then i else leastF p f (i + 1)
theorem least_spec (p : Nat → Bool) : ∀ f i, i ≤ leastF p f i ∧ leastF p f i ≤ i + f ∧ (∀ j, i ≤ j → j < leastF p f i → p j = false) ∧ (leastF p f i < i + f → p (leastF p f i) = true)
  | 0, i => ⟨Nat.le_refl _, Nat.le_refl _, fun j h1 h2 => by simp only [leastF] at h2; omega, fun h => by simp only [leastF] at h; omega⟩
  | f + 1, i => by
    rw [leastF]
    cases h : p i with
    | true =>
      simp only [if_true]
      exact ⟨Nat.le_refl _, by omega, fun j h1 h2 => by omega, fun _ => h⟩
    | false =>
      simp only [Bool.false_eq_true, if_false]
      obtain ⟨h1, h2, h3, h4⟩ := least_spec p f (i + 1)
      refine ⟨by omega, by omega, fun j h5 h6 => ?_, fun h5 => h4 (by omega)⟩
      by_cases e : j = i
      · subst e; exact h
      · exact h3 j (by omega) h6
theorem least_uniq {p : Nat → Bool} {n k : Nat} (hk : k ≤ n) (h1 : ∀ j, j < k → p j = false) (h2 : k < n → p k = true) : leastF p n 0 = k := by
  obtain ⟨_, a2, a3, a4⟩ := least_spec p n 0
  rcases Nat.lt_trichotomy (leastF p n 0) k with h | h | h
  · have := h1 _ h
    rw [a4 (by omega)] at this
    cases this
  · exact h
  · have := a3 k (Nat.zero_le _) h
    rw [h2 (by omega)] at this
    cases this
def farP (free : Int) (r : Nat) : Bool := decide (free ≤ 100 * (r : Int) * r)
def radI (free : Int) : Int := (leastF (farP free) 100000 0 : Nat)
def holdsMO (ds : List D) : Bool := moorB (iAt ds 0) (iAt ds 1) (iAt ds 2) (iAt ds 3) (iAt ds 4) && (htB (iAt ds 5) (iAt ds 5) && placeB (iAt ds 6) (iAt ds 7))
def holdsMR (ds : List D) : Bool := holdsMO ds && hasB (iAt ds 6 - iAt ds 0) (iAt ds 7 - iAt ds 1) (iAt ds 2) (iAt ds 5) (iAt ds 4)
def holdsME (ds : List D) : Int := if holdsMO ds then 0 else 1
def allowsMO (ds : List D) : Bool := moorB (iAt ds 0) (iAt ds 1) (iAt ds 2) (iAt ds 3) (iAt ds 4) && (htB (iAt ds 5) (iAt ds 6) && boxB (iAt ds 7) (iAt ds 8) (iAt ds 9) (iAt ds 10))
def allowsMR (ds : List D) : Bool := allowsMO ds && hasB (offI (iAt ds 7) (iAt ds 8) (iAt ds 0)) (offI (iAt ds 9) (iAt ds 10) (iAt ds 1)) (iAt ds 2) (iAt ds 5) (iAt ds 4)
def allowsME (ds : List D) : Int := if allowsMO ds then 0 else 1
def radO (ds : List D) : Bool := moorB (iAt ds 0) (iAt ds 1) (iAt ds 2) (iAt ds 3) (iAt ds 4) && htB (iAt ds 5) (iAt ds 6)
def radX (ds : List D) : Bool := radO ds && decide (dep (iAt ds 3) (iAt ds 6) ≤ iAt ds 4)
def radR (ds : List D) : Int := if radX ds then radI (iAt ds 4 * iAt ds 4 - dep (iAt ds 2) (iAt ds 5) * dep (iAt ds 2) (iAt ds 5)) else 0
def radE (ds : List D) : Int := if radX ds then 0 else if radO ds then 6 else 1
def tideN (r : Rows) : Nat → Nat → Bool
  | 0, _ => true
  | f + 1, i => htB (lg r i 0) (lg r i 1) && tideN r f (i + 1)
def lastT (s p : Int) (r : Rows) : Int := s + ((r.length : Int) - 1) * p
def tideB (s p : Int) (r : Rows) : Bool := timeB s && (decide (1 ≤ p ∧ p ≤ 1000 ∧ 1 ≤ r.length ∧ r.length ≤ 200) && (timeB (lastT s p r) && tideN r r.length 0))
def tideL (ds : List D) : Bool := tideB (iAt ds 0) (iAt ds 1) (rAt ds 2)
def sbA (ds : List D) : Int := if repL ds then reachLo (iAt ds 4) (iAt ds 8) (iAt ds 10) (iAt ds 12) else 0
def sbB (ds : List D) : Int := if repL ds then reachHi (iAt ds 5) (iAt ds 8) (iAt ds 10) (iAt ds 12) else 0
def sbC (ds : List D) : Int := if repL ds then reachLo (iAt ds 6) (iAt ds 9) (iAt ds 11) (iAt ds 12) else 0
def sbD (ds : List D) : Int := if repL ds then reachHi (iAt ds 7) (iAt ds 9) (iAt ds 11) (iAt ds 12) else 0
def sbE (ds : List D) : Int := if repL ds then 0 else 1
theorem Ka1b3 (W : World) (ds l : List D) : (envOf Ka1 W ds).fb 3 l = placeL l := by simp only [envOf, Ka1, K7, K6, K5, K]
theorem Ka1b31 (W : World) (ds l : List D) : (envOf Ka1 W ds).fb 31 l = boxL l := by simp only [envOf, Ka1, K7, K6, K5, K]
theorem Ka1b100 (W : World) (ds l : List D) : (envOf Ka1 W ds).fb 100 l = moorL l := by simp only [envOf, Ka1, K7, K6, K5, K]
theorem Ka1b101 (W : World) (ds l : List D) : (envOf Ka1 W ds).fb 101 l = htL l := by simp only [envOf, Ka1, K7, K6, K5, K]
theorem Ka1b102 (W : World) (ds l : List D) : (envOf Ka1 W ds).fb 102 l = repL l := by simp only [envOf, Ka1, K7, K6, K5, K]
theorem Ka1b103 (W : World) (ds l : List D) : (envOf Ka1 W ds).fb 103 l = idL l := by simp only [envOf, Ka1, K7, K6, K5, K]
theorem Ka1b104 (W : World) (ds l : List D) : (envOf Ka1 W ds).fb 104 l = dirL l := by simp only [envOf, Ka1, K7, K6, K5, K]
theorem moor_5 (a b c d e : Int) : moorL [.i a, .i b, .i c, .i d, .i e] = moorB a b c d e := rfl
theorem ht_2 (a b : Int) : htL [.i a, .i b] = htB a b := rfl
theorem id_1 (a : Int) : idL [.i a] = idB a := rfl
theorem dir_2 (a b : Int) : dirL [.i a, .i b] = dirB a b := rfl
theorem rep_13 (ds : List D) : repL [.i (iAt ds 0), .i (iAt ds 1), .i (iAt ds 2), .i (iAt ds 3), .i (iAt ds 4), .i (iAt ds 5), .i (iAt ds 6), .i (iAt ds 7), .i (iAt ds 8), .i (iAt ds 9), .i (iAt ds 10), .i (iAt ds 11), .i (iAt ds 12)] = repL ds := rfl
theorem gRV : Gives Try.prog 17 [rep] (fun ds => .bool (repL ds)) := by
  refine GivesIf.all (fn_gives Ka1 (by kernel_rfl) (fun ρ h => ctU_ok (Sees.of h 110)) (by kernel_rfl) trRV_is trRV_low (by decide) (fun W vals ds _ _ => ?_))
  simp only [trRV, TT.sat_ret, TT.sat_ite, TT.sat_ob, TT.sat_next, TT.sat_stuck, put_i, put_b, put_d, put_fi, put_fb, put_fd, Ob.ok, B.ev, E.ev, X.ev, AL.ev, cmp_t, cmp_f, arEv, V.plain, V2.plain, S.plain, S0.plain, V.val, V2.val, S.val, S0.val, bV, iV, List.all_cons, List.all_nil, Bool.and_true, Bool.and_self, envOf_i, envOf_b, envOf_d, List.map_cons, List.map_nil, true_and, Bool.not_eq_true', Bool.not_eq_false', Bool.not_not, Bool.and_eq_true, and_f, cell_lg, cell_lb, cell_lr, cmpP, val_i, val_b, val_d, aget, Nat.reduceBEq, beq_self_eq_true, Bool.false_eq_true, if_true, if_false, Nat.reduceLT, Nat.reduceSub, Nat.sub_self, Nat.lt_irrefl, Ka1b31, Ka1b103, Ka1b104, id_1, dir_2, box_4]
  rw [repL_eq]
  repeat' (first | refine And.intro ?_ ?_ | intro _)
  all_goals refine congrArg Value.bool ?_
  all_goals try (rw [crs_in (by simp_all [dirB]; omega) (by simp_all [dirB]; omega) (by simp_all [dirB]; omega) (by simp_all [dirB]; omega)])
  all_goals (rw [Bool.eq_iff_iff]; simp only [cmp_t, cmpP, decide_eq_true_eq, Bool.false_eq_true, false_iff, Bool.and_eq_true, *, true_and, false_and, and_false, not_false_eq_true]; try omega)
theorem moorB_iff {a b c d e : Int} (h : moorB a b c d e = true) : placeB a b = true ∧ (0 ≤ c ∧ c ≤ d ∧ d ≤ 100000) ∧ 0 ≤ e ∧ e ≤ 1000000 := by
  simp only [moorB, spanB, Bool.and_eq_true, decide_eq_true_eq] at h
  exact ⟨h.1.1, by omega, by omega⟩
theorem htB_iff {a b : Int} : htB a b = true ↔ -100000 ≤ a ∧ a ≤ b ∧ b ≤ 100000 := by
  simp only [htB, spanB, Bool.and_eq_true, decide_eq_true_eq]
  omega
theorem sq_in {a M : Int} (h : -M ≤ a ∧ a ≤ M) : 0 ≤ a * a ∧ a * a ≤ M * M := ⟨sq_nn a, sq_le (by omega) (by omega)⟩
/-- The sum that has compares, without wrapping. -/
theorem has_in {x y w c : Int} (hx : -2000000 ≤ x ∧ x ≤ 2000000) (hy : -2000000 ≤ y ∧ y ≤ 2000000) (hw : 0 ≤ w ∧ w ≤ 200000) (hc : 0 ≤ c ∧ c ≤ 1000000) :
    IntKind.i64.wrap (IntKind.i64.wrap (100 * IntKind.i64.wrap (IntKind.i64.wrap (x * x) + IntKind.i64.wrap (y * y))) + IntKind.i64.wrap (w * w)) = 100 * (x * x + y * y) + w * w ∧ IntKind.i64.wrap (c * c) = c * c := by
  have h1 := sq_in hx
  have h2 := sq_in hy
  have h3 := sq_in (a := w) (M := 200000) (by omega)
  have h4 := sq_in (a := c) (M := 1000000) (by omega)
  rw [wrap_in (x * x) (by omega) (by omega), wrap_in (y * y) (by omega) (by omega), wrap_in (x * x + y * y) (by omega) (by omega), wrap_in (100 * (x * x + y * y)) (by omega) (by omega), wrap_in (w * w) (by omega) (by omega), wrap_in _ (by omega) (by omega)]
  exact ⟨rfl, wrap_in _ (by omega) (by omega)⟩
theorem gMHolds : Gives Try.prog 9 [mo, it, pt] (fun ds => .tuple #[.bool (holdsMR ds), .int .i64 (holdsME ds)]) := by
  refine GivesIf.all (fn_gives Ka1 (by kernel_rfl) (fun ρ h => ctU_ok (Sees.of h 110)) (by kernel_rfl) trMHolds_is trMHolds_low (by decide) (fun W vals ds _ _ => ?_))
  simp only [trMHolds, TT.sat_ret, TT.sat_ite, TT.sat_ob, TT.sat_next, TT.sat_stuck, put_i, put_b, put_d, put_fi, put_fb, put_fd, Ob.ok, B.ev, E.ev, X.ev, AL.ev, cmp_t, cmp_f, arEv, V.plain, V2.plain, S.plain, S0.plain, V.val, V2.val, S.val, S0.val, bV, iV, List.all_cons, List.all_nil, Bool.and_true, Bool.and_self, envOf_i, envOf_b, envOf_d, List.map_cons, List.map_nil, true_and, Bool.not_eq_true', Bool.not_eq_false', Bool.not_not, Bool.and_eq_true, and_f, cell_lg, cell_lb, cell_lr, cmpP, val_i, val_b, val_d, aget, Nat.reduceBEq, beq_self_eq_true, Bool.false_eq_true, if_true, if_false, Nat.reduceLT, Nat.reduceSub, Nat.sub_self, Nat.lt_irrefl, Ka1b3, Ka1b100, Ka1b101, moor_5, ht_2, place_2]
  have F : holdsMO ds = false → Value.tuple #[.bool false, .int .i64 1] = Value.tuple #[.bool (holdsMR ds), .int .i64 (holdsME ds)] := fun h => by simp [holdsMR, holdsME, h]
  refine ⟨fun h1 => F (by simp [holdsMO, h1]), fun h1 => ⟨fun h2 => F (by simp [holdsMO, h2]), fun h2 => ⟨fun h3 => F (by simp [holdsMO, h3]), fun h3 => ?_⟩⟩⟩
  have hO : holdsMO ds = true := by simp only [holdsMO, h1, h2, h3]; rfl
  obtain ⟨m1, m2, m3⟩ := moorB_iff h1
  rw [placeB_iff] at m1 h3
  rw [htB_iff] at h2
  rw [wrap_in (iAt ds 6 - iAt ds 0) (by omega) (by omega), wrap_in (iAt ds 7 - iAt ds 1) (by omega) (by omega), wrap_in (iAt ds 2 + iAt ds 5) (by omega) (by omega)]
  obtain ⟨e1, e2⟩ := has_in (x := iAt ds 6 - iAt ds 0) (y := iAt ds 7 - iAt ds 1) (w := max 0 (iAt ds 2 + iAt ds 5)) (c := iAt ds 4) (by omega) (by omega) (by omega) (by omega)
  rw [e1, e2]
  unfold holdsMR holdsME hasB dep
  rw [hO]
  simp [cmpEv]
theorem gMAllows : Gives Try.prog 11 [mo, sp, bx] (fun ds => .tuple #[.bool (allowsMR ds), .int .i64 (allowsME ds)]) := by
  refine GivesIf.all (fn_gives Ka1 (by kernel_rfl) (fun ρ h => ctU_ok (Sees.of h 110)) (by kernel_rfl) trMAllows_is trMAllows_low (by decide) (fun W vals ds _ _ => ?_))
  simp only [trMAllows, TT.sat_ret, TT.sat_ite, TT.sat_ob, TT.sat_next, TT.sat_stuck, put_i, put_b, put_d, put_fi, put_fb, put_fd, Ob.ok, B.ev, E.ev, X.ev, AL.ev, cmp_t, cmp_f, arEv, V.plain, V2.plain, S.plain, S0.plain, V.val, V2.val, S.val, S0.val, bV, iV, List.all_cons, List.all_nil, Bool.and_true, Bool.and_self, envOf_i, envOf_b, envOf_d, List.map_cons, List.map_nil, true_and, Bool.not_eq_true', Bool.not_eq_false', Bool.not_not, Bool.and_eq_true, and_f, cell_lg, cell_lb, cell_lr, cmpP, val_i, val_b, val_d, aget, Nat.reduceBEq, beq_self_eq_true, Bool.false_eq_true, if_true, if_false, Nat.reduceLT, Nat.reduceSub, Nat.sub_self, Nat.lt_irrefl, Ka1b31, Ka1b100, Ka1b101, moor_5, ht_2, box_4]
  have F : allowsMO ds = false → Value.tuple #[.bool false, .int .i64 1] = Value.tuple #[.bool (allowsMR ds), .int .i64 (allowsME ds)] := fun h => by simp [allowsMR, allowsME, h]
  refine ⟨fun h1 => F (by simp [allowsMO, h1]), fun h1 => ⟨fun h2 => F (by simp [allowsMO, h2]), fun h2 => ⟨fun h3 => F (by simp [allowsMO, h3]), fun h3 => ?_⟩⟩⟩
  have hO : allowsMO ds = true := by simp only [allowsMO, h1, h2, h3]; rfl
  obtain ⟨m1, m2, m3⟩ := moorB_iff h1
  rw [placeB_iff] at m1
  rw [htB_iff] at h2
  simp only [boxB, decide_eq_true_eq] at h3
  rw [wrap_in (iAt ds 7 - iAt ds 0) (by omega) (by omega), wrap_in (iAt ds 0 - iAt ds 8) (by omega) (by omega), wrap_in (iAt ds 9 - iAt ds 1) (by omega) (by omega), wrap_in (iAt ds 1 - iAt ds 10) (by omega) (by omega), wrap_in (iAt ds 2 + iAt ds 5) (by omega) (by omega)]
  obtain ⟨e1, e2⟩ := has_in (x := max (max (iAt ds 7 - iAt ds 0) (iAt ds 0 - iAt ds 8)) 0) (y := max (max (iAt ds 9 - iAt ds 1) (iAt ds 1 - iAt ds 10)) 0) (w := max 0 (iAt ds 2 + iAt ds 5)) (c := iAt ds 4) (by omega) (by omega) (by omega) (by omega)
  rw [e1, e2]
  unfold allowsMR allowsME hasB dep offI
  rw [hO]
  simp [cmpEv]
end Go.Proofs.Ytocghebdcpfalaa
/- TopMoored: the radius, tables, the boxes of reports. -/
namespace Go.Proofs.Ytocghebdcpfalaa
open Go.RowKit
theorem mid_in {a b : Nat} (ha : a ≤ 100000) (hb : b ≤ 100000) : IntKind.i64.wrap ((IntKind.u64.wrap (IntKind.i64.wrap ((a : Int) + b))).fdiv (2 ^ min (Int.toNat 1) IntKind.u64.bits)) = ((a + b) / 2 : Nat) := by
  have e1 : IntKind.i64.wrap ((a : Int) + b) = (a : Int) + b := wrap_in _ (by omega) (by omega)
  have e2 : IntKind.u64.wrap ((a : Int) + b) = (a : Int) + b := IntWalk.u64_in _ (by omega)
  have e3 : (2 : Int) ^ min (Int.toNat 1) IntKind.u64.bits = 2 := by decide
  rw [e1, e2, e3, Int.fdiv_eq_ediv_of_nonneg _ (by omega)]
  rw [wrap_in _ (by omega) (by omega)]
  omega
theorem gMRadius : Gives Try.prog 33 [mo, sp] (fun ds => .tuple #[.int .i64 (radR ds), .int .i64 (radE ds)]) := by
  refine GivesIf.all (fn_gives Ka1 (by kernel_rfl) (fun ρ h => ctU_ok (Sees.of h 110)) (by kernel_rfl) trMRadius_is trMRadius_low (by decide) (fun W vals ds _ _ => ?_))
  simp only [trMRadius, TT.sat_ret, TT.sat_ite, TT.sat_ob, TT.sat_next, TT.sat_stuck, put_i, put_b, put_d, put_fi, put_fb, put_fd, Ob.ok, B.ev, E.ev, X.ev, AL.ev, cmp_t, cmp_f, arEv, V.plain, V2.plain, S.plain, S0.plain, V.val, V2.val, S.val, S0.val, bV, iV, List.all_cons, List.all_nil, Bool.and_true, Bool.and_self, envOf_i, envOf_b, envOf_d, List.map_cons, List.map_nil, true_and, Bool.not_eq_true', Bool.not_eq_false', Bool.not_not, Bool.and_eq_true, and_f, cell_lg, cell_lb, cell_lr, cmpP, val_i, val_b, val_d, aget, Nat.reduceBEq, beq_self_eq_true, Bool.false_eq_true, if_true, if_false, Nat.reduceLT, Nat.reduceSub, Nat.sub_self, Nat.lt_irrefl, Ka1b100, Ka1b101, moor_5, ht_2]
  have F : radO ds = false → Value.tuple #[.int .i64 0, .int .i64 1] = Value.tuple #[.int .i64 (radR ds), .int .i64 (radE ds)] := fun h => by simp [radR, radE, radX, h]
  refine ⟨fun h1 => F (by simp [radO, h1]), fun h1 => ⟨fun h2 => F (by simp [radO, h2]), fun h2 => ?_⟩⟩
  have hO : radO ds = true := by simp only [radO, h1, h2]; rfl
  obtain ⟨m1, m2, m3⟩ := moorB_iff h1
  rw [htB_iff] at h2
  rw [wrap_in (iAt ds 3 + iAt ds 6) (by omega) (by omega)]
  refine ⟨fun h3 => ?_, fun h3 => ?_⟩
  · have : radX ds = false := by rw [radX, hO, decide_eq_false (by unfold dep; omega)]; rfl
    simp [radR, radE, this, hO]
  have hX : radX ds = true := by rw [radX, hO, decide_eq_true (by unfold dep; omega)]; rfl
  have hR : radR ds = radI (iAt ds 4 * iAt ds 4 - dep (iAt ds 2) (iAt ds 5) * dep (iAt ds 2) (iAt ds 5)) := by unfold radR; rw [hX]; rfl
  have hE : radE ds = 0 := by unfold radE; rw [hX]; rfl
  have s1 := sq_in (a := iAt ds 4) (M := 1000000) (by omega)
  have s2 := sq_in (a := dep (iAt ds 2) (iAt ds 5)) (M := 200000) (by unfold dep; omega)
  generalize hfree : iAt ds 4 * iAt ds 4 - dep (iAt ds 2) (iAt ds 5) * dep (iAt ds 2) (iAt ds 5) = free at *
  have hw : IntKind.i64.wrap (IntKind.i64.wrap (iAt ds 4 * iAt ds 4) - IntKind.i64.wrap (max 0 (IntKind.i64.wrap (iAt ds 2 + iAt ds 5)) * max 0 (IntKind.i64.wrap (iAt ds 2 + iAt ds 5)))) = free := by
    rw [wrap_in (iAt ds 2 + iAt ds 5) (by omega) (by omega), wrap_in (iAt ds 4 * iAt ds 4) (by omega) (by omega)]
    show IntKind.i64.wrap (iAt ds 4 * iAt ds 4 - IntKind.i64.wrap (dep (iAt ds 2) (iAt ds 5) * dep (iAt ds 2) (iAt ds 5))) = free
    rw [wrap_in (dep (iAt ds 2) (iAt ds 5) * dep (iAt ds 2) (iAt ds 5)) (by omega) (by omega), hfree, wrap_in _ (by omega) (by omega)]
  refine TT.sat_loop (fun v => ∃ a b : Nat, v.i 0 = a ∧ v.i 1 = b ∧ a ≤ b ∧ b ≤ 100000 ∧ (∀ j, j < a → farP free j = false) ∧ (b < 100000 → farP free b = true)) (fun v => (v.i 1).toNat - (v.i 0).toNat) ?_ (fun v hv => ?_)
  · exact ⟨0, 100000, by simp [val_i, aget, E.ev], by simp [val_i, aget, E.ev], by omega, by omega, fun j h => absurd h (Nat.not_lt_zero _), fun h => absurd h (by omega)⟩
  obtain ⟨a, b, a0, b0, hab, hb, k1, k2⟩ := hv
  simp only [TT.sat_ret, TT.sat_ite, TT.sat_ob, TT.sat_next, TT.sat_stuck, put_i, put_b, put_d, put_fi, put_fb, put_fd, Ob.ok, B.ev, E.ev, X.ev, AL.ev, cmp_t, cmp_f, arEv, V.plain, V2.plain, S.plain, S0.plain, V.val, V2.val, S.val, S0.val, bV, iV, List.all_cons, List.all_nil, Bool.and_true, Bool.and_self, envOf_i, envOf_b, envOf_d, List.map_cons, List.map_nil, true_and, Bool.not_eq_true', Bool.not_eq_false', Bool.not_not, Bool.and_eq_true, and_f, cell_lg, cell_lb, cell_lr, cmpP, val_i, val_b, val_d, aget, Nat.reduceBEq, beq_self_eq_true, Bool.false_eq_true, if_true, if_false, Nat.reduceLT, Nat.reduceSub, Nat.sub_self, Nat.lt_irrefl, a0, b0, mid_in (show a ≤ 100000 by omega) hb, hw]
  have hmono : ∀ i j : Nat, i ≤ j → farP free i = true → farP free j = true := by
    intro i j hij h
    simp only [farP, decide_eq_true_eq] at h ⊢
    have := sq_le (a := (i : Int)) (b := (j : Int)) (by omega) (by omega)
    have e1 : 100 * (i : Int) * i = 100 * ((i : Int) * i) := by grind
    have e2 : 100 * (j : Int) * j = 100 * ((j : Int) * j) := by grind
    omega
  refine ⟨fun hc => ?_, fun hc => ?_⟩
  · have hmid : (a + b) / 2 < b := by omega
    have hm0 : a ≤ (a + b) / 2 := by omega
    have s3 := sq_in (a := (((a + b) / 2 : Nat) : Int)) (M := 100000) (by omega)
    have w1 : IntKind.i64.wrap (IntKind.i64.wrap (100 * (((a + b) / 2 : Nat) : Int)) * (((a + b) / 2 : Nat) : Int)) = 100 * (((a + b) / 2 : Nat) : Int) * (((a + b) / 2 : Nat) : Int) := by
      rw [wrap_in (100 * (((a + b) / 2 : Nat) : Int)) (by omega) (by omega)]
      have e : 100 * (((a + b) / 2 : Nat) : Int) * (((a + b) / 2 : Nat) : Int) = 100 * ((((a + b) / 2 : Nat) : Int) * (((a + b) / 2 : Nat) : Int)) := by grind
      exact wrap_in _ (by omega) (by omega)
    rw [w1, wrap_in ((((a + b) / 2 : Nat) : Int) + 1) (by omega) (by omega)]
    refine ⟨fun q => ⟨⟨(a + b) / 2 + 1, b, by omega, rfl, by omega, hb, fun j hj => ?_, k2⟩, by omega⟩, fun q => ⟨⟨a, (a + b) / 2, rfl, rfl, hm0, Nat.le_trans (Nat.le_of_lt hmid) hb, k1, fun _ => ?_⟩, by simp only [Int.toNat_natCast]; omega⟩⟩
    · cases h : farP free j with
      | false => rfl
      | true =>
        have := hmono j ((a + b) / 2) (by omega) h
        simp only [farP, decide_eq_true_eq] at this
        omega
    · simp only [farP, decide_eq_true_eq]
      omega
  · have e : a = b := by omega
    subst e
    have := least_uniq (p := farP free) (n := 100000) (k := a) hb k1 k2
    rw [hR, hE]
    unfold radI
    rw [this]
theorem gSBox : Gives Try.prog 10 [rep] (fun ds => .tuple #[.agg #[.int .i64 (sbA ds), .int .i64 (sbB ds), .int .i64 (sbC ds), .int .i64 (sbD ds)], .int .i64 (sbE ds)]) := by
  refine GivesIf.all (fn_gives Ka1 (by kernel_rfl) (fun ρ h => ctU_ok (Sees.of h 110)) (by kernel_rfl) trSBox_is trSBox_low (by decide) (fun W vals ds _ _ => ?_))
  simp only [trSBox, TT.sat_ret, TT.sat_ite, TT.sat_ob, TT.sat_next, TT.sat_stuck, put_i, put_b, put_d, put_fi, put_fb, put_fd, Ob.ok, B.ev, E.ev, X.ev, AL.ev, cmp_t, cmp_f, arEv, V.plain, V2.plain, S.plain, S0.plain, V.val, V2.val, S.val, S0.val, bV, iV, List.all_cons, List.all_nil, Bool.and_true, Bool.and_self, envOf_i, envOf_b, envOf_d, List.map_cons, List.map_nil, true_and, Bool.not_eq_true', Bool.not_eq_false', Bool.not_not, Bool.and_eq_true, and_f, cell_lg, cell_lb, cell_lr, cmpP, val_i, val_b, val_d, aget, Nat.reduceBEq, beq_self_eq_true, Bool.false_eq_true, if_true, if_false, Nat.reduceLT, Nat.reduceSub, Nat.sub_self, Nat.lt_irrefl, Ka1b102, rep_13]
  refine ⟨fun h => by simp [sbA, sbB, sbC, sbD, sbE, h], fun h => ?_⟩
  have h' := h
  rw [repL_eq] at h'
  simp only [Bool.and_eq_true, decide_eq_true_eq, boxB] at h'
  have e1 : sbA ds = reachLo (iAt ds 4) (iAt ds 8) (iAt ds 10) (iAt ds 12) := by unfold sbA; rw [h]; rfl
  have e2 : sbB ds = reachHi (iAt ds 5) (iAt ds 8) (iAt ds 10) (iAt ds 12) := by unfold sbB; rw [h]; rfl
  have e3 : sbC ds = reachLo (iAt ds 6) (iAt ds 9) (iAt ds 11) (iAt ds 12) := by unfold sbC; rw [h]; rfl
  have e4 : sbD ds = reachHi (iAt ds 7) (iAt ds 9) (iAt ds 11) (iAt ds 12) := by unfold sbD; rw [h]; rfl
  have e5 : sbE ds = 0 := by unfold sbE; rw [h]; rfl
  rw [e1, e2, e3, e4, e5, wrap_in (iAt ds 4 - iAt ds 12) (by omega) (by omega), wrap_in (iAt ds 5 + iAt ds 12) (by omega) (by omega), wrap_in (iAt ds 6 - iAt ds 12) (by omega) (by omega), wrap_in (iAt ds 7 + iAt ds 12) (by omega) (by omega)]
  unfold reachLo reachHi
  repeat' (first | refine And.intro ?_ ?_ | intro _)
  all_goals simp only [*, if_true, if_false]
theorem tideN_iff (r : Rows) : ∀ f i, tideN r f i = true ↔ ∀ j : Nat, i ≤ j → j < i + f → htB (lg r j 0) (lg r j 1) = true
  | 0, i => by simp only [tideN, true_iff]; intro j h1 h2; omega
  | f + 1, i => by
    rw [tideN, Bool.and_eq_true, tideN_iff r f (i + 1)]
    constructor
    · rintro ⟨h1, h2⟩ j h3 h4
      by_cases e : j = i
      · subst e; exact h1
      · exact h2 j (by omega) (by omega)
    · intro h
      exact ⟨h i (by omega) (by omega), fun j h1 h2 => h j (by omega) (by omega)⟩
theorem gTiV : Gives Try.prog 20 [tid] (fun ds => .bool (tideL ds)) := by
  refine GivesIf.all (fn_gives Ka1 (by kernel_rfl) (fun ρ h => ctU_ok (Sees.of h 110)) (by kernel_rfl) trTiV_is trTiV_low (by decide) (fun W vals ds _ _ => ?_))
  simp only [trTiV, TT.sat_ret, TT.sat_ite, TT.sat_ob, TT.sat_next, TT.sat_stuck, put_i, put_b, put_d, put_fi, put_fb, put_fd, Ob.ok, B.ev, E.ev, X.ev, AL.ev, cmp_t, cmp_f, arEv, V.plain, V2.plain, S.plain, S0.plain, V.val, V2.val, S.val, S0.val, bV, iV, List.all_cons, List.all_nil, Bool.and_true, Bool.and_self, envOf_i, envOf_b, envOf_d, List.map_cons, List.map_nil, true_and, Bool.not_eq_true', Bool.not_eq_false', Bool.not_not, Bool.and_eq_true, and_f, cell_lg, cell_lb, cell_lr, cmpP, val_i, val_b, val_d, aget, Nat.reduceBEq, beq_self_eq_true, Bool.false_eq_true, if_true, if_false, Nat.reduceLT, Nat.reduceSub, Nat.sub_self, Nat.lt_irrefl, Ka1b101, ht_2]
  have e : tideL ds = (timeB (iAt ds 0) && (decide (1 ≤ iAt ds 1 ∧ iAt ds 1 ≤ 1000 ∧ 1 ≤ (rAt ds 2).length ∧ (rAt ds 2).length ≤ 200) && (timeB (lastT (iAt ds 0) (iAt ds 1) (rAt ds 2)) && tideN (rAt ds 2) (rAt ds 2).length 0))) := rfl
  have H : tideL ds = true → (0 ≤ iAt ds 0 ∧ iAt ds 0 ≤ 10000000) ∧ (1 ≤ iAt ds 1 ∧ iAt ds 1 ≤ 1000 ∧ 1 ≤ (rAt ds 2).length ∧ (rAt ds 2).length ≤ 200) ∧ (0 ≤ lastT (iAt ds 0) (iAt ds 1) (rAt ds 2) ∧ lastT (iAt ds 0) (iAt ds 1) (rAt ds 2) ≤ 10000000) ∧ tideN (rAt ds 2) (rAt ds 2).length 0 = true := by
    rw [e]
    simp only [timeB, Bool.and_eq_true, decide_eq_true_eq]
    exact id
  have F : ¬ tideL ds = true → Value.bool false = Value.bool (tideL ds) := fun h => by rw [Bool.not_eq_true] at h; rw [h]
  refine ⟨fun h1 => ⟨fun h2 => F (fun q => by have := H q; omega), fun h2 => ⟨fun h3 => F (fun q => by have := H q; omega), fun h3 => ⟨fun h4 => F (fun q => by have := H q; omega), fun h4 => ⟨fun h5 => F (fun q => by have := H q; omega), fun h5 => ⟨fun h6 => F (fun q => by have := H q; omega), fun h6 => ?_⟩⟩⟩⟩⟩, fun h1 => F (fun q => by have := H q; omega)⟩
  have hm : 0 ≤ ((rAt ds 2).length - 1 : Int) * iAt ds 1 ∧ ((rAt ds 2).length - 1 : Int) * iAt ds 1 ≤ 200 * 1000 := ⟨Int.mul_nonneg (by omega) (by omega), Int.mul_le_mul (by omega) (by omega) (by omega) (by omega)⟩
  have hl : IntKind.i64.wrap (iAt ds 0 + IntKind.i64.wrap (IntKind.i64.wrap (((rAt ds 2).length : Int) - 1) * iAt ds 1)) = lastT (iAt ds 0) (iAt ds 1) (rAt ds 2) := by
    rw [wrap_in (((rAt ds 2).length : Int) - 1) (by omega) (by omega), wrap_in ((((rAt ds 2).length : Int) - 1) * iAt ds 1) (by omega) (by omega), wrap_in _ (by omega) (by omega)]
    rfl
  rw [hl]
  refine ⟨fun h7 => ⟨fun h8 => F (fun q => by have := H q; omega), fun h8 => ?_⟩, fun h7 => F (fun q => by have := H q; omega)⟩
  refine TT.sat_loop (fun v => ∃ i : Nat, v.i 0 = i ∧ i ≤ (rAt ds 2).length ∧ ∀ j : Nat, j < i → htB (lg (rAt ds 2) j 0) (lg (rAt ds 2) j 1) = true) (fun v => (rAt ds 2).length - (v.i 0).toNat) ⟨0, by simp [val_i, aget, E.ev], by omega, fun j h => absurd h (Nat.not_lt_zero _)⟩ (fun v hv => ?_)
  obtain ⟨i, i0, i1, i2⟩ := hv
  simp only [TT.sat_ret, TT.sat_ite, TT.sat_ob, TT.sat_next, TT.sat_stuck, put_i, put_b, put_d, put_fi, put_fb, put_fd, Ob.ok, B.ev, E.ev, X.ev, AL.ev, cmp_t, cmp_f, arEv, V.plain, V2.plain, S.plain, S0.plain, V.val, V2.val, S.val, S0.val, bV, iV, List.all_cons, List.all_nil, Bool.and_true, Bool.and_self, envOf_i, envOf_b, envOf_d, List.map_cons, List.map_nil, true_and, Bool.not_eq_true', Bool.not_eq_false', Bool.not_not, Bool.and_eq_true, and_f, cell_lg, cell_lb, cell_lr, cmpP, val_i, val_b, val_d, aget, Nat.reduceBEq, beq_self_eq_true, Bool.false_eq_true, if_true, if_false, Nat.reduceLT, Nat.reduceSub, Nat.sub_self, Nat.lt_irrefl, i0, Ka1b101, ht_2]
  refine ⟨fun hc => ⟨by omega, hc, fun hb => F (fun q => ?_), fun hb => ?_⟩, fun hc => ?_⟩
  · have := (tideN_iff _ _ _).1 (H q).2.2.2 i (Nat.zero_le _) (by omega)
    rw [hb] at this
    cases this
  · rw [wrap_in _ (by omega) (by omega)]
    refine ⟨⟨i + 1, by omega, by omega, fun j hj => ?_⟩, by omega⟩
    by_cases e : j = i
    · subst e; exact hb
    · exact i2 j (by omega)
  · have : tideL ds = true := by
      rw [e]
      simp only [timeB, Bool.and_eq_true, decide_eq_true_eq]
      exact ⟨by omega, by omega, by omega, (tideN_iff _ _ _).2 (fun j _ hj => i2 j (by omega))⟩
    rw [this]
/-- All symbols so far. -/
def Ka2 : Interp where
  fi n l := match n with | 110 => holdsME l | 111 => allowsME l | 112 => radR l | 113 => radE l | 115 => sbA l | 116 => sbB l | 117 => sbC l | 118 => sbD l | 119 => sbE l | n => Ka1.fi n l
  fb n l := match n with | 110 => holdsMR l | 111 => allowsMR l | 114 => tideL l | n => Ka1.fb n l
  fd _ _ := []
theorem Ka2_Ka1 {ρ : Env} (h : Sees ρ Ka2 130) : Sees ρ Ka1 110 := h.trans (by decide) fun n l hn => by
  refine ⟨?_, ?_⟩
  ·
    simp only [Ka2]
    split <;> first | omega | rfl
  ·
    simp only [Ka2]
    split <;> first | omega | rfl
def cRV := ctD [rep] fun al => .ret (bV (bF 102 repL al))
theorem cRV_ok {ρ : Env} (h : Sees ρ Ka2 130) : CtOne Try.prog ρ 17 cRV :=
  ctD_ok gRV (fun _ => rfl) (fun al => by simp only [iV, bV, V.s0, V.val, V2.val, S.val, S0.val, bF_ev (s := 102) (f := repL) (fun l => by rw [(h 102 l (by decide)).2]; simp only [Ka2, Ka1, K7, K6, K5, K])]; try rfl)
def cMHolds := ctD [mo, it, pt] fun al => .ret (.tup [.one (sBF 110 holdsMR al), .one (sIF 110 holdsME al)])
theorem cMHolds_ok {ρ : Env} (h : Sees ρ Ka2 130) : CtOne Try.prog ρ 9 cMHolds :=
  ctD_ok gMHolds (fun _ => rfl) (fun al => by simp only [V.val, V2.val, S.val, S0.val, sIF, sBF, List.map_cons, List.map_nil, bF_ev (s := 110) (f := holdsMR) (fun l => by rw [(h 110 l (by decide)).2]; simp only [Ka2, Ka1, K7, K6, K5, K]), iF_ev (s := 110) (f := holdsME) (fun l => by rw [(h 110 l (by decide)).1]; simp only [Ka2, Ka1, K7, K6, K5, K])]; try rfl)
def cMAllows := ctD [mo, sp, bx] fun al => .ret (.tup [.one (sBF 111 allowsMR al), .one (sIF 111 allowsME al)])
theorem cMAllows_ok {ρ : Env} (h : Sees ρ Ka2 130) : CtOne Try.prog ρ 11 cMAllows :=
  ctD_ok gMAllows (fun _ => rfl) (fun al => by simp only [V.val, V2.val, S.val, S0.val, sIF, sBF, List.map_cons, List.map_nil, bF_ev (s := 111) (f := allowsMR) (fun l => by rw [(h 111 l (by decide)).2]; simp only [Ka2, Ka1, K7, K6, K5, K]), iF_ev (s := 111) (f := allowsME) (fun l => by rw [(h 111 l (by decide)).1]; simp only [Ka2, Ka1, K7, K6, K5, K])]; try rfl)
def cMRadius := ctD [mo, sp] fun al => .ret (.tup [.one (sIF 112 radR al), .one (sIF 113 radE al)])
theorem cMRadius_ok {ρ : Env} (h : Sees ρ Ka2 130) : CtOne Try.prog ρ 33 cMRadius :=
  ctD_ok gMRadius (fun _ => rfl) (fun al => by simp only [V.val, V2.val, S.val, S0.val, sIF, sBF, List.map_cons, List.map_nil, iF_ev (s := 112) (f := radR) (fun l => by rw [(h 112 l (by decide)).1]; simp only [Ka2, Ka1, K7, K6, K5, K]), iF_ev (s := 113) (f := radE) (fun l => by rw [(h 113 l (by decide)).1]; simp only [Ka2, Ka1, K7, K6, K5, K])]; try rfl)
def cTiV := ctD [tid] fun al => .ret (bV (bF 114 tideL al))
theorem cTiV_ok {ρ : Env} (h : Sees ρ Ka2 130) : CtOne Try.prog ρ 20 cTiV :=
  ctD_ok gTiV (fun _ => rfl) (fun al => by simp only [iV, bV, V.s0, V.val, V2.val, S.val, S0.val, bF_ev (s := 114) (f := tideL) (fun l => by rw [(h 114 l (by decide)).2]; simp only [Ka2, Ka1, K7, K6, K5, K])]; try rfl)
def cSBox := ctD [rep] fun al => .ret (.tup [.agg [sIF 115 sbA al, sIF 116 sbB al, sIF 117 sbC al, sIF 118 sbD al], .one (sIF 119 sbE al)])
theorem cSBox_ok {ρ : Env} (h : Sees ρ Ka2 130) : CtOne Try.prog ρ 10 cSBox :=
  ctD_ok gSBox (fun _ => rfl) (fun al => by simp only [V.val, V2.val, S.val, S0.val, sIF, sBF, List.map_cons, List.map_nil, iF_ev (s := 115) (f := sbA) (fun l => by rw [(h 115 l (by decide)).1]; simp only [Ka2, Ka1, K7, K6, K5, K]), iF_ev (s := 116) (f := sbB) (fun l => by rw [(h 116 l (by decide)).1]; simp only [Ka2, Ka1, K7, K6, K5, K]), iF_ev (s := 117) (f := sbC) (fun l => by rw [(h 117 l (by decide)).1]; simp only [Ka2, Ka1, K7, K6, K5, K]), iF_ev (s := 118) (f := sbD) (fun l => by rw [(h 118 l (by decide)).1]; simp only [Ka2, Ka1, K7, K6, K5, K]), iF_ev (s := 119) (f := sbE) (fun l => by rw [(h 119 l (by decide)).1]; simp only [Ka2, Ka1, K7, K6, K5, K])]; try rfl)
def ctU2 : Ct := (17, cRV) :: (9, cMHolds) :: (11, cMAllows) :: (33, cMRadius) :: (20, cTiV) :: (10, cSBox) :: ctU
theorem ctU2_ok {ρ : Env} (h : Sees ρ Ka2 130) : CtOk Try.prog ρ ctU2 := .cons (cRV_ok h) <| .cons (cMHolds_ok h) <| .cons (cMAllows_ok h) <| .cons (cMRadius_ok h) <| .cons (cTiV_ok h) <| .cons (cSBox_ok h) (ctU_ok (Ka2_Ka1 h))
end Go.Proofs.Ytocghebdcpfalaa
