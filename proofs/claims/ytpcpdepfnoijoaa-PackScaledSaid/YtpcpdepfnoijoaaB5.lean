/-
  Part of a proof: A size twice as great, one place lower, is packed as the same (slipsticklaw19.PackScaled).
-/
import Derived.Test.YtpcpdepfnoijoaaVcB
set_option linter.unusedVariables false
namespace Go.Vc
def atsN (x : Nd) : List Int := if x.k = 7 then [] else usesN x
abbrev ndI (n : Net) (i : Nat) : Nd := n.nodes.getD i default
def uStep (i : Int) (us : List (List Int)) (a : Int) : List (List Int) := us.set a.toNat (us.getD a.toNat [] ++ [i])
def usersG (n : Net) : Nat → List (List Int)
  | 0 => List.replicate n.nodes.length []
  | i + 1 => (atsN (ndI n i)).foldl (uStep i) (usersG n i)
def leftG (n : Net) : Nat → List Int
  | 0 => c0 n
  | i + 1 => bumpAll (leftG n i) (List.replicate (atsN (ndI n i)).length (i : Int))
def readyG (n : Net) : Nat → List Int
  | 0 => []
  | i + 1 => if (leftG n (i + 1)).getD i 0 = 0 then readyG n i ++ [(i : Int)] else readyG n i
structure Lv where
  level : List Int
  left : List Int
  ready : List Int
def relax (a : Int) (st : Lv) (u : Int) : Lv :=
  let lv := st.level.set u.toNat (max (st.level.getD u.toNat 0) (st.level.getD a.toNat 0 + 1))
  let lf := st.left.set u.toNat (st.left.getD u.toNat 0 - 1)
  ⟨lv, lf, if lf.getD u.toNat 0 = 0 then st.ready ++ [u] else st.ready⟩
def relaxAll (n : Net) (a : Int) (st : Lv) : Lv := ((usersG n n.nodes.length).getD a.toNat []).foldl (relax a) st
def qrun (n : Net) : Nat → Nat → Lv → Nat × Lv
  | 0, d, st => (d, st)
  | f + 1, d, st => if d < st.ready.length then qrun n f (d + 1) (relaxAll n (st.ready.getD d 0) st) else (d, st)
def lv0 (n : Net) : Lv := ⟨c0 n, leftG n n.nodes.length, readyG n n.nodes.length⟩
def posL (l : List Int) : Nat := l.countP fun x => decide (0 < x)
def muQ (d : Nat) (st : Lv) : Nat := posL st.left + (st.ready.length - d)
def levelsR (n : Net) : Nat × Lv := qrun n (muQ 0 (lv0 n)) 0 (lv0 n)
theorem posL_set {l : List Int} {i : Nat} (hi : i < l.length) (x : Int) : posL (l.set i x) + (if 0 < l.getD i 0 then 1 else 0) = posL l + (if 0 < x then 1 else 0) := by
  unfold posL
  have e : l.getD i 0 = l[i] := by simp [List.getD_eq_getElem?_getD, hi]
  rw [e, List.countP_set hi]
  by_cases h1 : 0 < l[i] <;> by_cases h2 : 0 < x <;> simp [h1, h2]
  · have : 0 < l.countP fun x => decide (0 < x) := List.countP_pos_iff.2 ⟨l[i], List.getElem_mem hi, by simpa using h1⟩
    omega
  · have : 0 < l.countP fun x => decide (0 < x) := List.countP_pos_iff.2 ⟨l[i], List.getElem_mem hi, by simpa using h1⟩
    omega
structure LvH (s : St) (e k4 k5 : Nat) (L B : List Int) (x : AV) (rd : List Int) (s0 s1 : St) : Prop where
  own : OwnSt s0 x e 1 (rd.map eI) s1
  h4 : s0 k4 = some (.arr e 1 (L.map eI))
  h5 : s0 k5 = some (.arr e 1 (B.map eI))
  le : Le s s0
theorem Le.updN {s s0 : St} {k : Nat} {r : Res} (h : Le s s0) (hk : s k = none) : Le s (upd s0 k r) := fun i x hi => by
  by_cases e : i = k
  · subst e; rw [hk] at hi; cases hi
  · rw [upd_ne _ _ e]; exact h i x hi
theorem Le.eraN {s s0 : St} {k : Nat} (h : Le s s0) (hk : s k = none) : Le s (Vc.era s0 k) := fun i x hi => by
  by_cases e : i = k
  · subst e; rw [hk] at hi; cases hi
  · rw [era_ne _ e]; exact h i x hi
theorem OwnSt.era {s0 s1 : St} {x : AV} {e sz p : Nat} {xs : List (List AV)} {r : Res} (h : OwnSt s0 x e sz xs s1) (hp : s0 p = some r) : OwnSt (Vc.era s0 p) x e sz xs (Vc.era s1 p) := by
  rcases h with ⟨h1, rfl, h2⟩ | ⟨k, h1, hk, rfl⟩
  · exact .inl ⟨h1, rfl, h2⟩
  · have hne : k ≠ p := fun e => by subst e; rw [hk] at hp; cases hp
    refine .inr ⟨k, h1, by rw [era_ne _ hne]; exact hk, ?_⟩
    funext i
    by_cases e1 : i = p
    · subst e1; rw [era_same, upd_ne _ _ hne.symm, era_same]
    · rw [era_ne _ e1]
      by_cases e2 : i = k
      · subst e2; rw [upd_same, upd_same]
      · rw [upd_ne _ _ e2, upd_ne _ _ e2, era_ne _ e1]
theorem upd_era_self {s : St} {p : Nat} {r : Res} (hp : s p = some r) : s = upd (era s p) p r := by
  rw [upd_era]; exact (upd_self s p r hp).symm
def usersJ (n : Net) (i j : Nat) : List (List Int) := ((atsN (ndI n i)).take j).foldl (uStep i) (usersG n i)
def leftJ (n : Net) (i j : Nat) : List Int := bumpAll (leftG n i) (List.replicate j (i : Int))
theorem uStep_len (i : Int) (us : List (List Int)) (a : Int) : (uStep i us a).length = us.length := by simp [uStep]
theorem uFold_len (i : Int) : ∀ (l : List Int) (us : List (List Int)), (l.foldl (uStep i) us).length = us.length
  | [], _ => rfl
  | a :: l, us => by rw [List.foldl_cons, uFold_len i l, uStep_len]
theorem usersG_len (n : Net) : ∀ i, (usersG n i).length = n.nodes.length
  | 0 => by simp [usersG]
  | i + 1 => by rw [usersG, uFold_len, usersG_len n i]
theorem usersJ_len (n : Net) (i j : Nat) : (usersJ n i j).length = n.nodes.length := by rw [usersJ, uFold_len, usersG_len]
theorem leftG_len (n : Net) : ∀ i, (leftG n i).length = n.nodes.length
  | 0 => by simp [leftG, c0]
  | i + 1 => by rw [leftG, bumpAll_len, leftG_len n i]
theorem leftJ_len (n : Net) (i j : Nat) : (leftJ n i j).length = n.nodes.length := by rw [leftJ, bumpAll_len, leftG_len]
theorem atsN_len (x : Nd) : (atsN x).length ≤ 3 := by unfold atsN; split; simp; exact usesN_len x
theorem leftG_bd (n : Net) (m : Nat) : ∀ i, 0 ≤ (leftG n i).getD m 0 ∧ (leftG n i).getD m 0 ≤ 3 * i
  | 0 => by rw [leftG, c0_get]; simp
  | i + 1 => by
    have h := bumpAll_le (List.replicate (atsN (ndI n i)).length (i : Int)) (leftG n i) m
    have h2 := leftG_bd n m i
    have h3 := atsN_len (ndI n i)
    rw [leftG]
    simp only [List.length_replicate] at h
    omega
theorem leftJ_bd (n : Net) (i j m : Nat) : 0 ≤ (leftJ n i j).getD m 0 ∧ (leftJ n i j).getD m 0 ≤ 3 * i + j := by
  have h := bumpAll_le (List.replicate j (i : Int)) (leftG n i) m
  have h2 := leftG_bd n m i
  unfold leftJ
  simp only [List.length_replicate] at h
  omega
theorem take_succ_get {l : List Int} {j : Nat} (h : j < l.length) : l.take (j + 1) = l.take j ++ [l.getD j default] := by
  have := map_take_succ (f := id) h
  simpa using this
theorem usersJ_succ {n : Net} {i j : Nat} (h : j < (atsN (ndI n i)).length) : usersJ n i (j + 1) = uStep i (usersJ n i j) ((atsN (ndI n i)).getD j default) := by
  unfold usersJ; rw [take_succ_get h, List.foldl_append]; rfl
theorem leftJ_succ (n : Net) (i j : Nat) : leftJ n i (j + 1) = bump (leftJ n i j) i := by
  unfold leftJ
  rw [← bumpAll_snoc, ← List.replicate_succ']
theorem usersJ_end {n : Net} {i j : Nat} (h : ¬ j < (atsN (ndI n i)).length) : usersJ n i j = usersG n (i + 1) := by
  unfold usersJ; rw [List.take_of_length_le (by omega)]; rfl
theorem leftJ_end {n : Net} {i j : Nat} (h : j = (atsN (ndI n i)).length) : leftJ n i j = leftG n (i + 1) := by subst h; rfl
end Go.Vc
namespace Go.Vc
theorem LvH.init {s : St} {e k4 k5 k6 : Nat} {L B : List Int} {r6 : Res} (h4 : s k4 = none) (h5 : upd s k4 (.arr e 1 (L.map eI)) k5 = none) (h6 : upd (upd s k4 (.arr e 1 (L.map eI))) k5 (.arr e 1 (B.map eI)) k6 = none) :
    LvH s e k4 k5 L B nilS [] (upd (upd (upd s k4 (.arr e 1 (L.map eI))) k5 (.arr e 1 (B.map eI))) k6 r6) (upd (upd (upd s k4 (.arr e 1 (L.map eI))) k5 (.arr e 1 (B.map eI))) k6 r6) := by
  have n65 : k5 ≠ k6 := fun e => by subst e; rw [upd_same] at h6; cases h6
  have n45 : k4 ≠ k5 := fun e => by subst e; rw [upd_same] at h5; cases h5
  rw [upd_ne _ _ n65.symm] at h6
  have n46 : k4 ≠ k6 := fun e => by subst e; rw [upd_same] at h6; cases h6
  rw [upd_ne _ _ n46.symm] at h6
  rw [upd_ne _ _ n45.symm] at h5
  refine ⟨OwnSt.nil _ _ _, ?_, ?_, ?_⟩
  · rw [upd_ne _ _ n46, upd_ne _ _ n45, upd_same]
  · rw [upd_ne _ _ n65, upd_same]
  · exact (((Le.refl s).updN h4).updN h5).updN h6
theorem LvH.g4 {s : St} {e k4 k5 : Nat} {L B : List Int} {x : AV} {rd : List Int} {s0 s1 : St} (h : LvH s e k4 k5 L B x rd s0 s1) : s1 k4 = some (.arr e 1 (L.map eI)) := h.own.le _ _ h.h4
theorem LvH.g5 {s : St} {e k4 k5 : Nat} {L B : List Int} {x : AV} {rd : List Int} {s0 s1 : St} (h : LvH s e k4 k5 L B x rd s0 s1) : s1 k5 = some (.arr e 1 (B.map eI)) := h.own.le _ _ h.h5
theorem LvH.set5 {s : St} {e k4 k5 : Nat} {L B B' : List Int} {x : AV} {rd : List Int} {s0 s1 : St} (h : LvH s e k4 k5 L B x rd s0 s1) (n45 : k4 ≠ k5) (hk : s k5 = none) :
    LvH s e k4 k5 L B' x rd (upd s0 k5 (.arr e 1 (B'.map eI))) (upd s1 k5 (.arr e 1 (B'.map eI))) :=
  ⟨h.own.other h.h5, by rw [upd_ne _ _ n45]; exact h.h4, upd_same _ _ _, h.le.updN hk⟩
theorem LvH.set4 {s : St} {e k4 k5 : Nat} {L L' B : List Int} {x : AV} {rd : List Int} {s0 s1 : St} (h : LvH s e k4 k5 L B x rd s0 s1) (n45 : k4 ≠ k5) (hk : s k4 = none) :
    LvH s e k4 k5 L' B x rd (upd s0 k4 (.arr e 1 (L'.map eI))) (upd s1 k4 (.arr e 1 (L'.map eI))) :=
  ⟨h.own.other h.h4, upd_same _ _ _, by rw [upd_ne _ _ n45.symm]; exact h.h5, h.le.updN hk⟩
theorem LvH.set6 {s : St} {e k4 k5 k6 : Nat} {L B : List Int} {x : AV} {rd : List Int} {s0 s1 : St} {r r' : Res} (h : LvH s e k4 k5 L B x rd s0 s1) (h6 : s0 k6 = some r) (n46 : k4 ≠ k6) (n56 : k5 ≠ k6) (hk : s k6 = none) :
    LvH s e k4 k5 L B x rd (upd s0 k6 r') (upd s1 k6 r') :=
  ⟨h.own.other h6, by rw [upd_ne _ _ n46]; exact h.h4, by rw [upd_ne _ _ n56]; exact h.h5, h.le.updN hk⟩
theorem LvH.era6 {s : St} {e k4 k5 k6 : Nat} {L B : List Int} {x : AV} {rd : List Int} {s0 s1 : St} {r : Res} (h : LvH s e k4 k5 L B x rd s0 s1) (h6 : s0 k6 = some r) (n46 : k4 ≠ k6) (n56 : k5 ≠ k6) (hk : s k6 = none) :
    LvH s e k4 k5 L B x rd (era s0 k6) (era s1 k6) :=
  ⟨h.own.era h6, by rw [era_ne _ n46]; exact h.h4, by rw [era_ne _ n56]; exact h.h5, h.le.eraN hk⟩
theorem LvH.push {s : St} {e k4 k5 : Nat} {L B : List Int} {x x' : AV} {rd : List Int} {i : Int} {s0 s1 s2 : St} (h : LvH s e k4 k5 L B x rd s0 s1) (ho : OwnSt s0 x' e 1 (rd.map eI ++ [eI i]) s2) : LvH s e k4 k5 L B x' (rd ++ [i]) s0 s2 :=
  ⟨by rw [List.map_append]; exact ho, h.h4, h.h5, h.le⟩
structure LvN (s : St) (k4 k5 k6 : Nat) : Prop where
  n4 : s k4 = none
  n5 : s k5 = none
  n6 : s k6 = none
  d45 : k4 ≠ k5
  d46 : k4 ≠ k6
  d56 : k5 ≠ k6
theorem LvN.init {s : St} {k4 k5 k6 : Nat} {r4 r5 : Res} (h4 : s k4 = none) (h5 : upd s k4 r4 k5 = none) (h6 : upd (upd s k4 r4) k5 r5 k6 = none) : LvN s k4 k5 k6 := by
  have n65 : k5 ≠ k6 := fun e => by subst e; rw [upd_same] at h6; cases h6
  have n45 : k4 ≠ k5 := fun e => by subst e; rw [upd_same] at h5; cases h5
  rw [upd_ne _ _ n65.symm] at h6
  have n46 : k4 ≠ k6 := fun e => by subst e; rw [upd_same] at h6; cases h6
  rw [upd_ne _ _ n46.symm] at h6
  rw [upd_ne _ _ n45.symm] at h5
  exact ⟨h4, h5, h6, n45, n46, n65⟩
theorem mk0 (n : Net) : List.replicate (n.nodes.length : Int).toNat ([Value.int .i64 0].map AV.v) = (c0 n).map eI := by
  simp [c0, eI]
end Go.Vc
namespace Go.Vc
theorem OwnSt.c1 {s0 s1 : St} {x : AV} {e sz : Nat} {xs : List (List AV)} (h : OwnSt s0 x e sz xs s1) : isC1 x = true := by
  rcases h with ⟨_, _, rfl | rfl⟩ | ⟨k, rfl, _, _⟩ <;> rfl
theorem uStep_bd (i : Int) (us : List (List Int)) (a : Int) (m : Nat) : ((uStep i us a).getD m []).length ≤ (us.getD m []).length + 1 := by
  unfold uStep
  simp only [List.getD_eq_getElem?_getD, List.getElem?_set]
  by_cases h : a.toNat = m
  · subst h
    by_cases h2 : a.toNat < us.length
    · simp [h2]
    · simp [h2]
  · simp [h]
theorem uFold_bd (i : Int) (m : Nat) : ∀ (l : List Int) (us : List (List Int)), ((l.foldl (uStep i) us).getD m []).length ≤ (us.getD m []).length + l.length
  | [], us => by simp
  | a :: l, us => by
    have h1 := uFold_bd i m l (uStep i us a)
    have h2 := uStep_bd i us a m
    rw [List.foldl_cons, List.length_cons]
    omega
theorem usersG_bd (n : Net) (m : Nat) : ∀ i, ((usersG n i).getD m []).length ≤ 3 * i
  | 0 => by
    simp only [usersG, List.getD_eq_getElem?_getD, List.getElem?_replicate]
    split <;> simp
  | i + 1 => by
    have h1 := uFold_bd i m (atsN (ndI n i)) (usersG n i)
    have h2 := usersG_bd n m i
    have h3 := atsN_len (ndI n i)
    rw [usersG]; omega
theorem usersJ_bd (n : Net) (i j m : Nat) : ((usersJ n i j).getD m []).length ≤ 3 * i + 3 := by
  have h1 := uFold_bd i m ((atsN (ndI n i)).take j) (usersG n i)
  have h2 := usersG_bd n m i
  have h3 := atsN_len (ndI n i)
  have h4 : ((atsN (ndI n i)).take j).length ≤ 3 := by rw [List.length_take]; omega
  unfold usersJ; omega
theorem getD_mapN (U : List (List Int)) (m : Nat) : (U.map (·.map eI)).getD m [] = (U.getD m []).map eI := by
  simp only [List.getD_eq_getElem?_getD, List.getElem?_map]
  cases U[m]? <;> rfl
theorem set_mapN (U : List (List Int)) (m : Nat) (i : Int) : (U.map (·.map eI)).set m ((U.map (·.map eI)).getD m [] ++ [eI i]) = (U.set m (U.getD m [] ++ [i])).map (·.map eI) := by
  rw [getD_mapN, List.map_set]
  congr 1
  simp
end Go.Vc
namespace Go.Vc
theorem readyG_len (n : Net) : ∀ i, (readyG n i).length ≤ i
  | 0 => by simp [readyG]
  | i + 1 => by
    have := readyG_len n i
    rw [readyG]; split
    · rw [List.length_append]; simp; omega
    · omega
end Go.Vc
namespace Go.Vc
theorem usersJ_set {n : Net} {i j : Nat} (h : (n.nodes.getD i default).k ≠ 7) (hj : j < (usesN (n.nodes.getD i default)).length) :
    ((usersJ n i j).map (·.map eI)).set ((usesN (n.nodes.getD i default)).getD j default).toNat (((usersJ n i j).map (·.map eI)).getD ((usesN (n.nodes.getD i default)).getD j default).toNat [] ++ [eI i]) = (usersJ n i (j + 1)).map (·.map eI) := by
  have hA : atsN (n.nodes.getD i default) = usesN (n.nodes.getD i default) := if_neg h
  rw [set_mapN, usersJ_succ (by rw [hA]; exact hj), hA]
  rfl
end Go.Vc
namespace Go.Vc
theorem bumpSetI (c : List Int) (i : Nat) : ((c.map eI).set (i : Int).toNat ((eI (c.getD i default)).set 0 (.int (c.getD i default + 1)))) = (bump c i).map eI := bumpSet c i
end Go.Vc
namespace Go.Vc
theorem readyG_yes {n : Net} {i : Nat} (h : (leftG n (i + 1)).getD i default = 0) : readyG n (i + 1) = readyG n i ++ [(i : Int)] := if_pos h
theorem readyG_no {n : Net} {i : Nat} (h : ¬ (leftG n (i + 1)).getD i default = 0) : readyG n (i + 1) = readyG n i := if_neg h
end Go.Vc
namespace Go.Vc
structure InvQ (n : Net) (b : Nat) (st : Lv) : Prop where
  lv : st.level.length = n.nodes.length
  lf : st.left.length = n.nodes.length
  cnt : st.ready.length + posL st.left ≤ n.nodes.length
  rd : ∀ i ∈ st.ready, 0 ≤ i ∧ i < n.nodes.length
  lvb : ∀ m, 0 ≤ st.level.getD m 0 ∧ st.level.getD m 0 ≤ b
  lfb : ∀ m, -(b : Int) ≤ st.left.getD m 0 ∧ st.left.getD m 0 ≤ 3 * n.nodes.length
theorem getD_set_int (l : List Int) (i m : Nat) (x : Int) : (l.set i x).getD m 0 = if i = m ∧ i < l.length then x else l.getD m 0 := by
  simp only [List.getD_eq_getElem?_getD, List.getElem?_set]
  by_cases h : i = m
  · subst h
    by_cases h2 : i < l.length
    · simp [h2]
    · simp [h2]
  · simp [h]
theorem InvQ.relax {n : Net} {b : Nat} {st : Lv} (h : InvQ n b st) (a : Int) {u : Int} (hu : 0 ≤ u ∧ u < n.nodes.length) :
    InvQ n (b + 1) (relax a st u) ∧ (relax a st u).ready.length + posL (relax a st u).left = st.ready.length + posL st.left ∧ st.ready.length ≤ (relax a st u).ready.length := by
  have hul : u.toNat < st.left.length := by rw [h.lf]; omega
  have hp := posL_set hul (st.left.getD u.toNat 0 - 1)
  have hself : (st.left.set u.toNat (st.left.getD u.toNat 0 - 1)).getD u.toNat 0 = st.left.getD u.toNat 0 - 1 := by rw [getD_set_int]; simp [hul]
  have hsum : (Vc.relax a st u).ready.length + posL (Vc.relax a st u).left = st.ready.length + posL st.left := by
    simp only [Vc.relax, hself]
    by_cases h0 : st.left.getD u.toNat 0 - 1 = 0
    · have h1 : 0 < st.left.getD u.toNat 0 := by omega
      have h2 : ¬ 0 < st.left.getD u.toNat 0 - 1 := by omega
      simp only [h1, h2, if_true, if_false] at hp
      simp only [h0, if_true, List.length_append, List.length_cons, List.length_nil]
      rw [h0] at hp
      omega
    · simp only [h0, if_false]
      by_cases h1 : 0 < st.left.getD u.toNat 0
      · have h2 : 0 < st.left.getD u.toNat 0 - 1 := by omega
        simp only [h1, h2, if_true] at hp; omega
      · have h2 : ¬ 0 < st.left.getD u.toNat 0 - 1 := by omega
        simp only [h1, h2, if_false] at hp; omega
  have hle : st.ready.length ≤ (Vc.relax a st u).ready.length := by
    simp only [Vc.relax]; split
    · simp
    · exact Nat.le_refl _
  refine ⟨⟨by simp [Vc.relax, h.lv], by simp [Vc.relax, h.lf], by rw [hsum]; exact h.cnt, ?_, ?_, ?_⟩, hsum, hle⟩
  · intro i hi
    simp only [Vc.relax] at hi
    split at hi
    · rcases List.mem_append.1 hi with hi | hi
      · exact h.rd i hi
      · simp at hi; subst hi; exact hu
    · exact h.rd i hi
  · intro m
    simp only [Vc.relax, getD_set_int]
    have h1 := h.lvb m
    have h2 := h.lvb u.toNat
    have h3 := h.lvb a.toNat
    split <;> omega
  · intro m
    simp only [Vc.relax, getD_set_int]
    have h1 := h.lfb m
    have h2 := h.lfb u.toNat
    split <;> omega
end Go.Vc
namespace Go.Vc
def usN (n : Net) (a : Int) : List Int := (usersG n n.nodes.length).getD a.toNat []
def relJ (n : Net) (a : Int) (st : Lv) (j : Nat) : Lv := ((usN n a).take j).foldl (relax a) st
theorem relJ_succ {n : Net} {a : Int} {st : Lv} {j : Nat} (h : j < (usN n a).length) : relJ n a st (j + 1) = relax a (relJ n a st j) ((usN n a).getD j default) := by
  unfold relJ; rw [take_succ_get h, List.foldl_append]; rfl
theorem relJ_end {n : Net} {a : Int} {st : Lv} {j : Nat} (h : ¬ j < (usN n a).length) : relJ n a st j = relaxAll n a st := by
  unfold relJ relaxAll; rw [List.take_of_length_le (by omega)]; rfl
theorem uStep_mem {i : Int} {us : List (List Int)} {a : Int} {m : Nat} {u : Int} (h : u ∈ (uStep i us a).getD m []) : u ∈ us.getD m [] ∨ u = i := by
  unfold uStep at h
  simp only [List.getD_eq_getElem?_getD, List.getElem?_set] at h
  by_cases h1 : a.toNat = m
  · subst h1
    by_cases h2 : a.toNat < us.length
    · simp [h2] at h
      rcases h with h | h
      · left; simpa [List.getD_eq_getElem?_getD, h2] using h
      · exact .inr h
    · simp [h2] at h
  · simp [h1] at h
    left; simpa [List.getD_eq_getElem?_getD] using h
theorem uFold_mem {i : Int} {m : Nat} {u : Int} : ∀ (l : List Int) (us : List (List Int)), u ∈ (l.foldl (uStep i) us).getD m [] → u ∈ us.getD m [] ∨ u = i
  | [], us, h => .inl h
  | a :: l, us, h => by
    rw [List.foldl_cons] at h
    rcases uFold_mem l _ h with h | h
    · exact uStep_mem h
    · exact .inr h
theorem usersG_mem (n : Net) {m : Nat} {u : Int} : ∀ i, i ≤ n.nodes.length → u ∈ (usersG n i).getD m [] → 0 ≤ u ∧ u < n.nodes.length
  | 0, _, h => by
    simp only [usersG, List.getD_eq_getElem?_getD, List.getElem?_replicate] at h
    split at h <;> simp at h
  | i + 1, hi, h => by
    rw [usersG] at h
    rcases uFold_mem _ _ h with h | h
    · exact usersG_mem n i (by omega) h
    · omega
theorem usN_mem {n : Net} {a u : Int} (h : u ∈ usN n a) : 0 ≤ u ∧ u < n.nodes.length := usersG_mem n _ (Nat.le_refl _) h
theorem usN_len (n : Net) (a : Int) : (usN n a).length ≤ 3 * n.nodes.length := usersG_bd n _ _
theorem relJ_inv {n : Net} {b : Nat} {st : Lv} (h : InvQ n b st) (a : Int) : ∀ j, j ≤ (usN n a).length →
    InvQ n (b + j) (relJ n a st j) ∧ (relJ n a st j).ready.length + posL (relJ n a st j).left = st.ready.length + posL st.left ∧ st.ready.length ≤ (relJ n a st j).ready.length
  | 0, _ => ⟨h, rfl, Nat.le_refl _⟩
  | j + 1, hj => by
    obtain ⟨h1, h2, h3⟩ := relJ_inv h a j (by omega)
    obtain ⟨g1, g2, g3⟩ := h1.relax a (usN_mem (getD_mem (show j < (usN n a).length by omega)))
    rw [relJ_succ (by omega)]
    exact ⟨g1, g2.trans h2, Nat.le_trans h3 g3⟩
theorem relaxAll_inv {n : Net} {b : Nat} {st : Lv} (h : InvQ n b st) (a : Int) :
    InvQ n (b + 3 * n.nodes.length) (relaxAll n a st) ∧ (relaxAll n a st).ready.length + posL (relaxAll n a st).left = st.ready.length + posL st.left ∧ st.ready.length ≤ (relaxAll n a st).ready.length := by
  obtain ⟨h1, h2, h3⟩ := relJ_inv h a (usN n a).length (Nat.le_refl _)
  rw [relJ_end (by omega)] at h1 h2 h3
  have := usN_len n a
  exact ⟨⟨h1.lv, h1.lf, h1.cnt, h1.rd, fun m => by have := h1.lvb m; omega, fun m => by have := h1.lfb m; omega⟩, h2, h3⟩
theorem qrun_step {n : Net} {b d : Nat} {st : Lv} (h : InvQ n b st) (hd : d < st.ready.length) :
    qrun n (muQ d st) d st = qrun n (muQ (d + 1) (relaxAll n (st.ready.getD d 0) st)) (d + 1) (relaxAll n (st.ready.getD d 0) st) ∧ muQ (d + 1) (relaxAll n (st.ready.getD d 0) st) < muQ d st := by
  obtain ⟨_, h2, h3⟩ := relaxAll_inv h (st.ready.getD d 0)
  have e : muQ d st = muQ (d + 1) (relaxAll n (st.ready.getD d 0) st) + 1 := by unfold muQ; omega
  refine ⟨?_, by omega⟩
  conv => lhs; rw [e, qrun, if_pos hd]
theorem qrun_end {n : Net} {d : Nat} {st : Lv} (hd : ¬ d < st.ready.length) : qrun n (muQ d st) d st = (d, st) := by
  cases muQ d st with
  | zero => rfl
  | succ f => rw [qrun, if_neg hd]
theorem readyG_mem (n : Net) {u : Int} : ∀ i, i ≤ n.nodes.length → u ∈ readyG n i → 0 ≤ u ∧ u < n.nodes.length
  | 0, _, h => by simp [readyG] at h
  | i + 1, hi, h => by
    rw [readyG] at h
    split at h
    · rcases List.mem_append.1 h with h | h
      · exact readyG_mem n i (by omega) h
      · simp at h; omega
    · exact readyG_mem n i (by omega) h
end Go.Vc
namespace Go.Vc
theorem bumpRep (i : Nat) : ∀ (k : Nat) (c : List Int), i < c.length → bumpAll c (List.replicate k (i : Int)) = c.set i (c.getD i 0 + k)
  | 0, c, h => by
    have e : c.getD i 0 = c[i] := by simp [List.getD_eq_getElem?_getD, h]
    simp only [List.replicate_zero, bumpAll, List.foldl_nil, e]
    simp
  | k + 1, c, h => by
    rw [List.replicate_succ, bumpAll, List.foldl_cons]
    have ih := bumpRep i k (bump c i) (by rw [bump_len]; exact h)
    rw [bumpAll] at ih
    rw [ih]
    simp only [bump, Int.toNat_natCast, getD_set_int, h, and_self, if_true, List.set_set]
    congr 1
    push_cast
    omega
theorem leftG_free (n : Net) : ∀ (i m : Nat), i ≤ m → (leftG n i).getD m 0 = 0
  | 0, m, _ => c0_get n m
  | i + 1, m, h => by
    rw [leftG]
    by_cases hi : i < (leftG n i).length
    · rw [bumpRep i _ _ hi, getD_set_int]
      have : ¬ (i = m ∧ i < (leftG n i).length) := by omega
      simp only [this, if_false]
      exact leftG_free n i m (by omega)
    · have h1 := bumpAll_le (List.replicate (atsN (ndI n i)).length (i : Int)) (leftG n i) m
      have h2 := bumpAll_len (List.replicate (atsN (ndI n i)).length (i : Int)) (leftG n i)
      rw [List.getD_eq_getElem?_getD, List.getElem?_eq_none (by omega)]
      rfl
theorem posL_zero (k : Nat) : posL (List.replicate k 0) = 0 := by
  unfold posL; rw [List.countP_eq_zero]; intro a ha; rw [List.eq_of_mem_replicate ha]; decide
theorem lv0_cnt (n : Net) : ∀ i, i ≤ n.nodes.length → (readyG n i).length + posL (leftG n i) ≤ i
  | 0, _ => by simp [readyG, leftG, c0, posL_zero]
  | i + 1, hi => by
    have ih := lv0_cnt n i (by omega)
    have hl : i < (leftG n i).length := by rw [leftG_len]; omega
    have e : leftG n (i + 1) = (leftG n i).set i ((leftG n i).getD i 0 + (atsN (ndI n i)).length) := by rw [leftG, bumpRep i _ _ hl]
    have h0 := leftG_free n i i (Nat.le_refl _)
    rw [h0, Int.zero_add] at e
    have hp := posL_set hl ((atsN (ndI n i)).length : Int)
    rw [h0] at hp
    simp only [show ¬ ((0 : Int) < 0) by omega, if_false, Nat.add_zero] at hp
    have hg : (leftG n (i + 1)).getD i 0 = (atsN (ndI n i)).length := by rw [e, getD_set_int]; simp [hl]
    rw [readyG, hg]
    rw [← e] at hp
    by_cases hk : ((atsN (ndI n i)).length : Int) = 0
    · have hk2 : ¬ (0 : Int) < ((atsN (ndI n i)).length : Int) := by omega
      simp only [hk2, if_false] at hp
      simp only [hk, if_true, List.length_append, List.length_cons, List.length_nil]
      omega
    · have hk2 : (0 : Int) < ((atsN (ndI n i)).length : Int) := by omega
      simp only [hk2, if_true] at hp
      simp only [hk, if_false]
      omega
theorem lv0_inv (n : Net) : InvQ n 0 (lv0 n) :=
  ⟨by simp [lv0, c0], leftG_len n _, lv0_cnt n _ (Nat.le_refl _), fun i hi => readyG_mem n _ (Nat.le_refl _) hi, fun m => by simp only [lv0]; rw [c0_get]; omega, fun m => by
    have := leftG_bd n m n.nodes.length
    simp only [lv0]; omega⟩
end Go.Vc
namespace Go.Vc
theorem OwnSt.len {s0 s1 : St} {x : AV} {e sz : Nat} {xs : List (List AV)} (h : OwnSt s0 x e sz xs s1) : lenA x = some xs.length := by
  rcases h with ⟨rfl, _, rfl | rfl⟩ | ⟨k, rfl, _, _⟩ <;> rfl
theorem OwnSt.pos {s0 s1 : St} {x : AV} {e sz : Nat} {xs : List (List AV)} (h : OwnSt s0 x e sz xs s1) (hp : 0 < xs.length) : ∃ k, x = .hdr k sz xs.length ∧ s1 k = some (.arr e sz xs) := by
  rcases h with ⟨rfl, _, _⟩ | ⟨k, rfl, _, rfl⟩
  · simp at hp
  · exact ⟨k, rfl, upd_same _ _ _⟩
theorem rowSet (c : List Int) (m : Nat) (z v : Int) : ((c.map eI).set m ((eI z).set 0 (.int v))) = (c.set m v).map eI := by rw [List.map_set]; rfl
theorem relax_yes {a u : Int} {st : Lv} (h : (st.left.set u.toNat (st.left.getD u.toNat 0 - 1)).getD u.toNat 0 = 0) : (relax a st u).ready = st.ready ++ [u] := if_pos h
theorem relax_no {a u : Int} {st : Lv} (h : ¬ (st.left.set u.toNat (st.left.getD u.toNat 0 - 1)).getD u.toNat 0 = 0) : (relax a st u).ready = st.ready := if_neg h
end Go.Vc
namespace Go.Vc
theorem nthU {n : Net} {a : Int} (h : a.toNat < n.nodes.length) : nth ((usersG n n.nodes.length).map ((fun xs => [AV.sl 1 xs]) ∘ fun x => x.map eI)) a.toNat = some [ints (usN n a)] :=
  nthM (by rw [usersG_len]; exact h)
end Go.Vc
namespace Go.Vc
theorem Cv.frzAll {s s' : St} (hl : Le s' s) {k e sz n : Nat} {xs : List (List AV)} (hk : s k = some (.arr e sz xs)) (hk' : s' k = none) (hn : n = xs.length) : Cv s s' (.hdr k sz n) (.sl sz xs) := by
  have := Cv.frz hl hk hk' (Nat.le_of_eq hn)
  rwa [hn, List.take_length, ← hn] at this
end Go.Vc
namespace Go.Vc
def errN (n : Net) : Int :=
  if 262144 < n.nodes.length ∨ 64 < n.ins.length + n.outs.length then 4
  else if formlessN n = true then 2
  else if (n.ins ++ n.outs).any (fun p => !nameN p.name) = true then 7
  else if dupN (n.ins ++ n.outs) = true then 8
  else if homelessN n = true then 10
  else if ¬ (levelsR n).1 = n.nodes.length then 9 else 0
def lvOf (n : Net) : List Int := if errN n = 0 then (levelsR n).2.level else []
structure NetB (n : Net) : Prop where
  nodes : n.nodes.length < 1099511627776
  ins : n.ins.length < 1099511627776
  outs : n.outs.length < 1099511627776
  bits : ∀ p ∈ n.ins ++ n.outs, p.bits.length < 1073741824
  names : ∀ p ∈ n.ins ++ n.outs, p.name.size < 1099511627776
theorem flat_len {l : List (List Int)} {b : Nat} (h : ∀ x ∈ l, x.length ≤ b) : l.flatten.length ≤ l.length * b := by
  induction l with
  | nil => simp
  | cons x l ih =>
    have h1 := h x (by simp)
    have h2 := ih fun y hy => h y (by simp [hy])
    simp only [List.flatten_cons, List.length_append, List.length_cons, Nat.succ_mul]
    omega
theorem NetB.inB {n : Net} (h : NetB n) (hp : n.ins.length ≤ 64) : (inBits n).length < 1099511627776 := by
  have := flat_len (l := n.ins.map Pt.bits) (b := 1073741824) (fun x hx => by
    obtain ⟨p, hp, rfl⟩ := List.mem_map.1 hx
    exact Nat.le_of_lt (h.bits p (by simp [hp])))
  rw [List.length_map] at this
  unfold inBits
  omega
theorem formless_uses {n : Net} (h : ¬ formlessN n = true) : ∀ i, i < n.nodes.length → ∀ a ∈ usesN (ndI n i), 0 ≤ a ∧ a < n.nodes.length := by
  intro i hi a ha
  have h1 : (usesN (ndI n i)).any (beyond n.nodes.length) = false := by
    cases hb : (usesN (ndI n i)).any (beyond n.nodes.length) with
    | false => rfl
    | true =>
      exfalso
      apply h
      unfold formlessN
      rw [any_some hi (by rw [badNode_eq, hb]; simp)]
      rfl
  have h2 := List.any_eq_false.1 h1 a ha
  simp [beyond] at h2
  omega
theorem formless_bits {n : Net} (h : ¬ formlessN n = true) : ∀ p ∈ n.ins ++ n.outs, ∀ a ∈ p.bits, 0 ≤ a ∧ a < n.nodes.length := by
  intro p hp a ha
  have h1 : (n.ins ++ n.outs).any (badPort n.nodes.length) = false := by
    cases hb : (n.ins ++ n.outs).any (badPort n.nodes.length) with
    | false => rfl
    | true => exact absurd (by unfold formlessN; rw [hb]; simp) h
  have h2 := List.any_eq_false.1 h1 p hp
  unfold badPort at h2
  simp only [Bool.or_eq_true, not_or] at h2
  have h3 := h2.2
  rw [Bool.not_eq_true] at h3
  have h4 := List.any_eq_false.1 h3 a ha
  simp [beyond] at h4
  omega
theorem formless_in {n : Net} (h : ¬ formlessN n = true) : ∀ i ∈ inBits n, 0 ≤ i ∧ i < n.nodes.length := by
  intro i hi
  unfold inBits at hi
  obtain ⟨l, hl, hil⟩ := List.mem_flatten.1 hi
  obtain ⟨p, hp, rfl⟩ := List.mem_map.1 hl
  exact formless_bits h p (by simp [hp]) i hil
end Go.Vc
namespace Go.Vc
theorem qrun_inv {n : Net} : ∀ (f d b : Nat) (st : Lv), InvQ n b st → b ≤ d * (3 * n.nodes.length) → d ≤ st.ready.length →
    ∃ b', InvQ n b' (qrun n f d st).2 ∧ b' ≤ (qrun n f d st).1 * (3 * n.nodes.length) ∧ (qrun n f d st).1 ≤ (qrun n f d st).2.ready.length
  | 0, d, b, st, h, hb, hd => ⟨b, h, hb, hd⟩
  | f + 1, d, b, st, h, hb, hd => by
    rw [qrun]
    by_cases hl : d < st.ready.length
    · rw [if_pos hl]
      obtain ⟨h1, h2, h3⟩ := relaxAll_inv h (st.ready.getD d 0)
      exact qrun_inv f (d + 1) _ _ h1 (by rw [Nat.add_mul]; omega) (by omega)
    · rw [if_neg hl]; exact ⟨b, h, hb, hd⟩
theorem levelsR_inv (n : Net) (hn : n.nodes.length < 1048576) : ∃ b, InvQ n b (levelsR n).2 ∧ b ≤ 3298534883328 := by
  obtain ⟨b, h1, h2, h3⟩ := qrun_inv (muQ 0 (lv0 n)) 0 0 (lv0 n) (lv0_inv n) (by simp) (Nat.zero_le _)
  have h4 := h1.cnt
  refine ⟨b, h1, Nat.le_trans h2 (Nat.le_trans (Nat.mul_le_mul (show (qrun n (muQ 0 (lv0 n)) 0 (lv0 n)).1 ≤ 1048576 by omega) (show 3 * n.nodes.length ≤ 3145728 by omega)) (by decide))⟩
def bkG (l : List Int) : Nat → List (List Int)
  | 0 => List.replicate (maxL l l.length + 1).toNat []
  | i + 1 => uStep i (bkG l i) (l.getD i 0)
theorem bkG_len (l : List Int) : ∀ i, (bkG l i).length = (maxL l l.length + 1).toNat
  | 0 => by simp [bkG]
  | i + 1 => by rw [bkG, uStep_len, bkG_len l i]
theorem bkG_bd (l : List Int) (m : Nat) : ∀ i, ((bkG l i).getD m []).length ≤ i
  | 0 => by
    simp only [bkG, List.getD_eq_getElem?_getD, List.getElem?_replicate]
    split <;> simp
  | i + 1 => by
    have h1 := uStep_bd i (bkG l i) (l.getD i 0) m
    have h2 := bkG_bd l m i
    rw [bkG]; omega
theorem flat_set {us : List (List Int)} {m : Nat} {x : Int} (h : m < us.length) : (us.set m (us.getD m [] ++ [x])).flatten.length = us.flatten.length + 1 := by
  induction us generalizing m with
  | nil => simp at h
  | cons u us ih =>
    cases m with
    | zero => simp; omega
    | succ m =>
      have := ih (m := m) (by simpa using h)
      simp only [List.set_cons_succ, List.flatten_cons, List.length_append, List.getD_cons_succ, this]
      omega
def orderN (n : Net) : List Int := if lvOf n = [] then [] else (bkG (lvOf n) (lvOf n).length).flatten
end Go.Vc

set_option linter.unusedVariables false
set_option linter.unusedSimpArgs false
set_option maxRecDepth 100000
namespace Go.Proofs.Ytpcpdepfnoijoaa
open Go.Vc
abbrev bld (F : List Nat) (nd : List Nd) (ins outs : List Pt) : Res := .obj F [.r 89 4 (nd.map ndR), .r 91 2 (ins.map ptR), .r 91 2 (outs.map ptR)]
theorem cloneIO {l : List Int} {s : St} {K : AV → St → Prop} (hl : l.length < 2^40) (hk : ∀ x s1, OwnSt s x 3 1 (l.map eI) s1 → K x s1) : CallsA Try.prog 54 [.sl 1 (l.map eI)] s K := by
  refine callsA_of Try.func54 rfl rfl (Nat.le_of_ble_eq_true rfl) ?_
  refine vc_seq ?_
  refine vc_regionW (qm 1) [0] rfl rfl ?_
  refine vq rfl rfl (q_assign rfl) ?_
  refine vendW ?_
  refine vc_seq ?_
  refine vc_seq ?_
  refine vc_regionW (qm 1) [0, 1] rfl rfl ?_
  refine vq rfl rfl (q_move rfl) ?_
  refine ve rfl rfl (e_eqnil sl40 rfl (fun p hp => ?_))
  refine vendW ?_
  refine vc_cond rfl (fun h => ?_) (fun h => ?_)
  ·
    refine vc_seq ?_
    refine vc_regionW (qm 1) [0] rfl rfl ?_
    refine vq rfl rfl (q_assign rfl) ?_
    refine vendW ?_
    refine vc_ret ?_
    have e := hp h
    have e2 : l.map eI = [] := e
    rw [e2] at hk
    exact ret1 rfl rfl (Le.refl _) (Cv.le (Le.refl _) _) (hk _ _ (OwnSt.nil _ _ _))
  refine vc_skip ?_
  refine vc_seq ?_
  refine vc_regionW (qm 11) [0, 1, 2, 3] rfl rfl ?_
  refine vq rfl rfl (q_buildS sl40 zo3 (by decide) rfl rfl rfl rfl (by decide)) ?_
  refine vq rfl rfl (q_move rfl) ?_
  refine ve rfl rfl (e_append sl40 zo3 rfl rfl (OwnSt.slx _ _ _) (SrcOK.sl 1 _) (rowsC1_ints _) (by simp [maxLen_eq]; omega) (fun x s1 ho => ?_))
  refine vq rfl rfl (q_assign rfl) ?_
  refine vendW ?_
  refine vc_ret ?_
  exact ret1 rfl rfl (Le.refl _) (Cv.le (Le.refl _) _) (hk _ _ ho)
theorem newB {s : St} {K : AV → St → Prop} (hk : ∀ p F, s p = none → K (ptv p 0) (upd s p (bld F [] [] []))) : CallsA Try.prog 16 [] s K := by
  refine callsA_of Try.func16 rfl rfl (Nat.le_of_ble_eq_true rfl) ?_
  refine vc_seq ?_
  refine vc_regionW (qm 1) [0] rfl rfl ?_
  refine vq rfl rfl (q_assign rfl) ?_
  refine vendW ?_
  refine vc_seq ?_
  refine vc_regionW (qm 5) [0, 1, 2] rfl rfl ?_
  refine vq rfl rfl (q_build pl104 zr104 rfl rfl) ?_
  refine ve rfl rfl (e_boxN [(89, 4), (91, 2), (91, 2)] rfl (fun p hp => ?_))
  refine vq rfl rfl (q_assign rfl) ?_
  refine vendW ?_
  refine vc_ret ?_
  exact ret1 rfl rfl (Le.refl _) (Cv.le (Le.refl _) _) (hk p [p] hp)
theorem lay {p : Nat} {F : List Nat} {nd : List Nd} {ins outs : List Pt} {s : St} {K : AV → St → Prop} (hp : s p = some (bld F nd ins outs)) {x : Nd} (hn : nd.length < 2^40) (hk : ∀ F2, K (.int nd.length) (upd s p (bld F2 (nd ++ [x]) ins outs))) : CallsA Try.prog 53 [ptv p 0, .agg (ndR x)] s K := by
  refine callsA_of Try.func53 rfl rfl (Nat.le_of_ble_eq_true rfl) ?_
  refine vc_seq ?_
  refine vc_regionW (qm 3) [0, 1] rfl rfl ?_
  refine vq rfl rfl (q_box rfl rfl) ?_
  refine vq rfl rfl (q_assign rfl) ?_
  refine vendW ?_
  refine vc_seq ?_
  refine vc_openAt (l := []) hp (fun x0 F1 s1 ho => ?_)
  refine vc_regionDW mx (qm 214524926879081553593184399971293538039669853129478294043576983099548224481176751628829988770670454843040509730983776813660062124991145119142938384097346431) [0, 1, 2, 3, 4, 5, 6, 7, 8, 9, 10] (by kernel_rfl) ?_
  refine vq rfl rfl (q_move rfl) ?_
  refine vq rfl rfl (q_move rfl) ?_
  refine vq rfl rfl (q_nil rfl) ?_
  refine vq rfl rfl (q_fieldP fo104_0 rfl) ?_
  refine vr rfl rfl rfl (e_loadO sc22 rfl (ho.get (upd_same _ _ _)) rfl ⟨rfl, rfl⟩) ?_
  refine vq rfl rfl (q_loadA ag89 rfl rfl) ?_
  refine vq rfl rfl (q_buildS sl22 zo89 (by decide) rfl rfl rfl rfl (by decide)) ?_
  refine ve rfl rfl (e_append sl22 zo89 rfl rfl ho (SrcOK.slx 4 _) (rowsC1_one rfl) (by simp [maxLen_eq]; omega) (fun x1 s2 ho1 => ?_))
  refine vq rfl rfl (q_nil rfl) ?_
  refine vq rfl rfl (q_fieldP fo104_0 rfl) ?_
  refine vn rfl rfl (e_storeO sz22 rfl rfl ho1.c1 (ho1.get (upd_same _ _ _)) rfl ?_)
  refine vendW ?_
  refine vc_seq ?_
  refine vc_regionW (qm 107262463439540776796592199985646769019834926564739147021788491549774112240588375814414994385335227421520254865491888406830031062495572559571469192048672895) [0, 1, 2, 3, 4, 5, 6] rfl rfl ?_
  refine vq rfl rfl (q_move rfl) ?_
  refine vq rfl rfl (q_nil rfl) ?_
  refine vq rfl rfl (q_fieldP fo104_0 rfl) ?_
  refine vr rfl rfl rfl (e_loadO sc22 rfl (upd_same _ _ _) rfl ⟨rfl, rfl⟩) ?_
  refine vq rfl rfl (q_len sl22 rfl ho1.len) ?_
  refine vq rfl rfl (q_sub rfl rfl (show _ = (nd.length : Int) by rw [w64 (by simp; omega)]; simp)) ?_
  refine vq rfl rfl (q_assign rfl) ?_
  refine vendW ?_
  refine vc_ret ?_
  have ho2 := ho1.put (r' := .obj F1 (([] ++ OV.a x0 :: [OV.r 91 2 (ins.map ptR), OV.r 91 2 (outs.map ptR)]).set 0 (OV.a x1)))
  refine ret_shutAt (l := []) (x := x1) (q := [.r 91 2 (ins.map ptR), .r 91 2 (outs.map ptR)]) (xs := (nd ++ [x]).map ndR) (by rw [List.map_append]; exact ho2) (fun F2 => ?_)
  exact ret1 rfl rfl (Le.refl _) (Cv.le (Le.refl _) _) (hk F2)
theorem flagN {v : Int} {s : St} {K : AV → St → Prop} (hk : K (.int (if v = 0 then 0 else 1)) s) : CallsA Try.prog 88 [.int v] s K := by
  refine callsA_of Try.func88 rfl rfl (Nat.le_of_ble_eq_true rfl) ?_
  refine vc_seq ?_
  refine vc_regionW (qm 1) [0] rfl rfl ?_
  refine vq rfl rfl (q_assign rfl) ?_
  refine vendW ?_
  refine vc_seq ?_
  refine vc_seq ?_
  refine vc_regionW (qm 3) [0, 1] rfl rfl ?_
  refine vq rfl rfl (q_move rfl) ?_
  refine vq rfl rfl (q_eq rfl rfl) ?_
  refine vendW ?_
  refine vc_condD rfl (fun h4 => ?_) (fun h4 => ?_)
  ·
    refine vc_seq ?_
    refine vc_regionW (qm 1) [0] rfl rfl ?_
    refine vq rfl rfl (q_assign rfl) ?_
    refine vendW ?_
    refine vc_ret ?_
    rw [if_pos h4] at hk
    exact ret1 rfl rfl (Le.refl _) (Cv.le (Le.refl _) _) hk
  refine vc_skip ?_
  refine vc_seq ?_
  refine vc_regionW (qm 1) [0] rfl rfl ?_
  refine vq rfl rfl (q_assign rfl) ?_
  refine vendW ?_
  refine vc_ret ?_
  rw [if_neg h4] at hk
  exact ret1 rfl rfl (Le.refl _) (Cv.le (Le.refl _) _) hk
theorem ndOK_const (n : Nat) {a : Int} (h : a = 0 ∨ a = 1) : NdOK n ⟨0, a, 0, 0⟩ := by
  refine ⟨by simp, by simp [usesN], ?_⟩
  rcases h with rfl | rfl <;> rfl
theorem ndOK_in (n : Nat) : NdOK n ⟨1, 0, 0, 0⟩ := ⟨by simp, by simp [usesN], rfl⟩
theorem ndOK_not {nd : List Nd} {a : Int} (h : B1 nd a) : NdOK nd.length ⟨2, a, 0, 0⟩ := ⟨by simp, by intro b hb; simp [usesN] at hb; subst hb; exact h, rfl⟩
theorem ndOK_two {nd : List Nd} {k a b : Int} (hk : k = 3 ∨ k = 4 ∨ k = 5) (h : B1 nd a) (h2 : B1 nd b) : NdOK nd.length ⟨k, a, b, 0⟩ := by
  rcases hk with rfl | rfl | rfl <;> refine ⟨by simp, ?_, rfl⟩ <;> (intro c hc; simp [usesN] at hc; rcases hc with rfl | rfl; exact h; exact h2)
theorem ndOK_mux {nd : List Nd} {a b c : Int} (h : B1 nd a) (h2 : B1 nd b) (h3 : B1 nd c) : NdOK nd.length ⟨6, a, b, c⟩ := by
  refine ⟨by simp, ?_, rfl⟩
  intro d hd
  simp [usesN] at hd
  rcases hd with rfl | rfl | rfl
  · exact h
  · exact h2
  · exact h3
theorem bv_last (v : Nat → Bool) (nd : List Nd) : bv v (nd.length : Int) = v nd.length := by simp [bv]
theorem B1_new {nd : List Nd} {x : Nd} : B1 (nd ++ [x]) (nd.length : Int) := B1.new nd x
theorem bitB {p : Nat} {F : List Nat} {nd : List Nd} {ins outs : List Pt} {s : St} {K : AV → St → Prop} (hp : s p = some (bld F nd ins outs)) (hw : WfB nd) (hn : nd.length < 2^39) {b : Int} (hk : ∀ F2 n2 o, Gr nd n2 1 → B1 n2 o → (∀ v, Mod v n2 → bv v o = !decide (b = 0)) → K (.int o) (upd s p (bld F2 n2 ins outs))) : CallsA Try.prog 56 [ptv p 0, .int b] s K := by
  refine callsA_of Try.func56 rfl rfl (Nat.le_of_ble_eq_true rfl) ?_
  refine vc_seq ?_
  refine vc_regionW (qm 1) [0] rfl rfl ?_
  refine vq rfl rfl (q_assign rfl) ?_
  refine vendW ?_
  refine vc_seq ?_
  refine vc_regionW (qm 47) [0, 1, 2, 3, 4, 5] rfl rfl ?_
  refine vq rfl rfl (q_move rfl) ?_
  refine vq rfl rfl (q_move rfl) ?_
  refine vq rfl rfl (q_callF go88 rfl (fun s => flagN ⟨rfl, rfl⟩)) ?_
  refine vq rfl rfl (q_build pl89 zr89 rfl rfl) ?_
  refine ve rfl rfl (e_callF go53 rfl (lay (x := ⟨0, if b = 0 then 0 else 1, 0, 0⟩) hp (by omega) (fun F2 => ?_)))
  refine vq rfl rfl (q_assign rfl) ?_
  refine vendW ?_
  refine vc_ret ?_
  exact ret1 rfl rfl (Le.refl _) (Cv.le (Le.refl _) _) (hk _ _ _ (Gr.snoc hw (ndOK_const _ (by by_cases h : b = 0 <;> simp [h]))) B1_new (fun v hv => by rw [bv_last, hv.last.k0 rfl]; by_cases h : b = 0 <;> simp [h]))
theorem notB {p : Nat} {F : List Nat} {nd : List Nd} {ins outs : List Pt} {s : St} {K : AV → St → Prop} (hp : s p = some (bld F nd ins outs)) (hw : WfB nd) (hn : nd.length < 2^39) {x : Int} (hx : B1 nd x) (hk : ∀ F2 n2 o, Gr nd n2 1 → B1 n2 o → (∀ v, Mod v n2 → bv v o = !bv v x) → K (.int o) (upd s p (bld F2 n2 ins outs))) : CallsA Try.prog 89 [ptv p 0, .int x] s K := by
  refine callsA_of Try.func89 rfl rfl (Nat.le_of_ble_eq_true rfl) ?_
  refine vc_seq ?_
  refine vc_regionW (qm 1) [0] rfl rfl ?_
  refine vq rfl rfl (q_assign rfl) ?_
  refine vendW ?_
  refine vc_seq ?_
  refine vc_regionW (qm 23) [0, 1, 2, 3, 4] rfl rfl ?_
  refine vq rfl rfl (q_move rfl) ?_
  refine vq rfl rfl (q_move rfl) ?_
  refine vq rfl rfl (q_build pl89 zr89 rfl rfl) ?_
  refine ve rfl rfl (e_callF go53 rfl (lay (x := ⟨2, x, 0, 0⟩) hp (by omega) (fun F2 => ?_)))
  refine vq rfl rfl (q_assign rfl) ?_
  refine vendW ?_
  refine vc_ret ?_
  exact ret1 rfl rfl (Le.refl _) (Cv.le (Le.refl _) _) (hk _ _ _ (Gr.snoc hw (ndOK_not hx)) B1_new (fun v hv => by rw [bv_last]; exact hv.last.k2 rfl))
theorem andB {p : Nat} {F : List Nat} {nd : List Nd} {ins outs : List Pt} {s : St} {K : AV → St → Prop} (hp : s p = some (bld F nd ins outs)) (hw : WfB nd) (hn : nd.length < 2^39) {x y : Int} (hx : B1 nd x) (hy : B1 nd y) (hk : ∀ F2 n2 o, Gr nd n2 1 → B1 n2 o → (∀ v, Mod v n2 → bv v o = (bv v x && bv v y)) → K (.int o) (upd s p (bld F2 n2 ins outs))) : CallsA Try.prog 103 [ptv p 0, .int x, .int y] s K := by
  refine callsA_of Try.func103 rfl rfl (Nat.le_of_ble_eq_true rfl) ?_
  refine vc_seq ?_
  refine vc_regionW (qm 1) [0] rfl rfl ?_
  refine vq rfl rfl (q_assign rfl) ?_
  refine vendW ?_
  refine vc_seq ?_
  refine vc_regionW (qm 47) [0, 1, 2, 3, 4, 5] rfl rfl ?_
  refine vq rfl rfl (q_move rfl) ?_
  refine vq rfl rfl (q_move rfl) ?_
  refine vq rfl rfl (q_move rfl) ?_
  refine vq rfl rfl (q_build pl89 zr89 rfl rfl) ?_
  refine ve rfl rfl (e_callF go53 rfl (lay (x := ⟨3, x, y, 0⟩) hp (by omega) (fun F2 => ?_)))
  refine vq rfl rfl (q_assign rfl) ?_
  refine vendW ?_
  refine vc_ret ?_
  exact ret1 rfl rfl (Le.refl _) (Cv.le (Le.refl _) _) (hk _ _ _ (Gr.snoc hw (ndOK_two (by simp) hx hy)) B1_new (fun v hv => by rw [bv_last]; exact hv.last.k3 rfl))
theorem orB {p : Nat} {F : List Nat} {nd : List Nd} {ins outs : List Pt} {s : St} {K : AV → St → Prop} (hp : s p = some (bld F nd ins outs)) (hw : WfB nd) (hn : nd.length < 2^39) {x y : Int} (hx : B1 nd x) (hy : B1 nd y) (hk : ∀ F2 n2 o, Gr nd n2 1 → B1 n2 o → (∀ v, Mod v n2 → bv v o = (bv v x || bv v y)) → K (.int o) (upd s p (bld F2 n2 ins outs))) : CallsA Try.prog 102 [ptv p 0, .int x, .int y] s K := by
  refine callsA_of Try.func102 rfl rfl (Nat.le_of_ble_eq_true rfl) ?_
  refine vc_seq ?_
  refine vc_regionW (qm 1) [0] rfl rfl ?_
  refine vq rfl rfl (q_assign rfl) ?_
  refine vendW ?_
  refine vc_seq ?_
  refine vc_regionW (qm 47) [0, 1, 2, 3, 4, 5] rfl rfl ?_
  refine vq rfl rfl (q_move rfl) ?_
  refine vq rfl rfl (q_move rfl) ?_
  refine vq rfl rfl (q_move rfl) ?_
  refine vq rfl rfl (q_build pl89 zr89 rfl rfl) ?_
  refine ve rfl rfl (e_callF go53 rfl (lay (x := ⟨4, x, y, 0⟩) hp (by omega) (fun F2 => ?_)))
  refine vq rfl rfl (q_assign rfl) ?_
  refine vendW ?_
  refine vc_ret ?_
  exact ret1 rfl rfl (Le.refl _) (Cv.le (Le.refl _) _) (hk _ _ _ (Gr.snoc hw (ndOK_two (by simp) hx hy)) B1_new (fun v hv => by rw [bv_last]; exact hv.last.k4 rfl))
theorem xorB {p : Nat} {F : List Nat} {nd : List Nd} {ins outs : List Pt} {s : St} {K : AV → St → Prop} (hp : s p = some (bld F nd ins outs)) (hw : WfB nd) (hn : nd.length < 2^39) {x y : Int} (hx : B1 nd x) (hy : B1 nd y) (hk : ∀ F2 n2 o, Gr nd n2 1 → B1 n2 o → (∀ v, Mod v n2 → bv v o = (bv v x ^^ bv v y)) → K (.int o) (upd s p (bld F2 n2 ins outs))) : CallsA Try.prog 152 [ptv p 0, .int x, .int y] s K := by
  refine callsA_of Try.func152 rfl rfl (Nat.le_of_ble_eq_true rfl) ?_
  refine vc_seq ?_
  refine vc_regionW (qm 1) [0] rfl rfl ?_
  refine vq rfl rfl (q_assign rfl) ?_
  refine vendW ?_
  refine vc_seq ?_
  refine vc_regionW (qm 47) [0, 1, 2, 3, 4, 5] rfl rfl ?_
  refine vq rfl rfl (q_move rfl) ?_
  refine vq rfl rfl (q_move rfl) ?_
  refine vq rfl rfl (q_move rfl) ?_
  refine vq rfl rfl (q_build pl89 zr89 rfl rfl) ?_
  refine ve rfl rfl (e_callF go53 rfl (lay (x := ⟨5, x, y, 0⟩) hp (by omega) (fun F2 => ?_)))
  refine vq rfl rfl (q_assign rfl) ?_
  refine vendW ?_
  refine vc_ret ?_
  exact ret1 rfl rfl (Le.refl _) (Cv.le (Le.refl _) _) (hk _ _ _ (Gr.snoc hw (ndOK_two (by simp) hx hy)) B1_new (fun v hv => by rw [bv_last]; exact hv.last.k5 rfl))
theorem muxB {p : Nat} {F : List Nat} {nd : List Nd} {ins outs : List Pt} {s : St} {K : AV → St → Prop} (hp : s p = some (bld F nd ins outs)) (hw : WfB nd) (hn : nd.length < 2^39) {x y c : Int} (hx : B1 nd x) (hy : B1 nd y) (hc : B1 nd c) (hk : ∀ F2 n2 o, Gr nd n2 1 → B1 n2 o → (∀ v, Mod v n2 → bv v o = (bif bv v c then bv v y else bv v x)) → K (.int o) (upd s p (bld F2 n2 ins outs))) : CallsA Try.prog 154 [ptv p 0, .int x, .int y, .int c] s K := by
  refine callsA_of Try.func154 rfl rfl (Nat.le_of_ble_eq_true rfl) ?_
  refine vc_seq ?_
  refine vc_regionW (qm 1) [0] rfl rfl ?_
  refine vq rfl rfl (q_assign rfl) ?_
  refine vendW ?_
  refine vc_seq ?_
  refine vc_regionW (qm 95) [0, 1, 2, 3, 4, 5, 6] rfl rfl ?_
  refine vq rfl rfl (q_move rfl) ?_
  refine vq rfl rfl (q_move rfl) ?_
  refine vq rfl rfl (q_move rfl) ?_
  refine vq rfl rfl (q_move rfl) ?_
  refine vq rfl rfl (q_build pl89 zr89 rfl rfl) ?_
  refine ve rfl rfl (e_callF go53 rfl (lay (x := ⟨6, x, y, c⟩) hp (by omega) (fun F2 => ?_)))
  refine vq rfl rfl (q_assign rfl) ?_
  refine vendW ?_
  refine vc_ret ?_
  exact ret1 rfl rfl (Le.refl _) (Cv.le (Le.refl _) _) (hk _ _ _ (Gr.snoc hw (ndOK_mux hx hy hc)) B1_new (fun v hv => by rw [bv_last]; exact hv.last.k6 rfl))
end Go.Proofs.Ytpcpdepfnoijoaa

set_option linter.unusedVariables false
set_option linter.unusedSimpArgs false
set_option maxRecDepth 100000
namespace Go.Proofs.Ytpcpdepfnoijoaa
open Go.Vc
theorem mapPt_snoc (a : List Pt) (b : Pt) : (a ++ [b]).map ptR = a.map ptR ++ [ptR b] := by simp
def nI : Nd := ⟨1, 0, 0, 0⟩
def seqI (b : Nat) : Nat → List Int
  | 0 => []
  | n + 1 => seqI b n ++ [((b + n : Nat) : Int)]
theorem seqI_len (b : Nat) : ∀ n, (seqI b n).length = n
  | 0 => rfl
  | n + 1 => by simp [seqI, seqI_len b n]
theorem seqI_bw (nd : List Nd) : ∀ n m, n ≤ m → BW (nd ++ List.replicate m nI) (seqI nd.length n)
  | 0, m, _ => BW.nil
  | n + 1, m, h => BW.app (seqI_bw nd n m (by omega)) (BW.one ⟨by omega, by simp; omega⟩)
theorem gr_in {nd : List Nd} (hw : WfB nd) : ∀ n, Gr nd (nd ++ List.replicate n nI) n
  | 0 => by simpa using Gr.refl hw 0
  | n + 1 => by
    have h := gr_in hw n
    rw [List.replicate_succ', ← List.append_assoc]
    exact h.trans (Gr.snoc h.wf (ndOK_in _)) (Nat.le_refl _)
theorem inB {p : Nat} {F : List Nat} {nd : List Nd} {ins outs : List Pt} {s : St} {K : AV → St → Prop} (hp : s p = some (bld F nd ins outs)) {z : ByteArray} {w : Nat} (hn : nd.length < 2^39) (hwl : w ≤ 1000) (hil : ins.length < 2^30) (hk : ∀ F2, K (ints (seqI nd.length w)) (upd s p (bld F2 (nd ++ List.replicate w nI) (ins ++ [⟨z, seqI nd.length w⟩]) outs))) : CallsA Try.prog 17 [ptv p 0, .v (.string z), .int (w : Int)] s K := by
  refine callsA_of Try.func17 rfl rfl (Nat.le_of_ble_eq_true rfl) ?_
  refine vc_seq ?_
  refine vc_regionW (qm 1) [0] rfl rfl ?_
  refine vq rfl rfl (q_assign rfl) ?_
  refine vendW ?_
  refine vc_seq ?_
  refine vc_regionW (qm 1) [0] rfl rfl ?_
  refine vq rfl rfl (q_assign rfl) ?_
  refine vendW ?_
  refine vc_seq ?_
  refine vc_seq ?_
  refine vc_regionW (qm 7) [0, 1, 2] rfl rfl ?_
  refine vq rfl rfl (q_move rfl) ?_
  refine vq rfl rfl (q_max rfl rfl) ?_
  refine vq rfl rfl (q_move rfl) ?_
  refine vendW ?_
  refine vc_block ?_
  refine vc_loopS (α := Nat × AV × List Nat × St) [7, 10, 11, 12, 13, 14, 15, 16, 17, 18] (fun a => [(10, .int (a.1 : Int)), (7, a.2.1)]) (fun a => a.2.2.2) (fun a => a.1 ≤ w ∧ OwnSt (upd s p (bld a.2.2.1 (nd ++ List.replicate a.1 nI) ins outs)) a.2.1 3 1 ((seqI nd.length a.1).map eI) a.2.2.2) (fun a => w - a.1) (0, nilS, F, s) ⟨by simp, by rw [upd_self _ _ _ (by simpa using hp)]; exact OwnSt.nil _ _ _⟩ rfl ⟨rfl, rfl, trivial⟩ (fun _ => rfl) ?_
  intro ⟨i, x, F1, s1⟩ ⟨hi, ho⟩
  simp only at hi ho ⊢
  have hls := seqI_len nd.length i
  refine vc_seq ?_
  refine vc_regionW (qm 1) [0] rfl rfl ?_
  refine vq rfl rfl (q_lt rfl rfl) ?_
  refine vendW ?_
  refine vc_seq ?_
  refine vc_condD rfl (fun h11 => ?_) (fun h11 => ?_)
  ·
    refine vc_skip ?_
    refine vc_seq ?_
    refine vc_block ?_
    refine vc_regionW (qm 87) [0, 1, 2, 3, 4, 5, 6] rfl rfl ?_
    refine vq rfl rfl (q_move rfl) ?_
    refine vq rfl rfl (q_move rfl) ?_
    refine vq rfl rfl (q_build pl89 zr89 rfl rfl) ?_
    refine ve rfl rfl (e_callF go53 rfl (lay (x := nI) (ho.get (upd_same _ _ _)) (by simp; omega) (fun F2 => ?_)))
    refine vq rfl rfl (q_buildS sl40 zo3 (by decide) rfl rfl rfl rfl (by decide)) ?_
    refine ve rfl rfl (e_append sl40 zo3 rfl rfl ho.put (SrcOK.slx 1 _) (rowsC1_one rfl) (by simp [maxLen_eq]; omega) (fun x3 s3 ho3 => ?_))
    refine vq rfl rfl (q_assign rfl) ?_
    refine vendW ?_
    refine vc_regionW (qm 3) [0, 1] rfl rfl ?_
    refine vq rfl rfl (q_add rfl rfl (w64 (by omega))) ?_
    refine vq rfl rfl (q_move rfl) ?_
    refine vendW ?_
    refine ⟨(i + 1, x3, F2, s3), ⟨by simp only; omega, by have h := ho3; rw [List.length_append, List.length_replicate, List.append_assoc, ← List.replicate_succ'] at h; rw [seqI, List.map_append]; exact h⟩, by simp only; omega, ?_, ⟨rfl, rfl, trivial⟩, rfl⟩
    repeat (first | exact Same.refl | refine Same.upd rfl ?_ | refine Same.drop rfl ?_)
  refine vc_exit ?_
  refine vc_seq ?_
  have e : i = w := by omega
  subst e
  refine vc_frz (i := 7) ho rfl ?_
  refine vc_openAt (l := [OV.r 89 4 ((nd ++ List.replicate i nI).map ndR)]) (upd_same _ _ _) (fun x4 F4 s4 ho4 => ?_)
  rw [upd_upd] at ho4
  refine vc_regionW (qm 214524926879081553593184399971293538039669853129478294043576983099548224481176751628829988770670454843040509730983776813660062124991145119142938384097349119) [0, 1, 2, 3, 4, 5, 6, 7, 8, 9, 10, 11, 12] rfl rfl ?_
  refine vq rfl rfl (q_move rfl) ?_
  refine vq rfl rfl (q_move rfl) ?_
  refine vq rfl rfl (q_nil rfl) ?_
  refine vq rfl rfl (q_fieldP fo104_1 rfl) ?_
  refine vr rfl rfl rfl (e_loadO sc23 rfl (ho4.get (upd_same _ _ _)) rfl ⟨rfl, rfl⟩) ?_
  refine vq rfl rfl (q_move rfl) ?_
  refine vq rfl rfl (q_move rfl) ?_
  refine vq rfl rfl (q_build pl91 zr91 rfl rfl) ?_
  refine vq rfl rfl (q_buildS sl23 zo91 (by decide) rfl rfl rfl rfl (by decide)) ?_
  refine ve rfl rfl (e_append sl23 zo91 rfl rfl ho4 (SrcOK.slx 2 _) (rowsC1_one rfl) (by simp [maxLen_eq]; omega) (fun x5 s5 ho5 => ?_))
  refine vq rfl rfl (q_nil rfl) ?_
  refine vq rfl rfl (q_fieldP fo104_1 rfl) ?_
  refine vn rfl rfl (e_storeO sz23 rfl rfl ho5.c1 (ho5.get (upd_same _ _ _)) rfl ?_)
  refine vendW ?_
  refine vc_seq ?_
  have ho6 := ho5.put (r' := .obj F4 (([OV.r 89 4 ((nd ++ List.replicate i nI).map ndR)] ++ OV.a x4 :: [OV.r 91 2 (outs.map ptR)]).set 1 (OV.a x5)))
  refine vc_shutAt (l := [OV.r 89 4 ((nd ++ List.replicate i nI).map ndR)]) (x := x5) (q := [OV.r 91 2 (outs.map ptR)]) (xs := (ins ++ [(⟨z, seqI nd.length i⟩ : Pt)]).map ptR) (by rw [mapPt_snoc]; exact ho6) (fun F5 => ?_)
  refine vc_regionW (qm 7) [0, 1, 2] rfl rfl ?_
  refine vq rfl rfl (q_move rfl) ?_
  refine vq rfl rfl (q_callF go54 rfl (fun s => cloneI (l := seqI nd.length i) (by rw [seqI_len]; omega) ⟨rfl, rfl⟩)) ?_
  refine vq rfl rfl (q_assign rfl) ?_
  refine vendW ?_
  refine vc_ret ?_
  exact ret1 rfl rfl (Le.refl _) (Cv.le (Le.refl _) _) (hk F5)
theorem outB {p : Nat} {F : List Nat} {nd : List Nd} {ins outs : List Pt} {s : St} {K : AV → St → Prop} (hp : s p = some (bld F nd ins outs)) {z : ByteArray} {l : List Int} (hl : l.length < 2^30) (hol : outs.length < 2^30) (hk : ∀ F2, K (.tup []) (upd s p (bld F2 nd ins (outs ++ [⟨z, l⟩])))) : CallsA Try.prog 21 [ptv p 0, .v (.string z), ints l] s K := by
  refine callsA_of Try.func21 rfl rfl (Nat.le_of_ble_eq_true rfl) ?_
  refine vc_openAt (l := [OV.r 89 4 (nd.map ndR), OV.r 91 2 (ins.map ptR)]) hp (fun x4 F4 s4 ho4 => ?_)
  refine vc_regionDW mx (qm 214524926879081553593184399971293538039669853129478294043576983099548224481176751628829988770670454843040509730983776813660062124991145119142938384097352703) [0, 1, 2, 3, 4, 5, 6, 7, 8, 9, 10, 11, 12, 13] (by kernel_rfl) ?_
  refine vq rfl rfl (q_move rfl) ?_
  refine vq rfl rfl (q_move rfl) ?_
  refine vq rfl rfl (q_nil rfl) ?_
  refine vq rfl rfl (q_fieldP fo104_2 rfl) ?_
  refine vr rfl rfl rfl (e_loadO sc23 rfl (ho4.get (upd_same _ _ _)) rfl ⟨rfl, rfl⟩) ?_
  refine vq rfl rfl (q_move rfl) ?_
  refine vq rfl rfl (q_move rfl) ?_
  refine vq rfl rfl (q_callF go54 rfl (fun s => cloneI (l := l) (by omega) ⟨rfl, rfl⟩)) ?_
  refine vq rfl rfl (q_build pl91 zr91 rfl rfl) ?_
  refine vq rfl rfl (q_buildS sl23 zo91 (by decide) rfl rfl rfl rfl (by decide)) ?_
  refine ve rfl rfl (e_append sl23 zo91 rfl rfl ho4 (SrcOK.slx 2 _) (rowsC1_one rfl) (by simp [maxLen_eq]; omega) (fun x5 s5 ho5 => ?_))
  refine vq rfl rfl (q_nil rfl) ?_
  refine vq rfl rfl (q_fieldP fo104_2 rfl) ?_
  refine vn rfl rfl (e_storeO sz23 rfl rfl ho5.c1 (ho5.get (upd_same _ _ _)) rfl ?_)
  refine vendW ?_
  have ho6 := ho5.put (r' := .obj F4 (([OV.r 89 4 (nd.map ndR), OV.r 91 2 (ins.map ptR)] ++ OV.a x4 :: []).set 2 (OV.a x5)))
  refine ret_shutAt (l := [OV.r 89 4 (nd.map ndR), OV.r 91 2 (ins.map ptR)]) (x := x5) (q := []) (xs := (outs ++ [(⟨z, l⟩ : Pt)]).map ptR) (by rw [mapPt_snoc]; exact ho6) (fun F5 => ?_)
  exact ret0 rfl (Le.refl _) (hk F5)
end Go.Proofs.Ytpcpdepfnoijoaa

set_option linter.unusedVariables false
set_option linter.unusedSimpArgs false
namespace Go.Vc
section
variable {P : Program} {env : Env} {s : St} {d : Option Nat} {ty : TypeId} {pos : String} {af : Array Edge} {gd : Option (Nat × Bool)} {a b : Operand}
theorem q_maxN {k k' : IntKind} {m n : Nat} {ts : Array TypeId} (ha : evA env a = some (.v (.int k (m : Int)))) (hb : evA env b = some (.v (.int k' (n : Int)))) : QOK P ⟨d, .call ⟨.builtin .max, #[a, b], ts⟩, ty, pos, af, gd⟩ env (.v (.int k ((max m n : Nat) : Int))) := by
  have h := q_max (P := P) (d := d) (ty := ty) (pos := pos) (af := af) (gd := gd) (ts := ts) ha hb
  have e : ((max m n : Nat) : Int) = max (m : Int) n := by omega
  rw [e]; exact h
theorem q_minN {k k' : IntKind} {m n : Nat} {ts : Array TypeId} (ha : evA env a = some (.v (.int k (m : Int)))) (hb : evA env b = some (.v (.int k' (n : Int)))) : QOK P ⟨d, .call ⟨.builtin .min, #[a, b], ts⟩, ty, pos, af, gd⟩ env (.v (.int k ((min m n : Nat) : Int))) := by
  have h := q_min (P := P) (d := d) (ty := ty) (pos := pos) (af := af) (gd := gd) (ts := ts) ha hb
  have e : ((min m n : Nat) : Int) = min (m : Int) n := by omega
  rw [e]; exact h
theorem q_max0 {k k' : IntKind} {m : Nat} {ts : Array TypeId} (ha : evA env a = some (.v (.int k (m : Int)))) (hb : evA env b = some (.v (.int k' 0))) : QOK P ⟨d, .call ⟨.builtin .max, #[a, b], ts⟩, ty, pos, af, gd⟩ env (.v (.int k (m : Int))) := by
  have h := q_max (P := P) (d := d) (ty := ty) (pos := pos) (af := af) (gd := gd) (ts := ts) ha hb
  have e : (m : Int) = max (m : Int) 0 := by omega
  rw [e]; exact h
end
theorem OwnSt.cell {s0 s : St} {k sz m e : Nat} {xs : List (List AV)} (h : OwnSt s0 (.hdr k sz m) e sz xs s) : s k = some (.arr e sz xs) := by
  rcases h with ⟨_, _, h | h⟩ | ⟨k', hx, hk, rfl⟩
  · cases h
  · cases h
  · cases hx; exact upd_same _ _ _
def gop (k : Int) (a b : Bool) : Bool := if k = 3 then a && b else if k = 4 then a || b else a ^^ b
def gopN (k : Int) (a b : Nat) : Nat := if k = 3 then a &&& b else if k = 4 then a ||| b else a ^^^ b
theorem gopN_bit (k : Int) (a b i : Nat) : (gopN k a b).testBit i = gop k (a.testBit i) (b.testBit i) := by
  unfold gopN gop
  by_cases h3 : k = 3
  · rw [if_pos h3, if_pos h3, Nat.testBit_and]
  · by_cases h4 : k = 4
    · rw [if_neg h3, if_neg h3, if_pos h4, if_pos h4, Nat.testBit_or]
    · rw [if_neg h3, if_neg h3, if_neg h4, if_neg h4, Nat.testBit_xor]
theorem gopN_lt (k : Int) {a b n : Nat} (ha : a < 2 ^ n) (hb : b < 2 ^ n) : gopN k a b < 2 ^ n := by
  unfold gopN
  by_cases h3 : k = 3
  · rw [if_pos h3]; exact Nat.and_lt_two_pow _ hb
  · by_cases h4 : k = 4
    · rw [if_neg h3, if_pos h4]; exact Nat.or_lt_two_pow ha hb
    · rw [if_neg h3, if_neg h4]; exact Nat.xor_lt_two_pow ha hb
theorem gop_assoc (k : Int) (a b c : Bool) : gop k (gop k a b) c = gop k a (gop k b c) := by
  unfold gop
  by_cases h3 : k = 3
  · simp only [if_pos h3]; cases a <;> cases b <;> cases c <;> rfl
  · by_cases h4 : k = 4
    · simp only [if_neg h3, if_pos h4]; cases a <;> cases b <;> cases c <;> rfl
    · simp only [if_neg h3, if_neg h4]; cases a <;> cases b <;> cases c <;> rfl
theorem gop_unit (k : Int) (a : Bool) : gop k a (decide (k = 3)) = a := by
  unfold gop
  by_cases h3 : k = 3
  · simp only [if_pos h3, h3]; cases a <;> rfl
  · by_cases h4 : k = 4
    · simp only [if_neg h3, if_pos h4, h3]; cases a <;> rfl
    · simp only [if_neg h3, if_neg h4, h3]; cases a <;> rfl
theorem gop_unitL (k : Int) (a : Bool) : gop k (decide (k = 3)) a = a := by
  unfold gop
  by_cases h3 : k = 3
  · simp only [if_pos h3, h3]; cases a <;> rfl
  · by_cases h4 : k = 4
    · simp only [if_neg h3, if_pos h4, h3]; cases a <;> rfl
    · simp only [if_neg h3, if_neg h4, h3]; cases a <;> rfl
def gall (k : Int) (v : Nat → Bool) : List Int → Bool
  | [] => decide (k = 3)
  | a :: l => gop k (bv v a) (gall k v l)
theorem gall_app (k : Int) (v : Nat → Bool) : ∀ l m, gall k v (l ++ m) = gop k (gall k v l) (gall k v m)
  | [], m => by rw [List.nil_append, gall, gop_unitL]
  | a :: l, m => by rw [List.cons_append, gall, gall, gall_app k v l m, gop_assoc]
theorem gall_one (k : Int) (v : Nat → Bool) (a : Int) : gall k v [a] = bv v a := by rw [gall, gall, gop_unit]
theorem gall_or (v : Nat → Bool) : ∀ l, gall 4 v l = decide (wv v l ≠ 0)
  | [] => by simp [gall, wv]
  | a :: l => by
    rw [gall, gall_or v l, gop, if_neg (by decide), if_pos rfl, wv]
    cases bv v a <;> simp
    omega
theorem gall_and (v : Nat → Bool) : ∀ l, gall 3 v l = decide (wv v l + 1 = 2 ^ l.length)
  | [] => by simp [gall, wv]
  | a :: l => by
    rw [gall, gall_and v l, gop, if_pos rfl, wv, List.length_cons, Nat.pow_succ]
    have := wv_lt v l
    cases bv v a <;> simp <;> omega
theorem getD_setS {α : Type} {l : List α} {i : Nat} {x d : α} (h : i < l.length) : (l.set i x).getD i d = x := by simp [List.getD_eq_getElem?_getD, h]
theorem getD_setN {α : Type} {l : List α} {i j : Nat} {x d : α} (h : i ≠ j) : (l.set i x).getD j d = l.getD j d := by simp [List.getD_eq_getElem?_getD, List.getElem?_set_ne h]
theorem BW.set {nd : List Nd} {l : List Int} {o : Int} (h : BW nd l) (ho : B1 nd o) (i : Nat) : BW nd (l.set i o) := fun a ha => by
  rcases List.mem_or_eq_of_mem_set ha with h1 | h1
  · exact h a h1
  · subst h1; exact ho
theorem wv_nots (v : Nat → Bool) {l m : List Int} (hl : m.length = l.length) (h : ∀ i, i < l.length → bv v (m.getD i default) = !bv v (l.getD i default)) : wv v m + wv v l + 1 = 2 ^ l.length := by
  induction l generalizing m with
  | nil => cases m with
    | nil => rfl
    | cons _ _ => simp at hl
  | cons a l ih => cases m with
    | nil => simp at hl
    | cons b m =>
      have h0 := h 0 (by simp)
      have h1 := ih (m := m) (by simpa using hl) (fun i hi => by have := h (i + 1) (by simpa using hi); simpa using this)
      simp only [List.getD_cons_zero] at h0
      simp only [wv, h0, List.length_cons, Nat.pow_succ]
      cases bv v a <;> simp <;> omega
theorem wv_each (v : Nat → Bool) {l m r : List Int} {k : Int} {a b : Nat} (hl : wv v l = a) (hm : wv v m = b) (h1 : r.length = l.length) (h2 : m.length = l.length)
    (h : ∀ j, j < l.length → bv v (r.getD j default) = gop k (bv v (l.getD j default)) (bv v (m.getD j default))) : wv v r = gopN k a b := by
  subst hl hm
  refine wv_ext ?_ fun i hi => ?_
  · rw [h1]; exact gopN_lt k (wv_lt v l) (by rw [← h2]; exact wv_lt v m)
  · rw [h1] at hi
    rw [h i hi, gopN_bit, wv_bit v l i hi, wv_bit v m i (by omega)]
theorem wv_congr (v : Nat → Bool) {r l : List Int} (h1 : r.length = l.length) (h : ∀ j, j < l.length → bv v (r.getD j default) = bv v (l.getD j default)) : wv v r = wv v l :=
  wv_ext (by rw [h1]; exact wv_lt v l) fun i hi => by rw [h1] at hi; rw [h i hi, wv_bit v l i hi]
theorem wv_modL (v : Nat → Bool) {x : List Int} {w : Nat} (h : x.length ≤ w) : wv v x % 2 ^ w = wv v x :=
  Nat.mod_eq_of_lt (Nat.lt_of_lt_of_le (wv_lt v x) (Nat.pow_le_pow_right (by decide) h))
theorem getD_end {α : Type} (l : List α) (x d : α) : (l ++ [x]).getD l.length d = x := by simp [List.getD_eq_getElem?_getD]
theorem getD_front {α : Type} {l m : List α} {j : Nat} {d : α} (h : j < l.length) : (l ++ m).getD j d = l.getD j d := by simp [List.getD_eq_getElem?_getD, List.getElem?_append_left h]
theorem chunk_eq {α : Type} (xs : List α) (i : Nat) : (xs.take (min (2 * i + 2) xs.length)).drop (2 * i) = (xs.drop (2 * i)).take 2 := by
  rw [List.drop_take]
  rcases Nat.le_total (2 * i + 2) xs.length with h | h
  · rw [Nat.min_eq_left h]; congr 1; omega
  · rw [Nat.min_eq_right h, List.take_of_length_le (by simp), List.take_of_length_le (by simp; omega)]
theorem gall_two (k : Int) (v : Nat → Bool) {c : List Int} (h : c.length = 2) : gall k v c = gop k (bv v (c.getD 0 default)) (bv v (c.getD 1 default)) := by
  match c, h with
  | [a, b], _ => simp [gall, gop_unit]
theorem gall_len1 (k : Int) (v : Nat → Bool) {c : List Int} (h : c.length = 1) : gall k v c = bv v (c.getD 0 default) := by
  match c, h with
  | [a], _ => simp [gall, gop_unit]
theorem gall_chunk (k : Int) (v : Nat → Bool) (l : List Int) (i : Nat) : gall k v (l.take (2 * (i + 1))) = gop k (gall k v (l.take (2 * i))) (gall k v ((l.drop (2 * i)).take 2)) := by
  rw [← gall_app, Nat.mul_add, List.take_add]
theorem OwnSt.over {s0 s : St} {x : AV} {e sz p k : Nat} {xs : List (List AV)} {r0 r c : Res} (h : OwnSt (upd (upd s0 p r0) k c) x e sz xs s) (hkp : k ≠ p) : OwnSt (upd (upd s0 p r) k c) x e sz xs (upd s p r) := by
  have h1 := h.other (p := p) (r := r) (by rw [upd_ne _ _ (Ne.symm hkp)]; exact upd_same _ _ _)
  have e : upd (upd (upd s0 p r0) k c) p r = upd (upd s0 p r) k c := by
    funext j
    by_cases e1 : j = k
    · subst e1; rw [upd_ne _ _ hkp, upd_same, upd_same]
    · by_cases e2 : j = p
      · subst e2; rw [upd_same, upd_ne _ _ e1, upd_same]
      · rw [upd_ne _ _ e2, upd_ne _ _ e1, upd_ne _ _ e2, upd_ne _ _ e1, upd_ne _ _ e2]
  rw [e] at h1; exact h1
end Go.Vc

set_option linter.unusedVariables false
set_option linter.unusedSimpArgs false
set_option maxRecDepth 100000
namespace Go.Proofs.Ytpcpdepfnoijoaa
open Go.Vc
theorem net1 {l : List Pt} {s : St} {K : AV → St → Prop} (hl : l.length < 2^40) (hb : ∀ p ∈ l, p.bits.length < 2^40) (hk : K (.sl 2 (l.map ptR)) s) : CallsA Try.prog 60 [.sl 2 (l.map ptR)] s K := by
  refine callsA_of Try.func60 rfl rfl (Nat.le_of_ble_eq_true rfl) ?_
  refine vc_seq ?_
  refine vc_regionW (qm 1) [0] rfl rfl ?_
  refine vq rfl rfl (q_assign rfl) ?_
  refine vendW ?_
  refine vc_seq ?_
  refine vc_regionW (qm 1) [0] rfl rfl ?_
  refine vq rfl rfl (q_assign rfl) ?_
  refine vendW ?_
  refine vc_seq ?_
  refine vc_seq ?_
  refine vc_regionW (qm 7) [0, 1, 2] rfl rfl ?_
  refine vq rfl rfl (q_move rfl) ?_
  refine vq rfl rfl (q_len sl23 rfl (by first | exact lenM | rfl)) ?_
  refine vq rfl rfl (q_move rfl) ?_
  refine vendW ?_
  refine vc_block ?_
  refine vc_loopS (α := Nat × AV × St) [3, 5, 8, 9, 10, 11, 12, 13, 14, 15, 16, 17, 18, 19, 20, 21] (fun a => [(8, .int (a.1 : Int)), (3, a.2.1)]) (fun a => a.2.2) (fun a => a.1 ≤ l.length ∧ OwnSt s a.2.1 91 2 ((l.take a.1).map ptR) a.2.2) (fun a => l.length - a.1) (0, nilS, s) ⟨by simp, OwnSt.nil _ _ _⟩ rfl ⟨rfl, rfl, trivial⟩ (fun _ => rfl) ?_
  intro ⟨i, x, s1⟩ ⟨hi, ho⟩
  simp only at hi ho ⊢
  refine vc_seq ?_
  refine vc_regionW (qm 1) [0] rfl rfl ?_
  refine vq rfl rfl (q_lt rfl rfl) ?_
  refine vendW ?_
  refine vc_seq ?_
  refine vc_condD rfl (fun h => ?_) (fun h => ?_)
  ·
    refine vc_skip ?_
    refine vc_seq ?_
    refine vc_block ?_
    refine vc_seq ?_
    refine vc_regionW (qm 3) [0, 1, 2, 3] rfl rfl ?_
    refine vq rfl rfl (q_index sl23 rfl rfl (by omega) (by first | exact nthI (by omega) | exact nthM (by omega))) ?_
    refine vq rfl rfl (q_loadA ag91 rfl rfl) ?_
    refine ve rfl rfl (e_alloc zr91 (fun k5 hk5 => ?_))
    refine vn rfl rfl (e_storeN sz91 rfl rfl rfl rfl (upd_same _ _ _) rfl ?_)
    refine vendW ?_
    refine vc_frzC (i := 5) hk5 (upd_upd _ _ _ _) rfl ?_
    refine vc_regionDW mx (qm 735) [0, 1, 2, 3, 4, 5, 6, 7, 8, 9] (by kernel_rfl) ?_
    refine vq rfl rfl (q_move rfl) ?_
    refine vq rfl rfl (q_field fo91_0 rfl (Nat.le_of_ble_eq_true rfl)) ?_
    refine vq rfl rfl (q_load sc9 rfl) ?_
    refine vq rfl rfl (q_field fo91_1 rfl (Nat.le_of_ble_eq_true rfl)) ?_
    refine vq rfl rfl (q_load sc40 rfl) ?_
    refine ve rfl rfl (e_callF go54 rfl (cloneI (hb _ (getD_mem (by omega))) ?_))
    refine vq rfl rfl (q_build pl91 zr91 rfl rfl) ?_
    refine vq rfl rfl (q_buildS sl23 zo91 (by decide) rfl rfl rfl rfl (by decide)) ?_
    refine ve rfl rfl (e_append sl23 zo91 rfl rfl ho (SrcOK.slx 2 _) (rowsC1_one rfl) (by simp [maxLen_eq]; omega) (fun x3 s3 ho3 => ?_))
    refine vq rfl rfl (q_assign rfl) ?_
    refine vendW ?_
    refine vc_regionW (qm 3) [0, 1] rfl rfl ?_
    refine vq rfl rfl (q_add rfl rfl (w64 (by omega))) ?_
    refine vq rfl rfl (q_move rfl) ?_
    refine vendW ?_
    refine ⟨(i + 1, x3, s3), ⟨by simp only; omega, by rw [map_take_succ (by omega)]; exact ho3⟩, by simp only; omega, ?_, ⟨rfl, rfl, trivial⟩, rfl⟩
    repeat (first | exact Same.refl | refine Same.upd rfl ?_ | refine Same.drop rfl ?_)
  refine vc_exit ?_
  refine vc_seq ?_
  refine vc_regionW (qm 3) [0, 1] rfl rfl ?_
  refine vq rfl rfl (q_move rfl) ?_
  refine vq rfl rfl (q_assign rfl) ?_
  refine vendW ?_
  refine vc_ret ?_
  obtain rfl : i = l.length := by omega
  rw [List.take_length] at ho
  exact ret1 rfl rfl ho.le ho.frz hk
theorem netB {p : Nat} {F : List Nat} {nd : List Nd} {ins outs : List Pt} {s0 s : St} {K : AV → St → Prop} (h0 : s0 p = none) (hs : s = upd s0 p (bld F nd ins outs)) (hn : nd.length < 2^40) (hi : ins.length < 2^40) (ho : outs.length < 2^40) (hb : ∀ q ∈ ins ++ outs, q.bits.length < 2^40) (hk : K (netA ⟨nd, ins, outs⟩) s0) : CallsA Try.prog 24 [ptv p 0] s K := by
  refine callsA_of Try.func24 rfl rfl (Nat.le_of_ble_eq_true rfl) ?_
  refine vc_seq ?_
  refine vc_frzB (i := 0) h0 hs rfl ?_
  refine vc_regionW (qm 0) [0] rfl rfl ?_
  refine ve rfl rfl (e_alloc zr25 (fun k2 hk2 => ?_))
  refine vendW ?_
  refine vc_seq ?_
  refine vc_regionW (qm 1) [0] rfl rfl ?_
  refine vq rfl rfl (q_assign rfl) ?_
  refine vendW ?_
  refine vc_seq ?_
  refine vc_regionDW mx (qm 262143) [0, 1, 2, 3, 4, 5, 6, 7, 8, 9, 10, 11, 12, 13, 14, 15, 16, 17, 18] (by kernel_rfl) ?_
  refine vq rfl rfl (q_move rfl) ?_
  refine vq rfl rfl (q_nilB rfl) ?_
  refine vq rfl rfl (q_field fo104_0 rfl (Nat.le_of_ble_eq_true rfl)) ?_
  refine vq rfl rfl (q_load sc22 rfl) ?_
  refine vq rfl rfl (q_callF go61 rfl (fun s => cloneN (l := nd) hn ⟨rfl, rfl⟩)) ?_
  refine vq rfl rfl (q_move rfl) ?_
  refine vq rfl rfl (q_move rfl) ?_
  refine vq rfl rfl (q_nilB rfl) ?_
  refine vq rfl rfl (q_field fo104_1 rfl (Nat.le_of_ble_eq_true rfl)) ?_
  refine vq rfl rfl (q_load sc23 rfl) ?_
  refine vq rfl rfl (q_call go60 rfl rfl (fun s => net1 (l := ins) hi (fun p hp => hb p (by simp [hp])) ⟨rfl, rfl⟩)) ?_
  refine vq rfl rfl (q_move rfl) ?_
  refine vq rfl rfl (q_move rfl) ?_
  refine vq rfl rfl (q_nilB rfl) ?_
  refine vq rfl rfl (q_field fo104_2 rfl (Nat.le_of_ble_eq_true rfl)) ?_
  refine vq rfl rfl (q_load sc23 rfl) ?_
  refine vq rfl rfl (q_call go60 rfl rfl (fun s => net1 (l := outs) ho (fun p hp => hb p (by simp [hp])) ⟨rfl, rfl⟩)) ?_
  refine vq rfl rfl (q_build pl25 zr25 rfl rfl) ?_
  refine vn rfl rfl (e_storeN sz25 rfl rfl rfl rfl (upd_same _ _ _) rfl ?_)
  refine vendW ?_
  refine vc_ret ?_
  exact retC rfl ag25 rfl (upd_same _ _ _) rfl (Le.new2 hk2) (Cv.le (Le.new2 hk2) _) hk
abbrev gfn (k : Int) : Nat := if k = 3 then 103 else if k = 4 then 102 else 152
theorem goG (k : Int) : isGo Try.prog (gfn k) = true := by
  unfold gfn
  by_cases h3 : k = 3
  · rw [if_pos h3]; exact go103
  · by_cases h4 : k = 4
    · rw [if_neg h3, if_pos h4]; exact go102
    · rw [if_neg h3, if_neg h4]; exact go152
theorem gateC {k x y : Int} {p : Nat} {F : List Nat} {nd : List Nd} {ins outs : List Pt} {s : St} {K : AV → St → Prop} (hp : s p = some (bld F nd ins outs)) (hw : WfB nd) (hn : nd.length < 2^39) (hx : B1 nd x) (hy : B1 nd y)
    (hk : ∀ F2 n2 o, Gr nd n2 1 → B1 n2 o → (∀ v, Mod v n2 → bv v o = gop k (bv v x) (bv v y)) → K (.int o) (upd s p (bld F2 n2 ins outs))) : CallsA Try.prog (gfn k) ([ptv p 0] ++ ([.int x, .int y] ++ [])) s K := by
  by_cases h3 : k = 3
  · rw [gfn, if_pos h3]; exact andB hp hw hn hx hy (by simpa [gop, h3] using hk)
  · by_cases h4 : k = 4
    · rw [gfn, if_neg h3, if_pos h4]; exact orB hp hw hn hx hy (by simpa [gop, h4] using hk)
    · rw [gfn, if_neg h3, if_neg h4]; exact xorB hp hw hn hx hy (by simpa [gop, h3, h4] using hk)
structure LB where
  i : Nat
  x : AV
  l : List Int
  F : List Nat
  n : List Nd
  st : St
structure LBok (s : St) (p : Nat) (ins outs : List Pt) (nd : List Nd) (c : Nat) (a : LB) : Prop where
  ho : OwnSt (upd s p (bld a.F a.n ins outs)) a.x 3 1 (a.l.map eI) a.st
  g : Gr nd a.n c
  bw : BW a.n a.l
theorem LBok.hp {s : St} {p : Nat} {ins outs : List Pt} {nd : List Nd} {c : Nat} {a : LB} (h : LBok s p ins outs nd c a) : a.st p = some (bld a.F a.n ins outs) := h.ho.get (upd_same _ _ _)
theorem gateN {p : Nat} {k : Int} {s : St} {K : AV → St → Prop} (hk : K (.clo (gfn k) [ptv p 0] []) s) : CallsA Try.prog 139 [ptv p 0, .int k] s K := by
  refine callsA_of Try.func139 rfl rfl (Nat.le_of_ble_eq_true rfl) ?_
  refine vc_seq ?_
  refine vc_regionW (qm 1) [0] rfl rfl ?_
  refine vq rfl rfl (q_assign rfl) ?_
  refine vendW ?_
  refine vc_seq ?_
  refine vc_seq ?_
  refine vc_regionW (qm 1) [0] rfl rfl ?_
  refine vq rfl rfl (q_move rfl) ?_
  refine vendW ?_
  refine vc_block ?_
  refine vc_seq ?_
  refine vc_regionW (qm 3) [0, 1] rfl rfl ?_
  refine vq rfl rfl (q_eq rfl rfl) ?_
  refine vq rfl rfl (q_assign rfl) ?_
  refine vendW ?_
  refine vc_condD rfl (fun h6 => ?_) (fun h6 => ?_)
  ·
    refine vc_seq ?_
    refine vc_regionW (qm 7) [0, 1, 2] rfl rfl ?_
    refine vq rfl rfl (q_move rfl) ?_
    refine vq rfl rfl (q_makeFunc rfl rfl) ?_
    refine vq rfl rfl (q_assign rfl) ?_
    refine vendW ?_
    refine vc_ret ?_
    rw [gfn, if_pos h6] at hk
    exact ret1 rfl rfl (Le.refl _) (Cv.le (Le.refl _) _) hk
  refine vc_seq ?_
  refine vc_regionW (qm 3) [0, 1] rfl rfl ?_
  refine vq rfl rfl (q_eq rfl rfl) ?_
  refine vq rfl rfl (q_assign rfl) ?_
  refine vendW ?_
  refine vc_condD rfl (fun h10 => ?_) (fun h10 => ?_)
  ·
    refine vc_seq ?_
    refine vc_regionW (qm 7) [0, 1, 2] rfl rfl ?_
    refine vq rfl rfl (q_move rfl) ?_
    refine vq rfl rfl (q_makeFunc rfl rfl) ?_
    refine vq rfl rfl (q_assign rfl) ?_
    refine vendW ?_
    refine vc_ret ?_
    rw [gfn, if_neg h6, if_pos h10] at hk
    exact ret1 rfl rfl (Le.refl _) (Cv.le (Le.refl _) _) hk
  refine vc_skip ?_
  refine vc_seq ?_
  refine vc_regionW (qm 7) [0, 1, 2] rfl rfl ?_
  refine vq rfl rfl (q_move rfl) ?_
  refine vq rfl rfl (q_makeFunc rfl rfl) ?_
  refine vq rfl rfl (q_assign rfl) ?_
  refine vendW ?_
  refine vc_ret ?_
  rw [gfn, if_neg h6, if_neg h10] at hk
  exact ret1 rfl rfl (Le.refl _) (Cv.le (Le.refl _) _) hk
theorem padO {p : Nat} {F : List Nat} {nd : List Nd} {ins outs : List Pt} {s : St} {K : AV → St → Prop} (hp : s p = some (bld F nd ins outs)) (hw : WfB nd) (hn : nd.length + 1000 < 2^39) {x : List Int} {w : Nat} (hx : BW nd x) (hl : x.length < 2^39) (hwl : w ≤ 1000) (hk : ∀ F2 n2 l y s1, Gr nd n2 1000 → BW n2 l → l.length = w → (∀ v, Mod v n2 → wv v l = wv v x % 2^w) → OwnSt (upd s p (bld F2 n2 ins outs)) y 3 1 (l.map eI) s1 → K y s1) : CallsA Try.prog 55 [ptv p 0, ints x, .int (w : Int)] s K := by
  refine callsA_of Try.func55 rfl rfl (Nat.le_of_ble_eq_true rfl) ?_
  refine vc_seq ?_
  refine vc_regionW (qm 1) [0] rfl rfl ?_
  refine vq rfl rfl (q_assign rfl) ?_
  refine vendW ?_
  refine vc_seq ?_
  refine vc_regionW (qm 7) [0, 1, 2] rfl rfl ?_
  refine vq rfl rfl (q_move rfl) ?_
  refine vq rfl rfl (q_max rfl rfl) ?_
  refine vq rfl rfl (q_assign rfl) ?_
  refine vendW ?_
  refine vc_seq ?_
  refine vc_regionW (qm 191) [0, 1, 2, 3, 4, 5, 6, 7] rfl rfl ?_
  refine vq rfl rfl (q_move rfl) ?_
  refine vq rfl rfl (q_move rfl) ?_
  refine vq rfl rfl (q_len sl40 rfl (by first | exact lenM | rfl)) ?_
  refine vq rfl rfl (q_move rfl) ?_
  refine vq rfl rfl (q_min rfl rfl) ?_
  refine vq rfl rfl (q_sliceM 0 (min x.length w) sl40 rfl rfl rfl rfl (by simp; omega) (by omega)) ?_
  refine ve rfl rfl (e_callF go54 rfl (cloneIO (l := (x.take (min x.length w)).drop 0) (by simp; omega) (fun x0 s0 ho0 => ?_)))
  refine vq rfl rfl (q_assign rfl) ?_
  refine vendW ?_
  refine vc_seq ?_
  refine vc_block ?_
  refine vc_loopS (α := LB) [7, 17, 18, 19, 20, 21, 22, 23, 24, 25] (fun a => [(7, a.x)]) (fun a => a.st) (fun a => ((min x.length w ≤ a.l.length ∧ a.l.length ≤ w) ∧ (∀ v, Mod v a.n → wv v a.l = wv v x % 2^w)) ∧ LBok s p ins outs nd (a.l.length - min x.length w) a) (fun a => w - a.l.length) ⟨0, x0, x.take (min x.length w), F, nd, s0⟩ ⟨⟨by simp; omega, fun v _ => by rw [wv_take]; exact pad_mod v x w⟩, ⟨by rw [upd_self _ _ _ hp]; exact ho0, Gr.refl hw _, hx.take _⟩⟩ rfl ⟨rfl, trivial⟩ (fun _ => rfl) ?_
  intro a ⟨⟨hal, hv⟩, hok⟩
  refine vc_seq ?_
  refine vc_seq ?_
  refine vc_regionW (qm 15) [0, 1, 2, 3] rfl rfl ?_
  refine vq rfl rfl (q_move rfl) ?_
  refine vq rfl rfl (q_len sl40 rfl (by rw [hok.ho.len, List.length_map])) ?_
  refine vq rfl rfl (q_move rfl) ?_
  refine vq rfl rfl (q_lt rfl rfl) ?_
  refine vendW ?_
  refine vc_condD rfl (fun h20 => ?_) (fun h20 => ?_)
  ·
    refine vc_skip ?_
    refine vc_block ?_
    refine vc_regionW (qm 43) [0, 1, 2, 3, 4, 5] rfl rfl ?_
    refine vq rfl rfl (q_move rfl) ?_
    refine vq rfl rfl (q_move rfl) ?_
    refine ve rfl rfl (e_callF go56 rfl (bitB (b := 0) hok.hp hok.g.wf (by have := hok.g.len; omega) (fun F2 n2 o g2 b2 v2 => ?_)))
    refine vq rfl rfl (q_buildS sl40 zo3 (by decide) rfl rfl rfl rfl (by decide)) ?_
    refine ve rfl rfl (e_append sl40 zo3 rfl rfl hok.ho.put (SrcOK.slx 1 _) (rowsC1_one rfl) (by simp [maxLen_eq]; omega) (fun x3 s3 ho3 => ?_))
    refine vq rfl rfl (q_assign rfl) ?_
    refine vendW ?_
    refine ⟨⟨0, x3, a.l ++ [o], F2, n2, s3⟩, ⟨⟨by simp only [List.length_append, List.length_cons, List.length_nil]; omega, fun v hm => by rw [wv_snoc, v2 v hm, hv v (hm.gr g2)]; simp⟩, ⟨by rw [List.map_append]; exact ho3, hok.g.trans g2 (by simp only [List.length_append, List.length_cons, List.length_nil]; omega), (hok.bw.gr g2).app (BW.one b2)⟩⟩, by show w - (a.l ++ [o]).length < w - a.l.length; rw [List.length_append, List.length_singleton]; omega, ?_, ⟨rfl, trivial⟩, rfl⟩
    repeat (first | exact Same.refl | refine Same.upd rfl ?_ | refine Same.drop rfl ?_)
  refine vc_exit ?_
  refine vc_seq ?_
  refine vc_regionW (qm 3) [0, 1] rfl rfl ?_
  refine vq rfl rfl (q_move rfl) ?_
  refine vq rfl rfl (q_assign rfl) ?_
  refine vendW ?_
  refine vc_ret ?_
  exact ret1 rfl rfl (Le.refl _) (Cv.le (Le.refl _) _) (hk _ _ a.l _ _ (hok.g.le (by omega)) hok.bw (by omega) hv hok.ho)
end Go.Proofs.Ytpcpdepfnoijoaa

set_option linter.unusedVariables false
set_option maxRecDepth 100000
namespace Go.Proofs.Ytpcpdepfnoijoaa
open Go.Vc
theorem part {l : List Int} {i : Int} {s : St} {K : AV → St → Prop} (hl : l.length < 2^60) (hk : K (.v (.int .u32 (natPart l i))) s) : CallsA Try.prog 86 [natA l, .int i] s K := by
  refine callsA_of Try.func86 rfl rfl (Nat.le_of_ble_eq_true rfl) ?_
  refine vc_seq ?_
  refine vc_regionW (qm 1) [0] rfl rfl ?_
  refine vq rfl rfl (q_assign rfl) ?_
  refine vendW ?_
  refine vc_seq ?_
  refine vc_seq ?_
  refine vc_regionW (qm 255) [0, 1, 2, 3, 4, 5, 6, 7] rfl rfl ?_
  refine vq rfl rfl (q_move rfl) ?_
  refine vq rfl rfl (q_lt rfl rfl) ?_
  refine vq rfl rfl (q_move rfl) ?_
  refine vgrp [3, 4, 5, 6, 7] [] [8, 9, 10, 11] 12 (.v (.bool (decide (i < 0) || decide ((l.length : Int) ≤ i)))) ?_ ?_
  ·
    by_cases hg2 : i < 0
    ·
      refine g_skip rfl rfl rfl (by first | (rw [decide_eq_true hg2]; simp; done) | (intro e; have e2 := Value.bool.inj e; rw [decide_eq_true hg2] at e2; cases e2; done) | (simp [hg2]; done) | simp_all) ?_
      refine g_skip rfl rfl rfl (by first | (rw [decide_eq_true hg2]; simp; done) | (intro e; have e2 := Value.bool.inj e; rw [decide_eq_true hg2] at e2; cases e2; done) | (simp [hg2]; done) | simp_all) ?_
      refine g_skip rfl rfl rfl (by first | (rw [decide_eq_true hg2]; simp; done) | (intro e; have e2 := Value.bool.inj e; rw [decide_eq_true hg2] at e2; cases e2; done) | (simp [hg2]; done) | simp_all) ?_
      refine g_skip rfl rfl rfl (by first | (rw [decide_eq_true hg2]; simp; done) | (intro e; have e2 := Value.bool.inj e; rw [decide_eq_true hg2] at e2; cases e2; done) | (simp [hg2]; done) | simp_all) ?_
      refine vq rfl rfl (q_pickT rfl (by first | exact (decide_eq_true hg2) | exact hg2 | (simp [hg2]; done) | simp_all) rfl) ?_
      refine vendW ⟨rfl, congrArg (fun b => some (AV.v (Value.bool b))) (by first | (simp only [decide_eq_true hg2]; done) | (simp only [decide_eq_true hg2]; rfl) | (simp [hg2]; done) | simp_all), ?_⟩
      repeat (first | exact Same.refl | refine Same.upd rfl ?_)
    ·
      refine gq_run rfl rfl rfl rfl (by first | exact congrArg Value.bool (decide_eq_false hg2) | (rw [decide_eq_false hg2]; done) | (simp [hg2]; done) | simp_all) (q_move rfl) ?_
      refine gq_run rfl rfl rfl rfl (by first | exact congrArg Value.bool (decide_eq_false hg2) | (rw [decide_eq_false hg2]; done) | (simp [hg2]; done) | simp_all) (q_move rfl) ?_
      refine gq_run rfl rfl rfl rfl (by first | exact congrArg Value.bool (decide_eq_false hg2) | (rw [decide_eq_false hg2]; done) | (simp [hg2]; done) | simp_all) (q_len sl61 rfl (by first | exact lenM | rfl)) ?_
      refine gq_run rfl rfl rfl rfl (by first | exact congrArg Value.bool (decide_eq_false hg2) | (rw [decide_eq_false hg2]; done) | (simp [hg2]; done) | simp_all) (q_ge rfl rfl) ?_
      refine vq rfl rfl (q_pickF rfl (by first | exact (decide_eq_false hg2) | exact hg2 | (simp [hg2]; done) | simp_all) rfl) ?_
      refine vendW ⟨rfl, congrArg (fun b => some (AV.v (Value.bool b))) (by first | (simp only [decide_eq_false hg2]; done) | (simp only [decide_eq_false hg2]; rfl) | (simp [hg2]; done) | simp_all), ?_⟩
      repeat (first | exact Same.refl | refine Same.upd rfl ?_)
  refine vendW ?_
  refine vc_cond rfl (fun h => ?_) (fun h => ?_)
  ·
    refine vc_seq ?_
    refine vc_regionW (qm 1) [0] rfl rfl ?_
    refine vq rfl rfl (q_assign rfl) ?_
    refine vendW ?_
    refine vc_ret ?_
    have e : natPart l i = 0 := by unfold natPart; split; rfl; simp at h; rw [List.getD_eq_getElem?_getD, List.getElem?_eq_none (by omega)]; rfl
    rw [e] at hk
    exact ret1 rfl rfl (Le.refl _) (Cv.le (Le.refl _) _) hk
  refine vc_skip ?_
  refine vc_seq ?_
  refine vc_regionW (qm 31) [0, 1, 2, 3, 4] rfl rfl ?_
  refine vq rfl rfl (q_move rfl) ?_
  refine vq rfl rfl (q_move rfl) ?_
  refine vq rfl rfl (q_index sl61 rfl rfl (by simp at h; omega) (nthM (by simp at h; omega))) ?_
  refine vq rfl rfl (q_load sc92 rfl) ?_
  refine vq rfl rfl (q_assign rfl) ?_
  refine vendW ?_
  refine vc_ret ?_
  have e : natPart l i = l.getD i.toNat 0 := by simp at h; unfold natPart; rw [if_neg (by omega)]
  rw [e] at hk
  exact ret1 rfl rfl (Le.refl _) (Cv.le (Le.refl _) _) hk
theorem trim {l : List Int} {s : St} {K : AV → St → Prop} (hl : l.length < 2^60) (hk : K (.slx 1 ((natTrim l).map eU)) s) : CallsA Try.prog 87 [natA l] s K := by
  refine callsA_of Try.func87 rfl rfl (Nat.le_of_ble_eq_true rfl) ?_
  refine vc_seq ?_
  refine vc_regionW (qm 1) [0] rfl rfl ?_
  refine vq rfl rfl (q_assign rfl) ?_
  refine vendW ?_
  refine vc_seq ?_
  refine vc_regionW (qm 7) [0, 1, 2] rfl rfl ?_
  refine vq rfl rfl (q_move rfl) ?_
  refine vq rfl rfl (q_len sl61 rfl (by first | exact lenM | rfl)) ?_
  refine vq rfl rfl (q_assign rfl) ?_
  refine vendW ?_
  refine vc_seq ?_
  refine vc_block ?_
  refine vc_loopS (α := Nat) [3, 6, 7, 8, 9, 10, 11, 12, 13, 14, 15, 16, 17] (fun n => [(3, .int (n : Int))]) (fun n => s) (fun n => n ≤ l.length ∧ trimN l n = trimN l l.length) (fun n => n) l.length ⟨Nat.le_refl _, rfl⟩ rfl ⟨rfl, trivial⟩ (fun _ => rfl) ?_
  intro n hok
  refine vc_seq ?_
  refine vc_seq ?_
  refine vc_regionW (qm 1023) [0, 1, 2, 3, 4, 5, 6, 7, 8, 9] rfl rfl ?_
  refine vq rfl rfl (q_move rfl) ?_
  refine vq rfl rfl (q_gt rfl rfl) ?_
  refine vq rfl rfl (q_move rfl) ?_
  refine vgrp [3, 4, 5, 6, 7, 8, 9] [] [9, 10, 11, 12, 13, 14] 15 (.v (.bool (decide ((0 : Int) < n) && decide (l.getD ((n : Int) - 1).toNat 0 = 0)))) ?_ ?_
  ·
    by_cases hg2 : (0 : Int) < n
    ·
      refine gq_run rfl rfl rfl rfl (by first | exact congrArg Value.bool (decide_eq_true hg2) | (rw [decide_eq_true hg2]; done) | (simp [hg2]; done) | simp_all) (q_move rfl) ?_
      refine gq_run rfl rfl rfl rfl (by first | exact congrArg Value.bool (decide_eq_true hg2) | (rw [decide_eq_true hg2]; done) | (simp [hg2]; done) | simp_all) (q_move rfl) ?_
      refine gq_run rfl rfl rfl rfl (by first | exact congrArg Value.bool (decide_eq_true hg2) | (rw [decide_eq_true hg2]; done) | (simp [hg2]; done) | simp_all) (q_sub rfl rfl (w64 (by omega))) ?_
      refine gq_run rfl rfl rfl rfl (by first | exact congrArg Value.bool (decide_eq_true hg2) | (rw [decide_eq_true hg2]; done) | (simp [hg2]; done) | simp_all) (q_index sl61 rfl rfl (by omega) (by first | exact nthI (by omega) | exact nthM (by omega))) ?_
      refine gq_run rfl rfl rfl rfl (by first | exact congrArg Value.bool (decide_eq_true hg2) | (rw [decide_eq_true hg2]; done) | (simp [hg2]; done) | simp_all) (q_load sc92 rfl) ?_
      refine gq_run rfl rfl rfl rfl (by first | exact congrArg Value.bool (decide_eq_true hg2) | (rw [decide_eq_true hg2]; done) | (simp [hg2]; done) | simp_all) (q_eq rfl rfl) ?_
      refine vq rfl rfl (q_pickT rfl (by first | exact (decide_eq_true hg2) | exact hg2 | (simp [hg2]; done) | simp_all) rfl) ?_
      refine vendW ⟨rfl, congrArg (fun b => some (AV.v (Value.bool b))) (by first | (simp only [decide_eq_true hg2]; done) | (simp only [decide_eq_true hg2]; rfl) | (simp [hg2]; done) | simp_all), ?_⟩
      repeat (first | exact Same.refl | refine Same.upd rfl ?_)
    ·
      refine g_skip rfl rfl rfl (by first | (rw [decide_eq_false hg2]; simp; done) | (intro e; have e2 := Value.bool.inj e; rw [decide_eq_false hg2] at e2; cases e2; done) | (simp [hg2]; done) | simp_all) ?_
      refine g_skip rfl rfl rfl (by first | (rw [decide_eq_false hg2]; simp; done) | (intro e; have e2 := Value.bool.inj e; rw [decide_eq_false hg2] at e2; cases e2; done) | (simp [hg2]; done) | simp_all) ?_
      refine g_skip rfl rfl rfl (by first | (rw [decide_eq_false hg2]; simp; done) | (intro e; have e2 := Value.bool.inj e; rw [decide_eq_false hg2] at e2; cases e2; done) | (simp [hg2]; done) | simp_all) ?_
      refine g_skip rfl rfl rfl (by first | (rw [decide_eq_false hg2]; simp; done) | (intro e; have e2 := Value.bool.inj e; rw [decide_eq_false hg2] at e2; cases e2; done) | (simp [hg2]; done) | simp_all) ?_
      refine g_skip rfl rfl rfl (by first | (rw [decide_eq_false hg2]; simp; done) | (intro e; have e2 := Value.bool.inj e; rw [decide_eq_false hg2] at e2; cases e2; done) | (simp [hg2]; done) | simp_all) ?_
      refine g_skip rfl rfl rfl (by first | (rw [decide_eq_false hg2]; simp; done) | (intro e; have e2 := Value.bool.inj e; rw [decide_eq_false hg2] at e2; cases e2; done) | (simp [hg2]; done) | simp_all) ?_
      refine vq rfl rfl (q_pickF rfl (by first | exact (decide_eq_false hg2) | exact hg2 | (simp [hg2]; done) | simp_all) rfl) ?_
      refine vendW ⟨rfl, congrArg (fun b => some (AV.v (Value.bool b))) (by first | (simp only [decide_eq_false hg2]; done) | (simp only [decide_eq_false hg2]; rfl) | (simp [hg2]; done) | simp_all), ?_⟩
      repeat (first | exact Same.refl | refine Same.upd rfl ?_)
  refine vendW ?_
  refine vc_cond rfl (fun h => ?_) (fun h => ?_)
  ·
    refine vc_skip ?_
    refine vc_block ?_
    refine vc_regionW (qm 7) [0, 1, 2] rfl rfl ?_
    refine vq rfl rfl (q_move rfl) ?_
    refine vq rfl rfl (q_sub rfl rfl (w64 (by omega))) ?_
    refine vq rfl rfl (q_assign rfl) ?_
    refine vendW ?_
    refine ⟨n - 1, ⟨by omega, by simp at h; obtain ⟨m, rfl⟩ : ∃ m, n = m + 1 := ⟨n - 1, by omega⟩; have e := hok.2; rw [trimN, if_pos (by simpa using h.2)] at e; simpa using e⟩, (by simp at h; omega), ?_, ⟨(by simp at h; exact congrArg (fun z : Int => some (AV.int z)) (by omega)), trivial⟩, rfl⟩
    repeat (first | exact Same.refl | refine Same.upd rfl ?_ | refine Same.drop rfl ?_)
  refine vc_exit ?_
  refine vc_seq ?_
  refine vc_regionW (qm 31) [0, 1, 2, 3, 4] rfl rfl ?_
  refine vq rfl rfl (q_move rfl) ?_
  refine vq rfl rfl (q_move rfl) ?_
  refine vq rfl rfl (q_move rfl) ?_
  refine vq rfl rfl (q_slice3 sl61 rfl rfl rfl rfl (by omega) (by omega) (by simp; omega)) ?_
  refine vq rfl rfl (q_assign rfl) ?_
  refine vendW ?_
  refine vc_ret ?_
  have e : n = trimN l l.length := by
    rw [← hok.2]; cases n with
    | zero => rfl
    | succ m =>
      rw [trimN, if_neg]
      intro e
      have e2 : (((m + 1 : Nat) : Int) - 1).toNat = m := by omega
      rw [e2, e] at h; simp at h
  have e2 : ((l.map eU).take (n : Int).toNat).drop (0 : Int).toNat = (natTrim l).map eU := by unfold natTrim; rw [← e]; simp
  rw [← e2] at hk
  exact ret1 rfl rfl (Le.refl _) (Cv.le (Le.refl _) _) hk
theorem bit {l : List Int} {i : Nat} {s : St} {K : AV → St → Prop} (hl : l.length < 2^60) (hu : U32 l) (hi : i < 2^60) (hk : K (.int (natBit l i)) s) : CallsA Try.prog 81 [natA l, .int (i : Int)] s K := by
  refine callsA_of Try.func81 rfl rfl (Nat.le_of_ble_eq_true rfl) ?_
  refine vc_seq ?_
  refine vc_regionW (qm 1) [0] rfl rfl ?_
  refine vq rfl rfl (q_assign rfl) ?_
  refine vendW ?_
  refine vc_seq ?_
  refine vc_seq ?_
  refine vc_regionW (qm 3) [0, 1] rfl rfl ?_
  refine vq rfl rfl (q_move rfl) ?_
  refine vq rfl rfl (q_lt rfl rfl) ?_
  refine vendW ?_
  refine vc_condF rfl (by first | (simp; done) | (simp; omega) | simp_all) ?_
  refine vc_skip ?_
  refine vc_seq ?_
  refine vc_regionW (qm 1015) [0, 1, 2, 3, 4, 5, 6, 7, 8, 9] rfl rfl ?_
  refine vq rfl rfl (q_move rfl) ?_
  refine vq rfl rfl (q_move rfl) ?_
  refine vq rfl rfl (q_quo rfl rfl (by decide) (quo32 (by omega) (by omega))) ?_
  refine ve rfl rfl (e_callF go86 rfl (part hl ?_))
  refine vq rfl rfl (q_move rfl) ?_
  refine vq rfl rfl (q_rem rfl rfl (by decide) (rem32 (by omega))) ?_
  refine vq rfl rfl (q_shr rfl rfl (by omega) (natBit_shr l i)) ?_
  refine vq rfl rfl (q_and rfl rfl (and1_u32 (div_pow_u32 (hu.get _).1 (hu.get _).2 _).1 (div_pow_u32 (hu.get _).1 (hu.get _).2 _).2)) ?_
  refine vq rfl rfl (q_conv us92 ik3 rfl (w64 (by omega))) ?_
  refine vq rfl rfl (q_assign rfl) ?_
  refine vendW ?_
  refine vc_ret ?_
  exact ret1 rfl rfl (Le.refl _) (Cv.le (Le.refl _) _) hk
theorem len {l : List Int} {s : St} {K : AV → St → Prop} (hl : l.length < 2^50) (hu : U32 l) (hk : K (.int (natLen l : Int)) s) : CallsA Try.prog 136 [natA l] s K := by
  refine callsA_of Try.func136 rfl rfl (Nat.le_of_ble_eq_true rfl) ?_
  refine vc_seq ?_
  refine vc_regionW (qm 1) [0] rfl rfl ?_
  refine vq rfl rfl (q_assign rfl) ?_
  refine vendW ?_
  refine vc_seq ?_
  refine vc_regionW (qm 5) [0, 1, 2] rfl rfl ?_
  refine vq rfl rfl (q_move rfl) ?_
  refine ve rfl rfl (e_callF go87 rfl (trim (by omega) ?_))
  refine vq rfl rfl (q_assign rfl) ?_
  refine vendW ?_
  refine vc_seq ?_
  refine vc_seq ?_
  have htl := natTrim_len l
  have htu := natTrim_u32 hu
  refine vc_regionW (qm 7) [0, 1, 2] rfl rfl ?_
  refine vq rfl rfl (q_move rfl) ?_
  refine vq rfl rfl (q_len sl61 rfl lenMx) ?_
  refine vq rfl rfl (q_eq rfl rfl) ?_
  refine vendW ?_
  refine vc_condD rfl (fun h10 => ?_) (fun h10 => ?_)
  ·
    refine vc_seq ?_
    refine vc_regionW (qm 1) [0] rfl rfl ?_
    refine vq rfl rfl (q_assign rfl) ?_
    refine vendW ?_
    refine vc_ret ?_
    have e : natLen l = 0 := by unfold natLen; rw [if_pos (List.eq_nil_of_length_eq_zero (by omega))]
    rw [e] at hk
    exact ret1 rfl rfl (Le.refl _) (Cv.le (Le.refl _) _) hk
  refine vc_skip ?_
  refine vc_seq ?_
  refine vc_regionW (qm 31) [0, 1, 2, 3, 4] rfl rfl ?_
  refine vq rfl rfl (q_move rfl) ?_
  refine vq rfl rfl (q_len sl61 rfl lenMx) ?_
  refine vq rfl rfl (q_sub rfl rfl (w64 (by omega))) ?_
  refine vq rfl rfl (q_mul rfl rfl (w64 (by omega))) ?_
  refine vq rfl rfl (q_assign rfl) ?_
  refine vendW ?_
  refine vc_seq ?_
  refine vc_seq ?_
  refine vc_regionW (qm 127) [0, 1, 2, 3, 4, 5, 6] rfl rfl ?_
  refine vq rfl rfl (q_move rfl) ?_
  refine vq rfl rfl (q_move rfl) ?_
  refine vq rfl rfl (q_len sl61 rfl lenMx) ?_
  refine vq rfl rfl (q_sub rfl rfl (w64 (by omega))) ?_
  refine vq rfl rfl (q_indexX sl61 rfl rfl (by omega) (nthM (by omega))) ?_
  refine vq rfl rfl (q_load sc92 rfl) ?_
  refine vq rfl rfl (q_assign rfl) ?_
  refine vendW ?_
  refine vc_block ?_
  refine vc_loopS (α := Nat × Int) [4, 5, 21, 22, 23, 24, 25, 26] (fun a => [(4, .int (32 * (((natTrim l).length : Int) - 1) + (((topLen 32 ((natTrim l).getD ((natTrim l).length - 1) 0)) : Int) - a.1))), (5, .v (.int .u32 a.2))]) (fun a => s) (fun a => a.1 ≤ topLen 32 ((natTrim l).getD ((natTrim l).length - 1) 0) ∧ a.1 = topLen 32 a.2 ∧ a.2 < 4294967296) (fun a => a.1) (topLen 32 ((natTrim l).getD ((natTrim l).length - 1) 0), ((natTrim l).getD ((natTrim l).length - 1) 0)) ⟨Nat.le_refl _, rfl, (htu.get _).2⟩ rfl ⟨(congrArg (fun z : Int => some (AV.int z)) (by simp only; omega)), (congrArg (fun z => some (AV.v (Value.int .u32 ((natTrim l).getD z 0)))) (by omega)), trivial⟩ (fun _ => rfl) ?_
  intro ⟨c, v⟩ ⟨hc, hv, hlt⟩
  simp only at hc hv hlt ⊢
  have hT : topLen 32 ((natTrim l).getD ((natTrim l).length - 1) 0) ≤ 32 := topLen_le _ _
  refine vc_seq ?_
  refine vc_seq ?_
  refine vc_regionW (qm 3) [0, 1] rfl rfl ?_
  refine vq rfl rfl (q_move rfl) ?_
  refine vq rfl rfl (q_gt rfl rfl) ?_
  refine vendW ?_
  refine vc_condD rfl (fun h => ?_) (fun h => ?_)
  ·
    refine vc_skip ?_
    refine vc_seq ?_
    refine vc_block ?_
    refine vc_regionW (qm 7) [0, 1, 2] rfl rfl ?_
    refine vq rfl rfl (q_move rfl) ?_
    refine vq rfl rfl (q_add rfl rfl (w64 (by omega))) ?_
    refine vq rfl rfl (q_assign rfl) ?_
    refine vendW ?_
    refine vc_regionW (qm 7) [0, 1, 2] rfl rfl ?_
    refine vq rfl rfl (q_move rfl) ?_
    refine vq rfl rfl (q_shr rfl rfl (by decide) (shr1_u32)) ?_
    refine vq rfl rfl (q_assign rfl) ?_
    refine vendW ?_
    have e1 : c = topLen 32 (v / 2) + 1 := by rw [hv, topLen_st 31 (v / 2) (by show v / 2 < 2147483648; omega), ← hv, hv]; rw [topLen, if_pos h]
    refine ⟨(c - 1, v / 2), ⟨by simp only; omega, by simp only; omega, by simp only; omega⟩, (by simp only; omega), ?_, ⟨(congrArg (fun z : Int => some (AV.int z)) (by simp only; omega)), rfl, trivial⟩, rfl⟩
    repeat (first | exact Same.refl | refine Same.upd rfl ?_ | refine Same.drop rfl ?_)
  refine vc_exit ?_
  refine vc_seq ?_
  refine vc_regionW (qm 3) [0, 1] rfl rfl ?_
  refine vq rfl rfl (q_move rfl) ?_
  refine vq rfl rfl (q_assign rfl) ?_
  refine vendW ?_
  refine vc_ret ?_
  have e0 : c = 0 := by rw [hv, topLen, if_neg h]
  have e : ((natLen l : Nat) : Int) = 32 * (((natTrim l).length : Int) - 1) + (((topLen 32 ((natTrim l).getD ((natTrim l).length - 1) 0)) : Int) - c) := by
    unfold natLen
    rw [if_neg (by intro e; rw [e] at h10; exact h10 rfl)]
    have : (((natTrim l).length - 1 : Nat) : Int) = ((natTrim l).length : Int) - 1 := by omega
    subst e0
    omega
  rw [e] at hk
  exact ret1 rfl rfl (Le.refl _) (Cv.le (Le.refl _) _) hk
theorem told {l : List Int} {f : Nat} {s : St} {K : AV → St → Prop} (hf : isGo Try.prog f = true) (h : CallsA Try.prog f [natA l] s K) : CallsA Try.prog 137 [.clo f [] [], natA l] s K := by
  refine callsA_of Try.func137 rfl rfl (Nat.le_of_ble_eq_true rfl) ?_
  refine vc_seq ?_
  refine vc_regionW (qm 1) [0] rfl rfl ?_
  refine vq rfl rfl (q_assign rfl) ?_
  refine vendW ?_
  refine vc_seq ?_
  refine vc_regionW (qm 11) [0, 1, 2, 3] rfl rfl ?_
  refine vq rfl rfl (q_move rfl) ?_
  refine vq rfl rfl (q_move rfl) ?_
  refine ve rfl rfl (e_call hf rfl rfl (h.mono fun r s2 hk => ?_))
  refine vq rfl rfl (q_assign rfl) ?_
  refine vendW ?_
  refine vc_ret ?_
  exact ret1 rfl rfl (Le.refl _) (Cv.le (Le.refl _) _) hk
theorem isNaN {m : Int} {s : St} {K : AV → St → Prop} (hk : K (.bool false) s) : CallsA Try.prog 138 [.v (.int .u32 m)] s K := by
  refine callsA_of Try.func138 rfl rfl (Nat.le_of_ble_eq_true rfl) ?_
  refine vc_seq ?_
  refine vc_regionW (qm 1) [0] rfl rfl ?_
  refine vq rfl rfl (q_assign rfl) ?_
  refine vendW ?_
  refine vc_seq ?_
  refine vc_regionW (qm 15) [0, 1, 2, 3] rfl rfl ?_
  refine vq rfl rfl (q_move rfl) ?_
  refine vq rfl rfl (q_move rfl) ?_
  refine vq rfl rfl (q_ne rfl rfl) ?_
  refine vq rfl rfl (q_assign rfl) ?_
  refine vendW ?_
  refine vc_ret ?_
  have e : decide (m ≠ m) = false := by simp
  rw [← e] at hk
  exact ret1 rfl rfl (Le.refl _) (Cv.le (Le.refl _) _) hk
theorem compare {m n : Int} {s : St} {K : AV → St → Prop} (hk : K (.int (if m < n then -1 else if n < m then 1 else 0)) s) : CallsA Try.prog 85 [.v (.int .u32 m), .v (.int .u32 n)] s K := by
  refine callsA_of Try.func85 rfl rfl (Nat.le_of_ble_eq_true rfl) ?_
  refine vc_seq ?_
  refine vc_regionW (qm 1) [0] rfl rfl ?_
  refine vq rfl rfl (q_assign rfl) ?_
  refine vendW ?_
  refine vc_seq ?_
  refine vc_regionW (qm 5) [0, 1, 2] rfl rfl ?_
  refine vq rfl rfl (q_move rfl) ?_
  refine ve rfl rfl (e_callF go138 rfl (isNaN ?_))
  refine vq rfl rfl (q_assign rfl) ?_
  refine vendW ?_
  refine vc_seq ?_
  refine vc_regionW (qm 5) [0, 1, 2] rfl rfl ?_
  refine vq rfl rfl (q_move rfl) ?_
  refine ve rfl rfl (e_callF go138 rfl (isNaN ?_))
  refine vq rfl rfl (q_assign rfl) ?_
  refine vendW ?_
  refine vc_seq ?_
  refine vc_seq ?_
  refine vc_regionW (qm 1) [0] rfl rfl ?_
  refine vq rfl rfl (q_move rfl) ?_
  refine vendW ?_
  refine vc_condF rfl rfl ?_
  refine vc_skip ?_
  refine vc_seq ?_
  refine vc_seq ?_
  refine vc_regionW (qm 1) [0] rfl rfl ?_
  refine vq rfl rfl (q_move rfl) ?_
  refine vendW ?_
  refine vc_condF rfl rfl ?_
  refine vc_skip ?_
  refine vc_seq ?_
  refine vc_seq ?_
  refine vc_regionW (qm 7) [0, 1, 2] rfl rfl ?_
  refine vq rfl rfl (q_move rfl) ?_
  refine vq rfl rfl (q_move rfl) ?_
  refine vq rfl rfl (q_lt rfl rfl) ?_
  refine vendW ?_
  refine vc_condD rfl (fun h1 => ?_) (fun h1 => ?_)
  ·
    refine vc_seq ?_
    refine vc_regionW (qm 1) [0] rfl rfl ?_
    refine vq rfl rfl (q_assign rfl) ?_
    refine vendW ?_
    refine vc_ret ?_
    rw [if_pos h1] at hk
    exact ret1 rfl rfl (Le.refl _) (Cv.le (Le.refl _) _) hk
  refine vc_skip ?_
  refine vc_seq ?_
  refine vc_seq ?_
  refine vc_regionW (qm 7) [0, 1, 2] rfl rfl ?_
  refine vq rfl rfl (q_move rfl) ?_
  refine vq rfl rfl (q_move rfl) ?_
  refine vq rfl rfl (q_gt rfl rfl) ?_
  refine vendW ?_
  refine vc_condD rfl (fun h2 => ?_) (fun h2 => ?_)
  ·
    refine vc_seq ?_
    refine vc_regionW (qm 1) [0] rfl rfl ?_
    refine vq rfl rfl (q_assign rfl) ?_
    refine vendW ?_
    refine vc_ret ?_
    rw [if_neg h1, if_pos h2] at hk
    exact ret1 rfl rfl (Le.refl _) (Cv.le (Le.refl _) _) hk
  refine vc_skip ?_
  refine vc_seq ?_
  refine vc_regionW (qm 1) [0] rfl rfl ?_
  refine vq rfl rfl (q_assign rfl) ?_
  refine vendW ?_
  refine vc_ret ?_
  rw [if_neg h1, if_neg h2] at hk
  exact ret1 rfl rfl (Le.refl _) (Cv.le (Le.refl _) _) hk
theorem cmp {x y : List Int} {s : St} {K : AV → St → Prop} (hx : x.length < 2^50) (hy : y.length < 2^50) (hk : K (.int (natCmp x y)) s) : CallsA Try.prog 49 [natA x, natA y] s K := by
  refine callsA_of Try.func49 rfl rfl (Nat.le_of_ble_eq_true rfl) ?_
  refine vc_seq ?_
  refine vc_regionW (qm 1) [0] rfl rfl ?_
  refine vq rfl rfl (q_assign rfl) ?_
  refine vendW ?_
  refine vc_seq ?_
  refine vc_seq ?_
  refine vc_regionW (qm 127) [0, 1, 2, 3, 4, 5, 6] rfl rfl ?_
  refine vq rfl rfl (q_move rfl) ?_
  refine vq rfl rfl (q_len sl61 rfl (by first | exact lenM | rfl)) ?_
  refine vq rfl rfl (q_move rfl) ?_
  refine vq rfl rfl (q_len sl61 rfl (by first | exact lenM | rfl)) ?_
  refine vq rfl rfl (q_max rfl rfl) ?_
  refine vq rfl rfl (q_sub rfl rfl (w64 (by omega))) ?_
  refine vq rfl rfl (q_assign rfl) ?_
  refine vendW ?_
  refine vc_block ?_
  refine vc_loopS (α := Nat) [4, 5, 6, 13, 14, 15, 16, 17, 18, 19, 20, 21, 22, 23, 24, 25, 26] (fun n => [(5, .int ((n : Int) - 1))]) (fun n => s) (fun n => n ≤ max x.length y.length ∧ cmpG x y n = natCmp x y) (fun n => n) (max x.length y.length) ⟨Nat.le_refl _, rfl⟩ rfl ⟨(congrArg (fun z : Int => some (AV.int z)) (by omega)), trivial⟩ (fun _ => rfl) ?_
  intro n hok
  refine vc_seq ?_
  refine vc_seq ?_
  refine vc_regionW (qm 3) [0, 1] rfl rfl ?_
  refine vq rfl rfl (q_move rfl) ?_
  refine vq rfl rfl (q_ge rfl rfl) ?_
  refine vendW ?_
  refine vc_condD rfl (fun h => ?_) (fun h => ?_)
  ·
    refine vc_skip ?_
    refine vc_seq ?_
    refine vc_block ?_
    refine vc_seq ?_
    refine vc_regionW (qm 155) [0, 1, 2, 3, 4, 5, 6, 7] rfl rfl ?_
    refine vq rfl rfl (q_move rfl) ?_
    refine vq rfl rfl (q_move rfl) ?_
    refine ve rfl rfl (e_callF go86 rfl (part (by omega) ?_))
    refine vq rfl rfl (q_move rfl) ?_
    refine vq rfl rfl (q_move rfl) ?_
    refine ve rfl rfl (e_callF go86 rfl (part (by omega) ?_))
    refine ve rfl rfl (e_callF go85 rfl (compare ?_))
    refine vq rfl rfl (q_assign rfl) ?_
    refine vendW ?_
    refine vc_seq ?_
    refine vc_regionW (qm 3) [0, 1] rfl rfl ?_
    refine vq rfl rfl (q_move rfl) ?_
    refine vq rfl rfl (q_ne rfl rfl) ?_
    refine vendW ?_
    refine vc_condD rfl (fun h2 => ?_) (fun h2 => ?_)
    ·
      refine vc_seq ?_
      refine vc_regionW (qm 3) [0, 1] rfl rfl ?_
      refine vq rfl rfl (q_move rfl) ?_
      refine vq rfl rfl (q_assign rfl) ?_
      refine vendW ?_
      refine vc_ret ?_
      have e : natCmp x y = (if natPart x ((n : Int) - 1) < natPart y ((n : Int) - 1) then -1 else if natPart y ((n : Int) - 1) < natPart x ((n : Int) - 1) then 1 else 0) := by rw [← hok.2]; exact cmpG_stop x y (by omega) h2
      rw [e] at hk
      exact ret1 rfl rfl (Le.refl _) (Cv.le (Le.refl _) _) hk
    refine vc_skip ?_
    refine vc_regionW (qm 7) [0, 1, 2] rfl rfl ?_
    refine vq rfl rfl (q_move rfl) ?_
    refine vq rfl rfl (q_sub rfl rfl (w64 (by omega))) ?_
    refine vq rfl rfl (q_assign rfl) ?_
    refine vendW ?_
    refine ⟨n - 1, ⟨by omega, by rw [← hok.2]; exact (cmpG_go x y (by omega) h2).symm⟩, by omega, ?_, ⟨(congrArg (fun z : Int => some (AV.int z)) (by omega)), trivial⟩, rfl⟩
    repeat (first | exact Same.refl | refine Same.upd rfl ?_ | refine Same.drop rfl ?_)
  refine vc_exit ?_
  refine vc_seq ?_
  refine vc_regionW (qm 1) [0] rfl rfl ?_
  refine vq rfl rfl (q_assign rfl) ?_
  refine vendW ?_
  refine vc_ret ?_
  have e : natCmp x y = 0 := by rw [← hok.2, show n = 0 by omega]; rfl
  rw [e] at hk
  exact ret1 rfl rfl (Le.refl _) (Cv.le (Le.refl _) _) hk
theorem of {n : Int} {s : St} {K : AV → St → Prop} (h0 : 0 ≤ n) (hn : n < 18446744073709551616) (hk : K (.slx 1 ((natTrim [n % 4294967296, n / 4294967296]).map eU)) s) : CallsA Try.prog 50 [.v (.int .u64 n)] s K := by
  refine callsA_of Try.func50 rfl rfl (Nat.le_of_ble_eq_true rfl) ?_
  refine vc_seq ?_
  refine vc_regionW (qm 1) [0] rfl rfl ?_
  refine vq rfl rfl (q_assign rfl) ?_
  refine vendW ?_
  refine vc_seq ?_
  refine vc_regionW (qm 191) [0, 1, 2, 3, 4, 5, 6, 7] rfl rfl ?_
  refine vq rfl rfl (q_move rfl) ?_
  refine vq rfl rfl (q_conv us56 ik92 rfl (IntKind.wrap_u32 _)) ?_
  refine vq rfl rfl (q_move rfl) ?_
  refine vq rfl rfl (q_shr rfl rfl (by decide) shr64_32) ?_
  refine vq rfl rfl (q_conv us56 ik92 rfl (show _ = n / 4294967296 by rw [IntKind.wrap_u32]; omega)) ?_
  refine vq rfl rfl (q_buildS sl61 zo92 (by decide) rfl rfl rfl rfl (by decide)) ?_
  refine ve rfl rfl (e_callF go87 rfl (CallsA.le (ALes.cons (ale_slx 1 _) ALes.nil) (trim (l := [n % 4294967296, n / 4294967296]) (by simp) ?_)))
  refine vq rfl rfl (q_assign rfl) ?_
  refine vendW ?_
  refine vc_ret ?_
  exact ret1 rfl rfl (Le.refl _) (Cv.le (Le.refl _) _) hk
theorem addStore {s : St} {k : Nat} {x y : List Int} {i : Nat} (hN : i < max x.length y.length + 1) :
    upd (upd s k (.arr 92 1 (((addG x y i).1 ++ List.replicate (max x.length y.length + 1 - i) 0).map eU))) k (.arr 92 1 ((((addG x y i).1 ++ List.replicate (max x.length y.length + 1 - i) 0).map eU).set (i : Int).toNat
      ((eU ((((addG x y i).1 ++ List.replicate (max x.length y.length + 1 - i) 0)).getD (i : Int).toNat default)).set 0 (.v (.int .u32 (((addG x y i).2 + (natPart x i + natPart y i)) % 4294967296)))))) =
    upd s k (.arr 92 1 (((addG x y (i + 1)).1 ++ List.replicate (max x.length y.length + 1 - (i + 1)) 0).map eU)) := by
  rw [upd_upd]
  congr 2
  have e := set_mid eU (addG x y i).1 (((addG x y i).2 + (natPart x i + natPart y i)) % 4294967296) 0 (max x.length y.length - i)
  rw [addG_len] at e
  rw [show max x.length y.length + 1 - i = max x.length y.length - i + 1 by omega, show max x.length y.length + 1 - (i + 1) = max x.length y.length - i by omega]
  exact e
theorem add {x y : List Int} {s : St} {K : AV → St → Prop} (hx : x.length < 2^40) (hy : y.length < 2^40) (ux : U32 x) (uy : U32 y) (hk : K (.slx 1 ((natAdd x y).map eU)) s) : CallsA Try.prog 84 [natA x, natA y] s K := by
  refine callsA_of Try.func84 rfl rfl (Nat.le_of_ble_eq_true rfl) ?_
  refine vc_seq ?_
  refine vc_regionW (qm 1) [0] rfl rfl ?_
  refine vq rfl rfl (q_assign rfl) ?_
  refine vendW ?_
  refine vc_seq ?_
  refine vc_regionW (qm 127) [0, 1, 2, 3, 4, 5, 6] rfl rfl ?_
  refine vq rfl rfl (q_move rfl) ?_
  refine vq rfl rfl (q_len sl61 rfl (by first | exact lenM | rfl)) ?_
  refine vq rfl rfl (q_move rfl) ?_
  refine vq rfl rfl (q_len sl61 rfl (by first | exact lenM | rfl)) ?_
  refine vq rfl rfl (q_max rfl rfl) ?_
  refine vq rfl rfl (q_add rfl rfl (w64 (by omega))) ?_
  refine vq rfl rfl (q_assign rfl) ?_
  refine vendW ?_
  refine vc_seq ?_
  refine vc_regionW (qm 5) [0, 1, 2] rfl rfl ?_
  refine vq rfl rfl (q_move rfl) ?_
  refine ve rfl rfl (e_make sl61 zr92 rfl (List.cons_ne_nil _ _) rfl rfl (by omega) (by omega) (by omega) (by omega) (fun k hk0 => ?_))
  refine vq rfl rfl (q_assign rfl) ?_
  refine vendW ?_
  refine vc_seq ?_
  refine vc_regionW (qm 1) [0] rfl rfl ?_
  refine vq rfl rfl (q_assign rfl) ?_
  refine vendW ?_
  refine vc_seq ?_
  refine vc_seq ?_
  refine vc_regionW (qm 7) [0, 1, 2] rfl rfl ?_
  refine vq rfl rfl (q_move rfl) ?_
  refine vq rfl rfl (q_len sl61 rfl (by first | exact lenM | rfl)) ?_
  refine vq rfl rfl (q_move rfl) ?_
  refine vendW ?_
  refine vc_block ?_
  refine vc_loopS (α := Nat) [7, 8, 19, 20, 21, 22, 23, 24, 25, 26, 27, 28, 29, 30, 31, 32, 33, 34, 35, 36, 37, 38, 39, 40] (fun i => [(19, .int (i : Int)), (7, .v (.int .u64 (addG x y i).2))]) (fun i => (upd s k (.arr 92 1 (((addG x y i).1 ++ List.replicate (max x.length y.length + 1 - i) 0).map eU)))) (fun i => i ≤ max x.length y.length + 1) (fun i => max x.length y.length + 1 - i) 0 (by simp) (by rw [show (max (x.length : Int) y.length + 1).toNat = max x.length y.length + 1 - 0 by omega, List.map_append, List.map_replicate]; rfl) ⟨rfl, rfl, trivial⟩ (fun _ => rfl) ?_
  intro i hok
  have hc := addG_carry ux uy i
  have hp1 := natPart_u32 ux (i : Int)
  have hp2 := natPart_u32 uy (i : Int)
  refine vc_seq ?_
  refine vc_regionW (qm 1) [0] rfl rfl ?_
  refine vq rfl rfl (q_lt rfl rfl) ?_
  refine vendW ?_
  refine vc_seq ?_
  refine vc_condD rfl (fun h => ?_) (fun h => ?_)
  ·
    refine vc_skip ?_
    refine vc_seq ?_
    refine vc_block ?_
    refine vc_seq ?_
    refine vc_regionW (qm 3) [0, 1] rfl rfl ?_
    refine vq rfl rfl (q_move rfl) ?_
    refine vq rfl rfl (q_assign rfl) ?_
    refine vendW ?_
    refine vc_seq ?_
    refine vc_regionW (qm 3959) [0, 1, 2, 3, 4, 5, 6, 7, 8, 9, 10, 11] rfl rfl ?_
    refine vq rfl rfl (q_move rfl) ?_
    refine vq rfl rfl (q_move rfl) ?_
    refine vq rfl rfl (q_move rfl) ?_
    refine ve rfl rfl (e_callF go86 rfl (part (by omega) ?_))
    refine vq rfl rfl (q_conv us92 ik56 rfl (wrapU64 (natPart_u32 ux _))) ?_
    refine vq rfl rfl (q_move rfl) ?_
    refine vq rfl rfl (q_move rfl) ?_
    refine ve rfl rfl (e_callF go86 rfl (part (by omega) ?_))
    refine vq rfl rfl (q_conv us92 ik56 rfl (wrapU64 (natPart_u32 uy _))) ?_
    refine vq rfl rfl (q_add rfl rfl (wrapU64b (by omega))) ?_
    refine vq rfl rfl (q_add rfl rfl (wrapU64b (by omega))) ?_
    refine vq rfl rfl (q_assign rfl) ?_
    refine vendW ?_
    refine vc_seq ?_
    refine vc_regionW (qm 31) [0, 1, 2, 3, 4, 5] rfl rfl ?_
    refine vq rfl rfl (q_move rfl) ?_
    refine vq rfl rfl (q_move rfl) ?_
    refine vq rfl rfl (q_move rfl) ?_
    refine vq rfl rfl (q_conv us56 ik92 rfl (IntKind.wrap_u32 _)) ?_
    refine vq rfl rfl (q_indexH sl61 rfl rfl (by omega) (by omega)) ?_
    refine vn rfl rfl (e_storeE sz92 rfl rfl rfl (upd_same _ _ _) (nthM (by simp [addG_len]; omega)) rfl ?_)
    refine vendW ?_
    refine vc_regionW (qm 7) [0, 1, 2] rfl rfl ?_
    refine vq rfl rfl (q_move rfl) ?_
    refine vq rfl rfl (q_shr rfl rfl (by decide) shr64_32) ?_
    refine vq rfl rfl (q_assign rfl) ?_
    refine vendW ?_
    refine vc_regionW (qm 3) [0, 1] rfl rfl ?_
    refine vq rfl rfl (q_add rfl rfl (w64 (by omega))) ?_
    refine vq rfl rfl (q_move rfl) ?_
    refine vendW ?_
    have hN : i < max x.length y.length + 1 := by omega
    refine ⟨i + 1, by omega, by omega, ?_, ⟨rfl, rfl, trivial⟩, (addStore hN)⟩
    repeat (first | exact Same.refl | refine Same.upd rfl ?_ | refine Same.drop rfl ?_)
  refine vc_exit ?_
  refine vc_seq ?_
  have hi : i = max x.length y.length + 1 := by omega
  subst hi
  rw [Nat.sub_self, List.replicate_zero, List.append_nil]
  refine vc_frz (OwnSt.mk hk0 (by simp [addG_len]; omega)) (i := 6) rfl ?_
  refine vc_regionW (qm 5) [0, 1, 2] rfl rfl ?_
  refine vq rfl rfl (q_move rfl) ?_
  refine ve rfl rfl (e_callF go137 rfl (told go87 (trim (by rw [addG_len]; omega) ?_)))
  refine vq rfl rfl (q_assign rfl) ?_
  refine vendW ?_
  refine vc_ret ?_
  exact ret1 rfl rfl (Le.refl _) (Cv.le (Le.refl _) _) hk
end Go.Proofs.Ytpcpdepfnoijoaa

set_option linter.unusedVariables false
set_option linter.unusedSimpArgs false
set_option maxRecDepth 100000
namespace Go.Proofs.Ytpcpdepfnoijoaa
open Go.Vc
theorem padF {p : Nat} {F : List Nat} {nd : List Nd} {ins outs : List Pt} {s : St} {K : AV → St → Prop} (hp : s p = some (bld F nd ins outs)) (hw : WfB nd) (hn : nd.length + 1000 < 2^39) {x : List Int} {w : Nat} (hx : BW nd x) (hl : x.length < 2^39) (hwl : w ≤ 1000)
    (hk : ∀ F2 n2 l, Gr nd n2 1000 → BW n2 l → l.length = w → (∀ v, Mod v n2 → wv v l = wv v x % 2^w) → K (ints l) (upd s p (bld F2 n2 ins outs))) : CallsA Try.prog 55 [ptv p 0, ints x, .int (w : Int)] s K :=
  CallsA.frz (padO hp hw hn hx hl hwl fun F2 n2 l y s1 g b e v ho => ⟨_, _, ho, hk F2 n2 l g b e v⟩)
theorem padZ {p : Nat} {F : List Nat} {nd : List Nd} {ins outs : List Pt} {s : St} {K : AV → St → Prop} (hp : s p = some (bld F nd ins outs)) (hw : WfB nd) (hn : nd.length + 1000 < 2^39) {w : Nat} (hwl : w ≤ 1000)
    (hk : ∀ F2 n2 l y s1, Gr nd n2 1000 → BW n2 l → l.length = w → (∀ v, Mod v n2 → wv v l = 0) → OwnSt (upd s p (bld F2 n2 ins outs)) y 3 1 (l.map eI) s1 → K y s1) : CallsA Try.prog 55 [ptv p 0, nilS, .int (w : Int)] s K :=
  CallsA.le (ALes.cons (ALe.refl _) (ALes.cons (ale_nil 1) (ALes.cons (ALe.refl _) ALes.nil))) (padO (x := []) hp hw hn BW.nil (by simp) hwl fun F2 n2 l y s1 g b e v ho => hk F2 n2 l y s1 g b e (fun u hu => by rw [v u hu]; simp [wv]) ho)
theorem padZF {p : Nat} {F : List Nat} {nd : List Nd} {ins outs : List Pt} {s : St} {K : AV → St → Prop} (hp : s p = some (bld F nd ins outs)) (hw : WfB nd) (hn : nd.length + 1000 < 2^39) {w : Nat} (hwl : w ≤ 1000)
    (hk : ∀ F2 n2 l, Gr nd n2 1000 → BW n2 l → l.length = w → (∀ v, Mod v n2 → wv v l = 0) → K (ints l) (upd s p (bld F2 n2 ins outs))) : CallsA Try.prog 55 [ptv p 0, nilS, .int (w : Int)] s K :=
  CallsA.frz (padZ hp hw hn hwl fun F2 n2 l y s1 g b e v ho => ⟨_, _, ho, hk F2 n2 l g b e v⟩)
theorem bothB {p : Nat} {F : List Nat} {nd : List Nd} {ins outs : List Pt} {s : St} {K : AV → St → Prop} (hp : s p = some (bld F nd ins outs)) (hw : WfB nd) (hn : nd.length + 2000 < 2^39) {x y : List Int} (hx : BW nd x) (hy : BW nd y) (hlx : x.length ≤ 1000) (hly : y.length ≤ 1000) (hk : ∀ F2 n2 l m z s1, Gr nd n2 2000 → BW n2 l → BW n2 m → l.length = max x.length y.length → m.length = max x.length y.length → (∀ v, Mod v n2 → wv v l = wv v x ∧ wv v m = wv v y) → OwnSt (upd s p (bld F2 n2 ins outs)) z 3 1 (l.map eI) s1 → K (.tup [z, ints m]) s1) : CallsA Try.prog 141 [ptv p 0, ints x, ints y] s K := by
  refine callsA_of Try.func141 rfl rfl (Nat.le_of_ble_eq_true rfl) ?_
  refine vc_seq ?_
  refine vc_regionW (qm 3) [0, 1] rfl rfl ?_
  refine vq rfl rfl (q_assign rfl) ?_
  refine vq rfl rfl (q_assign rfl) ?_
  refine vendW ?_
  refine vc_seq ?_
  refine vc_regionW (qm 63) [0, 1, 2, 3, 4, 5] rfl rfl ?_
  refine vq rfl rfl (q_move rfl) ?_
  refine vq rfl rfl (q_len sl40 rfl (by first | exact lenM | rfl)) ?_
  refine vq rfl rfl (q_move rfl) ?_
  refine vq rfl rfl (q_len sl40 rfl (by first | exact lenM | rfl)) ?_
  refine vq rfl rfl (q_maxN rfl rfl) ?_
  refine vq rfl rfl (q_assign rfl) ?_
  refine vendW ?_
  refine vc_seq ?_
  refine vc_regionW (qm 887) [0, 1, 2, 3, 4, 5, 6, 7, 8, 9] rfl rfl ?_
  refine vq rfl rfl (q_move rfl) ?_
  refine vq rfl rfl (q_move rfl) ?_
  refine vq rfl rfl (q_move rfl) ?_
  refine ve rfl rfl (e_callF go55 rfl (padO (x := x) (w := max x.length y.length) hp hw (by omega) hx (by omega) (by omega) (fun F1 n1 l z s1 g1 b1 l1 v1 ho1 => ?_)))
  refine vq rfl rfl (q_move rfl) ?_
  refine vq rfl rfl (q_move rfl) ?_
  refine vq rfl rfl (q_move rfl) ?_
  refine ve rfl rfl (e_callF go55 rfl (padF (x := y) (w := max x.length y.length) (ho1.get (upd_same _ _ _)) g1.wf (by have := g1.len; omega) (hy.gr g1) (by omega) (by omega) (fun F2 n2 m g2 b2 l2 v2 => ?_)))
  refine vq rfl rfl (q_assign rfl) ?_
  refine vq rfl rfl (q_assign rfl) ?_
  refine vendW ?_
  refine vc_ret ?_
  exact ret2 rfl rfl rfl (Le.refl _) (Cv.le (Le.refl _) _) (Cv.le (Le.refl _) _) (hk F2 n2 l m z _ (g1.trans g2 (by omega)) (b1.gr g2) b2 l1 l2 (fun v hv => ⟨by rw [v1 v (hv.gr g2), wv_modL v (by omega)], by rw [v2 v hv, wv_modL v (by omega)]⟩) ho1.put)
theorem eachB {p : Nat} {F : List Nat} {nd : List Nd} {ins outs : List Pt} {s : St} {K : AV → St → Prop} (hp : s p = some (bld F nd ins outs)) (hw : WfB nd) (hn : nd.length + 3000 < 2^39) {x y : List Int} (hx : BW nd x) (hy : BW nd y) (hlx : x.length ≤ 1000) (hly : y.length ≤ 1000) {k : Int} (hk : ∀ F2 n2 l, Gr nd n2 3000 → BW n2 l → l.length = max x.length y.length → (∀ v, Mod v n2 → wv v l = gopN k (wv v x) (wv v y)) → K (ints l) (upd s p (bld F2 n2 ins outs))) : CallsA Try.prog 91 [ptv p 0, .int k, ints x, ints y] s K := by
  refine callsA_of Try.func91 rfl rfl (Nat.le_of_ble_eq_true rfl) ?_
  refine vc_seq ?_
  refine vc_regionW (qm 1) [0] rfl rfl ?_
  refine vq rfl rfl (q_assign rfl) ?_
  refine vendW ?_
  refine vc_seq ?_
  refine vc_regionW (qm 503) [0, 1, 2, 3, 4, 5, 6, 7, 8] rfl rfl ?_
  refine vq rfl rfl (q_move rfl) ?_
  refine vq rfl rfl (q_move rfl) ?_
  refine vq rfl rfl (q_move rfl) ?_
  refine ve rfl rfl (e_callF go141 rfl (bothB hp hw (by omega) hx hy hlx hly (fun F1 n1 l m z s1 g1 b1 bm l1 lm v1 ho1 => ?_)))
  refine vq rfl rfl (q_move rfl) ?_
  refine vq rfl rfl (q_extract rfl rfl) ?_
  refine vq rfl rfl (q_extract rfl rfl) ?_
  refine vq rfl rfl (q_assign rfl) ?_
  refine vq rfl rfl (q_assign rfl) ?_
  refine vendW ?_
  refine vc_seq ?_
  refine vc_regionW (qm 15) [0, 1, 2, 3] rfl rfl ?_
  refine vq rfl rfl (q_move rfl) ?_
  refine vq rfl rfl (q_move rfl) ?_
  refine vq rfl rfl (q_callF go139 rfl (fun s => gateN ⟨rfl, rfl⟩)) ?_
  refine vq rfl rfl (q_assign rfl) ?_
  refine vendW ?_
  refine vc_seq ?_
  refine vc_seq ?_
  refine vc_regionW (qm 7) [0, 1, 2] rfl rfl ?_
  refine vq rfl rfl (q_move rfl) ?_
  refine vq rfl rfl (q_len sl40 rfl (by rw [ho1.len, List.length_map])) ?_
  refine vq rfl rfl (q_move rfl) ?_
  refine vendW ?_
  refine vc_block ?_
  refine vc_loopS (α := LB) [10, 23, 24, 25, 26, 27, 28, 29, 30, 31, 32, 33, 34, 35, 36, 37, 38, 39] (fun a => [(23, .int (a.i : Int))]) (fun a => a.st) (fun a => ((a.i ≤ l.length ∧ a.l.length = l.length ∧ a.x = z) ∧ (∀ v, Mod v a.n → ∀ j, j < l.length → bv v (a.l.getD j default) = if j < a.i then gop k (bv v (l.getD j default)) (bv v (m.getD j default)) else bv v (l.getD j default))) ∧ LBok s p ins outs n1 a.i a) (fun a => l.length - a.i) ⟨0, z, l, F1, n1, s1⟩ ⟨⟨⟨by simp, rfl, rfl⟩, fun v _ j _ => by simp⟩, ⟨ho1, Gr.refl g1.wf _, b1⟩⟩ rfl ⟨rfl, trivial⟩ (fun _ => rfl) ?_
  intro a ⟨⟨⟨hai, hal, hax⟩, hv⟩, hok⟩
  refine vc_seq ?_
  refine vc_regionW (qm 1) [0] rfl rfl ?_
  refine vq rfl rfl (q_lt rfl rfl) ?_
  refine vendW ?_
  refine vc_seq ?_
  refine vc_condD rfl (fun hend => ?_) (fun hend => ?_)
  ·
    refine vc_skip ?_
    refine vc_seq ?_
    refine vc_block ?_
    refine vc_seq ?_
    refine vc_regionW (qm 3) [0, 1] rfl rfl ?_
    refine vq rfl rfl (q_move rfl) ?_
    refine vq rfl rfl (q_assign rfl) ?_
    refine vendW ?_
    have hil : a.i < l.length := by omega
    have hos := hok.ho
    obtain ⟨kr, hz, hcell⟩ := hos.pos (by rw [List.length_map]; omega)
    rw [List.length_map, hal] at hz
    have hax2 := hz
    rw [hax] at hz
    subst hz
    refine vc_regionDW mx (qm 858099707516326214372737599885174152158679412517913176174307932398192897924707006515319955082681819372162038923935107254640248499964580476571753536389388287) [0, 1, 2, 3, 4, 5, 6, 7, 8, 9, 10, 11, 12, 13] (by kernel_rfl) ?_
    refine vq rfl rfl (q_move rfl) ?_
    refine vq rfl rfl (q_move rfl) ?_
    refine vq rfl rfl (q_move rfl) ?_
    refine vq rfl rfl (q_move rfl) ?_
    refine vq rfl rfl (q_move rfl) ?_
    refine vq rfl rfl (q_indexH sl40 rfl rfl (by omega) (by omega)) ?_
    refine vr rfl rfl rfl (e_loadE sc3 rfl hcell (nthM (by omega)) rfl ⟨rfl, rfl⟩) ?_
    refine vq rfl rfl (q_move rfl) ?_
    refine vq rfl rfl (q_move rfl) ?_
    refine vq rfl rfl (q_index sl40 rfl rfl (by omega) (by first | exact nthI (by omega) | exact nthM (by omega))) ?_
    refine vq rfl rfl (q_load sc3 rfl) ?_
    refine ve rfl rfl (e_call (goG k) rfl rfl (gateC hok.hp hok.g.wf (by have h1 := hok.g.len; have h2 := g1.len; omega) (hok.bw.get (by omega)) ((bm.get (i := a.i) (by omega)).gr hok.g) (fun F2 n2 o g2 b2 v2 => ?_)))
    refine vq rfl rfl (q_indexH sl40 rfl rfl (by omega) (by omega)) ?_
    refine vn rfl rfl (e_storeE sz3 rfl rfl rfl (by have h := (hax2 ▸ hok.ho.put : OwnSt (upd s p (bld F2 n2 ins outs)) (.hdr kr 1 l.length) 3 1 (a.l.map eI) (upd a.st p (bld F2 n2 ins outs))); exact h.cell) (nthM (by omega)) rfl ?_)
    refine vendW ?_
    refine vc_regionW (qm 3) [0, 1] rfl rfl ?_
    refine vq rfl rfl (q_add rfl rfl (w64 (by omega))) ?_
    refine vq rfl rfl (q_move rfl) ?_
    refine vendW ?_
    have hst : ∀ v, Mod v n2 → ∀ j, j < l.length → bv v ((a.l.set a.i o).getD j default) = if j < a.i + 1 then gop k (bv v (l.getD j default)) (bv v (m.getD j default)) else bv v (l.getD j default) := fun v hm j hj => by
      by_cases e : j = a.i
      · subst e; rw [getD_setS (by omega), if_pos (by omega), v2 v hm]; rw [hv v (hm.gr g2) _ (by omega), if_neg (by omega)]; rfl
      · rw [getD_setN (fun h => e h.symm), hv v (hm.gr g2) j hj]; by_cases e2 : j < a.i
        · rw [if_pos e2, if_pos (by omega)]
        · rw [if_neg e2, if_neg (by omega)]
    refine ⟨⟨a.i + 1, a.x, a.l.set a.i o, F2, n2, upd (upd a.st p (bld F2 n2 ins outs)) kr (.arr 3 1 ((a.l.set a.i o).map eI))⟩, ⟨⟨⟨by simp only; omega, by simp only [List.length_set]; exact hal, hax⟩, hst⟩, ⟨by have h := (hax2 ▸ hok.ho.put : OwnSt (upd s p (bld F2 n2 ins outs)) (.hdr kr 1 l.length) 3 1 (a.l.map eI) (upd a.st p (bld F2 n2 ins outs))); rw [hax2]; exact h.set (by simp), hok.g.trans g2 (by simp), (hok.bw.gr g2).set b2 _⟩⟩, by simp only; omega, ?_, ⟨rfl, trivial⟩, (by rw [List.map_set]; rfl)⟩
    repeat (first | exact Same.refl | refine Same.upd rfl ?_ | refine Same.drop rfl ?_)
  refine vc_exit ?_
  refine vc_seq ?_
  refine vc_regionW (qm 3) [0, 1] rfl rfl ?_
  refine vq rfl rfl (q_move rfl) ?_
  refine vq rfl rfl (q_assign rfl) ?_
  refine vendW ?_
  refine vc_ret ?_
  have e : a.i = l.length := by omega
  subst hax
  exact ret1 rfl rfl hok.ho.le hok.ho.frz (hk _ _ a.l (g1.trans hok.g (by omega)) hok.bw (by omega) (fun v hm => wv_each v (v1 v (hm.gr hok.g)).1 (v1 v (hm.gr hok.g)).2 hal (by omega) (fun j hj => by rw [hv v hm j hj, if_pos (by omega)])))
theorem pickB {p : Nat} {F : List Nat} {nd : List Nd} {ins outs : List Pt} {s : St} {K : AV → St → Prop} (hp : s p = some (bld F nd ins outs)) (hw : WfB nd) (hn : nd.length + 3000 < 2^39) {x y : List Int} (hx : BW nd x) (hy : BW nd y) (hlx : x.length ≤ 1000) (hly : y.length ≤ 1000) {c : Int} (hc : B1 nd c) (hk : ∀ F2 n2 l, Gr nd n2 3000 → BW n2 l → l.length = max x.length y.length → (∀ v, Mod v n2 → wv v l = bif bv v c then wv v y else wv v x) → K (ints l) (upd s p (bld F2 n2 ins outs))) : CallsA Try.prog 105 [ptv p 0, ints x, ints y, .int c] s K := by
  refine callsA_of Try.func105 rfl rfl (Nat.le_of_ble_eq_true rfl) ?_
  refine vc_seq ?_
  refine vc_regionW (qm 1) [0] rfl rfl ?_
  refine vq rfl rfl (q_assign rfl) ?_
  refine vendW ?_
  refine vc_seq ?_
  refine vc_regionW (qm 503) [0, 1, 2, 3, 4, 5, 6, 7, 8] rfl rfl ?_
  refine vq rfl rfl (q_move rfl) ?_
  refine vq rfl rfl (q_move rfl) ?_
  refine vq rfl rfl (q_move rfl) ?_
  refine ve rfl rfl (e_callF go141 rfl (bothB hp hw (by omega) hx hy hlx hly (fun F1 n1 l m z s1 g1 b1 bm l1 lm v1 ho1 => ?_)))
  refine vq rfl rfl (q_move rfl) ?_
  refine vq rfl rfl (q_extract rfl rfl) ?_
  refine vq rfl rfl (q_extract rfl rfl) ?_
  refine vq rfl rfl (q_assign rfl) ?_
  refine vq rfl rfl (q_assign rfl) ?_
  refine vendW ?_
  refine vc_seq ?_
  refine vc_seq ?_
  refine vc_regionW (qm 7) [0, 1, 2] rfl rfl ?_
  refine vq rfl rfl (q_move rfl) ?_
  refine vq rfl rfl (q_len sl40 rfl (by rw [ho1.len, List.length_map])) ?_
  refine vq rfl rfl (q_move rfl) ?_
  refine vendW ?_
  refine vc_block ?_
  refine vc_loopS (α := LB) [9, 19, 20, 21, 22, 23, 24, 25, 26, 27, 28, 29, 30, 31, 32, 33, 34, 35, 36] (fun a => [(19, .int (a.i : Int))]) (fun a => a.st) (fun a => ((a.i ≤ l.length ∧ a.l.length = l.length ∧ a.x = z) ∧ (∀ v, Mod v a.n → ∀ j, j < l.length → bv v (a.l.getD j default) = if j < a.i then (bif bv v c then bv v (m.getD j default) else bv v (l.getD j default)) else bv v (l.getD j default))) ∧ LBok s p ins outs n1 a.i a) (fun a => l.length - a.i) ⟨0, z, l, F1, n1, s1⟩ ⟨⟨⟨by simp, rfl, rfl⟩, fun v _ j _ => by simp⟩, ⟨ho1, Gr.refl g1.wf _, b1⟩⟩ rfl ⟨rfl, trivial⟩ (fun _ => rfl) ?_
  intro a ⟨⟨⟨hai, hal, hax⟩, hv⟩, hok⟩
  refine vc_seq ?_
  refine vc_regionW (qm 1) [0] rfl rfl ?_
  refine vq rfl rfl (q_lt rfl rfl) ?_
  refine vendW ?_
  refine vc_seq ?_
  refine vc_condD rfl (fun hend => ?_) (fun hend => ?_)
  ·
    refine vc_skip ?_
    refine vc_seq ?_
    refine vc_block ?_
    refine vc_seq ?_
    refine vc_regionW (qm 3) [0, 1] rfl rfl ?_
    refine vq rfl rfl (q_move rfl) ?_
    refine vq rfl rfl (q_assign rfl) ?_
    refine vendW ?_
    have hil : a.i < l.length := by omega
    have hos := hok.ho
    obtain ⟨kr, hz, hcell⟩ := hos.pos (by rw [List.length_map]; omega)
    rw [List.length_map, hal] at hz
    have hax2 := hz
    rw [hax] at hz
    subst hz
    refine vc_regionDW mx (qm 858099707516326214372737599885174152158679412517913176174307932398192897924707006515319955082681819372162038923935107254640248499964580476571753536389394431) [0, 1, 2, 3, 4, 5, 6, 7, 8, 9, 10, 11, 12, 13, 14] (by kernel_rfl) ?_
    refine vq rfl rfl (q_move rfl) ?_
    refine vq rfl rfl (q_move rfl) ?_
    refine vq rfl rfl (q_move rfl) ?_
    refine vq rfl rfl (q_move rfl) ?_
    refine vq rfl rfl (q_move rfl) ?_
    refine vq rfl rfl (q_indexH sl40 rfl rfl (by omega) (by omega)) ?_
    refine vr rfl rfl rfl (e_loadE sc3 rfl hcell (nthM (by omega)) rfl ⟨rfl, rfl⟩) ?_
    refine vq rfl rfl (q_move rfl) ?_
    refine vq rfl rfl (q_move rfl) ?_
    refine vq rfl rfl (q_index sl40 rfl rfl (by omega) (by first | exact nthI (by omega) | exact nthM (by omega))) ?_
    refine vq rfl rfl (q_load sc3 rfl) ?_
    refine vq rfl rfl (q_move rfl) ?_
    refine ve rfl rfl (e_callF go154 rfl (muxB hok.hp hok.g.wf (by have h1 := hok.g.len; have h2 := g1.len; omega) (hok.bw.get (by omega)) ((bm.get (i := a.i) (by omega)).gr hok.g) ((hc.gr g1).gr hok.g) (fun F2 n2 o g2 b2 v2 => ?_)))
    refine vq rfl rfl (q_indexH sl40 rfl rfl (by omega) (by omega)) ?_
    refine vn rfl rfl (e_storeE sz3 rfl rfl rfl (by have h := (hax2 ▸ hok.ho.put : OwnSt (upd s p (bld F2 n2 ins outs)) (.hdr kr 1 l.length) 3 1 (a.l.map eI) (upd a.st p (bld F2 n2 ins outs))); exact h.cell) (nthM (by omega)) rfl ?_)
    refine vendW ?_
    refine vc_regionW (qm 3) [0, 1] rfl rfl ?_
    refine vq rfl rfl (q_add rfl rfl (w64 (by omega))) ?_
    refine vq rfl rfl (q_move rfl) ?_
    refine vendW ?_
    have hst : ∀ v, Mod v n2 → ∀ j, j < l.length → bv v ((a.l.set a.i o).getD j default) = if j < a.i + 1 then (bif bv v c then bv v (m.getD j default) else bv v (l.getD j default)) else bv v (l.getD j default) := fun v hm j hj => by
      by_cases e : j = a.i
      · subst e; rw [getD_setS (by omega), if_pos (by omega), v2 v hm]; rw [hv v (hm.gr g2) _ (by omega), if_neg (by omega)]; rfl
      · rw [getD_setN (fun h => e h.symm), hv v (hm.gr g2) j hj]; by_cases e2 : j < a.i
        · rw [if_pos e2, if_pos (by omega)]
        · rw [if_neg e2, if_neg (by omega)]
    refine ⟨⟨a.i + 1, a.x, a.l.set a.i o, F2, n2, upd (upd a.st p (bld F2 n2 ins outs)) kr (.arr 3 1 ((a.l.set a.i o).map eI))⟩, ⟨⟨⟨by simp only; omega, by simp only [List.length_set]; exact hal, hax⟩, hst⟩, ⟨by have h := (hax2 ▸ hok.ho.put : OwnSt (upd s p (bld F2 n2 ins outs)) (.hdr kr 1 l.length) 3 1 (a.l.map eI) (upd a.st p (bld F2 n2 ins outs))); rw [hax2]; exact h.set (by simp), hok.g.trans g2 (by simp), (hok.bw.gr g2).set b2 _⟩⟩, by simp only; omega, ?_, ⟨rfl, trivial⟩, (by rw [List.map_set]; rfl)⟩
    repeat (first | exact Same.refl | refine Same.upd rfl ?_ | refine Same.drop rfl ?_)
  refine vc_exit ?_
  refine vc_seq ?_
  refine vc_regionW (qm 3) [0, 1] rfl rfl ?_
  refine vq rfl rfl (q_move rfl) ?_
  refine vq rfl rfl (q_assign rfl) ?_
  refine vendW ?_
  refine vc_ret ?_
  have e : a.i = l.length := by omega
  subst hax
  exact ret1 rfl rfl hok.ho.le hok.ho.frz (hk _ _ a.l (g1.trans hok.g (by omega)) hok.bw (by omega) (fun v hm => by
    have h1 := v1 v (hm.gr hok.g)
    cases hc1 : bv v c
    · rw [cond_false, ← h1.1]; exact wv_congr v hal (fun j hj => by rw [hv v hm j hj, if_pos (by omega), hc1, cond_false])
    · rw [cond_true, ← h1.2]; exact wv_congr v (by omega) (fun j hj => by rw [hv v hm j (by omega), if_pos (by omega), hc1, cond_true])))
theorem notsB {p : Nat} {F : List Nat} {nd : List Nd} {ins outs : List Pt} {s : St} {K : AV → St → Prop} (hp : s p = some (bld F nd ins outs)) (hw : WfB nd) (hn : nd.length + 1000 < 2^39) {x : List Int} (hx : BW nd x) (hlx : x.length ≤ 1000) (hk : ∀ F2 n2 l, Gr nd n2 1000 → BW n2 l → l.length = x.length → (∀ v, Mod v n2 → wv v l + wv v x + 1 = 2 ^ x.length) → K (ints l) (upd s p (bld F2 n2 ins outs))) : CallsA Try.prog 176 [ptv p 0, ints x] s K := by
  refine callsA_of Try.func176 rfl rfl (Nat.le_of_ble_eq_true rfl) ?_
  refine vc_seq ?_
  refine vc_regionW (qm 1) [0] rfl rfl ?_
  refine vq rfl rfl (q_assign rfl) ?_
  refine vendW ?_
  refine vc_seq ?_
  refine vc_regionW (qm 1) [0] rfl rfl ?_
  refine vq rfl rfl (q_assign rfl) ?_
  refine vendW ?_
  refine vc_seq ?_
  refine vc_seq ?_
  refine vc_regionW (qm 7) [0, 1, 2] rfl rfl ?_
  refine vq rfl rfl (q_move rfl) ?_
  refine vq rfl rfl (q_len sl40 rfl (by first | exact lenM | rfl)) ?_
  refine vq rfl rfl (q_move rfl) ?_
  refine vendW ?_
  refine vc_block ?_
  refine vc_loopS (α := LB) [5, 7, 10, 11, 12, 13, 14, 15, 16, 17, 18, 19, 20] (fun a => [(10, .int (a.i : Int)), (5, a.x)]) (fun a => a.st) (fun a => ((a.i ≤ x.length ∧ a.l.length = a.i) ∧ (∀ v, Mod v a.n → ∀ j, j < a.i → bv v (a.l.getD j default) = !bv v (x.getD j default))) ∧ LBok s p ins outs nd a.i a) (fun a => x.length - a.i) ⟨0, nilS, [], F, nd, s⟩ ⟨⟨⟨by simp, rfl⟩, fun v _ j hj => by simp at hj⟩, ⟨by rw [upd_self _ _ _ hp]; exact OwnSt.nil _ _ _, Gr.refl hw _, BW.nil⟩⟩ rfl ⟨rfl, rfl, trivial⟩ (fun _ => rfl) ?_
  intro a ⟨⟨⟨hai, hal⟩, hv⟩, hok⟩
  refine vc_seq ?_
  refine vc_regionW (qm 1) [0] rfl rfl ?_
  refine vq rfl rfl (q_lt rfl rfl) ?_
  refine vendW ?_
  refine vc_seq ?_
  refine vc_condD rfl (fun hend => ?_) (fun hend => ?_)
  ·
    refine vc_skip ?_
    refine vc_seq ?_
    refine vc_block ?_
    refine vc_seq ?_
    refine vc_regionW (qm 7) [0, 1, 2] rfl rfl ?_
    refine vq rfl rfl (q_index sl40 rfl rfl (by omega) (by first | exact nthI (by omega) | exact nthM (by omega))) ?_
    refine vq rfl rfl (q_load sc3 rfl) ?_
    refine vq rfl rfl (q_assign rfl) ?_
    refine vendW ?_
    refine vc_regionW (qm 87) [0, 1, 2, 3, 4, 5, 6] rfl rfl ?_
    refine vq rfl rfl (q_move rfl) ?_
    refine vq rfl rfl (q_move rfl) ?_
    refine vq rfl rfl (q_move rfl) ?_
    refine ve rfl rfl (e_callF go89 rfl (notB hok.hp hok.g.wf (by have := hok.g.len; omega) ((hx.get (i := a.i) (by omega)).gr hok.g) (fun F2 n2 o g2 b2 v2 => ?_)))
    refine vq rfl rfl (q_buildS sl40 zo3 (by decide) rfl rfl rfl rfl (by decide)) ?_
    refine ve rfl rfl (e_append sl40 zo3 rfl rfl hok.ho.put (SrcOK.slx 1 _) (rowsC1_one rfl) (by simp [maxLen_eq]; omega) (fun x3 s3 ho3 => ?_))
    refine vq rfl rfl (q_assign rfl) ?_
    refine vendW ?_
    refine vc_regionW (qm 3) [0, 1] rfl rfl ?_
    refine vq rfl rfl (q_add rfl rfl (w64 (by omega))) ?_
    refine vq rfl rfl (q_move rfl) ?_
    refine vendW ?_
    have hst : ∀ v, Mod v n2 → ∀ j, j < a.i + 1 → bv v ((a.l ++ [o]).getD j default) = !bv v (x.getD j default) := fun v hm j hj => by
      by_cases e : j = a.i
      · subst e; rw [← hal, getD_end, v2 v hm]; rw [hal]
      · rw [getD_front (by omega), hv v (hm.gr g2) j (by omega)]
    refine ⟨⟨a.i + 1, x3, a.l ++ [o], F2, n2, s3⟩, ⟨⟨⟨by simp only; omega, by simp only [List.length_append, List.length_singleton]; omega⟩, hst⟩, ⟨by rw [List.map_append]; exact ho3, hok.g.trans g2 (by simp), (hok.bw.gr g2).app (BW.one b2)⟩⟩, by simp only; omega, ?_, ⟨rfl, rfl, trivial⟩, rfl⟩
    repeat (first | exact Same.refl | refine Same.upd rfl ?_ | refine Same.drop rfl ?_)
  refine vc_exit ?_
  refine vc_seq ?_
  refine vc_regionW (qm 3) [0, 1] rfl rfl ?_
  refine vq rfl rfl (q_move rfl) ?_
  refine vq rfl rfl (q_assign rfl) ?_
  refine vendW ?_
  refine vc_ret ?_
  have e : a.i = x.length := by omega
  exact ret1 rfl rfl hok.ho.le hok.ho.frz (hk _ _ a.l (hok.g.le (by omega)) hok.bw (by omega) (fun v hm => wv_nots v (by omega) (fun j hj => hv v hm j (by omega))))
theorem wordB {p : Nat} {F : List Nat} {nd : List Nd} {ins outs : List Pt} {s : St} {K : AV → St → Prop} (hp : s p = some (bld F nd ins outs)) (hw : WfB nd) (hn : nd.length + 1000 < 2^39) {n : List Int} {w : Nat} (hl : n.length < 2^60) (hu : U32 n) (hwl : w ≤ 1000) (hk : ∀ F2 n2 l y s1, Gr nd n2 1000 → BW n2 l → l.length = w → (∀ v, Mod v n2 → ∀ j, j < w → bv v (l.getD j default) = !decide (natBit n j = 0)) → OwnSt (upd s p (bld F2 n2 ins outs)) y 3 1 (l.map eI) s1 → K y s1) : CallsA Try.prog 155 [ptv p 0, natA n, .int (w : Int)] s K := by
  refine callsA_of Try.func155 rfl rfl (Nat.le_of_ble_eq_true rfl) ?_
  refine vc_seq ?_
  refine vc_regionW (qm 1) [0] rfl rfl ?_
  refine vq rfl rfl (q_assign rfl) ?_
  refine vendW ?_
  refine vc_seq ?_
  refine vc_regionW (qm 1) [0] rfl rfl ?_
  refine vq rfl rfl (q_assign rfl) ?_
  refine vendW ?_
  refine vc_seq ?_
  refine vc_seq ?_
  refine vc_regionW (qm 7) [0, 1, 2] rfl rfl ?_
  refine vq rfl rfl (q_move rfl) ?_
  refine vq rfl rfl (q_max0 rfl rfl) ?_
  refine vq rfl rfl (q_move rfl) ?_
  refine vendW ?_
  refine vc_block ?_
  refine vc_loopS (α := LB) [7, 8, 11, 12, 13, 14, 15, 16, 17, 18, 19, 20, 21, 22] (fun a => [(11, .int (a.i : Int)), (7, a.x)]) (fun a => a.st) (fun a => ((a.i ≤ w ∧ a.l.length = a.i) ∧ (∀ v, Mod v a.n → ∀ j, j < a.i → bv v (a.l.getD j default) = !decide (natBit n j = 0))) ∧ LBok s p ins outs nd a.i a) (fun a => w - a.i) ⟨0, nilS, [], F, nd, s⟩ ⟨⟨⟨by simp, rfl⟩, fun v _ j hj => by simp at hj⟩, ⟨by rw [upd_self _ _ _ hp]; exact OwnSt.nil _ _ _, Gr.refl hw _, BW.nil⟩⟩ rfl ⟨rfl, rfl, trivial⟩ (fun _ => rfl) ?_
  intro a ⟨⟨⟨hai, hal⟩, hv⟩, hok⟩
  refine vc_seq ?_
  refine vc_regionW (qm 1) [0] rfl rfl ?_
  refine vq rfl rfl (q_lt rfl rfl) ?_
  refine vendW ?_
  refine vc_seq ?_
  refine vc_condD rfl (fun hend => ?_) (fun hend => ?_)
  ·
    refine vc_skip ?_
    refine vc_seq ?_
    refine vc_block ?_
    refine vc_seq ?_
    refine vc_regionW (qm 3) [0, 1] rfl rfl ?_
    refine vq rfl rfl (q_move rfl) ?_
    refine vq rfl rfl (q_assign rfl) ?_
    refine vendW ?_
    refine vc_regionW (qm 351) [0, 1, 2, 3, 4, 5, 6, 7, 8] rfl rfl ?_
    refine vq rfl rfl (q_move rfl) ?_
    refine vq rfl rfl (q_move rfl) ?_
    refine vq rfl rfl (q_move rfl) ?_
    refine vq rfl rfl (q_move rfl) ?_
    refine vq rfl rfl (q_callF go81 rfl (fun s => bit (l := n) (i := a.i) hl hu (by omega) ⟨rfl, rfl⟩)) ?_
    refine ve rfl rfl (e_callF go56 rfl (bitB (b := natBit n a.i) hok.hp hok.g.wf (by have := hok.g.len; omega) (fun F2 n2 o g2 b2 v2 => ?_)))
    refine vq rfl rfl (q_buildS sl40 zo3 (by decide) rfl rfl rfl rfl (by decide)) ?_
    refine ve rfl rfl (e_append sl40 zo3 rfl rfl hok.ho.put (SrcOK.slx 1 _) (rowsC1_one rfl) (by simp [maxLen_eq]; omega) (fun x3 s3 ho3 => ?_))
    refine vq rfl rfl (q_assign rfl) ?_
    refine vendW ?_
    refine vc_regionW (qm 3) [0, 1] rfl rfl ?_
    refine vq rfl rfl (q_add rfl rfl (w64 (by omega))) ?_
    refine vq rfl rfl (q_move rfl) ?_
    refine vendW ?_
    have hst : ∀ v, Mod v n2 → ∀ j, j < a.i + 1 → bv v ((a.l ++ [o]).getD j default) = !decide (natBit n j = 0) := fun v hm j hj => by
      by_cases e : j = a.i
      · subst e; rw [← hal, getD_end, v2 v hm]; rw [hal]
      · rw [getD_front (by omega), hv v (hm.gr g2) j (by omega)]
    refine ⟨⟨a.i + 1, x3, a.l ++ [o], F2, n2, s3⟩, ⟨⟨⟨by simp only; omega, by simp only [List.length_append, List.length_singleton]; omega⟩, hst⟩, ⟨by rw [List.map_append]; exact ho3, hok.g.trans g2 (by simp), (hok.bw.gr g2).app (BW.one b2)⟩⟩, by simp only; omega, ?_, ⟨rfl, rfl, trivial⟩, rfl⟩
    repeat (first | exact Same.refl | refine Same.upd rfl ?_ | refine Same.drop rfl ?_)
  refine vc_exit ?_
  refine vc_seq ?_
  refine vc_regionW (qm 3) [0, 1] rfl rfl ?_
  refine vq rfl rfl (q_move rfl) ?_
  refine vq rfl rfl (q_assign rfl) ?_
  refine vendW ?_
  refine vc_ret ?_
  have e : a.i = w := by omega
  exact ret1 rfl rfl (Le.refl _) (Cv.le (Le.refl _) _) (hk _ _ a.l _ _ (hok.g.le (by omega)) hok.bw (by omega) (fun v hm j hj => hv v hm j (by omega)) hok.ho)
end Go.Proofs.Ytpcpdepfnoijoaa

set_option linter.unusedVariables false
set_option linter.unusedSimpArgs false
set_option maxRecDepth 100000
namespace Go.Proofs.Ytpcpdepfnoijoaa
open Go.Vc
theorem chunkN {l : List Int} {s : St} {K : AV → St → Prop} (hk : K (.clo 174 [] [.box [ints l], .box [.int 2]]) s) : CallsA Try.prog 140 [ints l, .int 2] s K := by
  refine callsA_of Try.func140 rfl rfl (Nat.le_of_ble_eq_true rfl) ?_
  refine vc_seq ?_
  refine vc_regionW (qm 7) [0, 1, 2] rfl rfl ?_
  refine vq rfl rfl (q_box rfl rfl) ?_
  refine vq rfl rfl (q_box rfl rfl) ?_
  refine vq rfl rfl (q_assign rfl) ?_
  refine vendW ?_
  refine vc_seq ?_
  refine vc_seq ?_
  refine vc_regionW (qm 3) [0, 1] rfl rfl ?_
  refine vq rfl rfl (q_load sc3 rfl) ?_
  refine vq rfl rfl (q_lt rfl rfl) ?_
  refine vendW ?_
  refine vc_condF rfl (by first | (simp; done) | (simp; omega) | simp_all) ?_
  refine vc_skip ?_
  refine vc_seq ?_
  refine vc_regionW (qm 3) [0, 1] rfl rfl ?_
  refine vq rfl rfl (q_makeFunc rfl rfl) ?_
  refine vq rfl rfl (q_assign rfl) ?_
  refine vendW ?_
  refine vc_ret ?_
  exact ret1 rfl rfl (Le.refl _) (Cv.le (Le.refl _) _) hk
theorem chunkY {yl : Nat} {vals : List Value} {ctx : List AV} {xs : List Int} {J : Nat → St → Prop} {s : St} (hl : xs.length < 2^40) (hy : ∀ i st, J i st → 2 * i < xs.length → YldA Try.prog yl vals ctx [.slx 1 (((xs.drop (2 * i)).take 2).map eI)] st (fun r s2 => r = .bool true ∧ J (i + 1) s2)) (h0 : J 0 s) : CallsA Try.prog 174 [.yld yl vals ctx, .box [ints xs], .box [.int 2]] s (fun _ s2 => J ((xs.length + 1) / 2) s2) := by
  refine callsA_of Try.func174 rfl rfl (Nat.le_of_ble_eq_true rfl) ?_
  refine vc_seq ?_
  refine vc_regionW (qm 1) [0] rfl rfl ?_
  refine vq rfl rfl (q_assign rfl) ?_
  refine vendW ?_
  refine vc_block ?_
  refine vc_loopS (α := Nat × St) [4, 5, 6, 7, 8, 9, 10, 11, 12, 13, 14, 15, 16, 17, 18, 19, 20, 21, 22, 23, 24, 25, 26, 27, 28, 29, 30] (fun a => [(4, .int (2 * a.1 : Int))]) (fun a => a.2) (fun a => a.1 ≤ (xs.length + 1) / 2 ∧ J a.1 a.2) (fun a => (xs.length + 1) / 2 - a.1) (0, s) ⟨by simp, h0⟩ rfl ⟨rfl, trivial⟩ (fun _ => rfl) ?_
  intro ⟨i, st⟩ ⟨hi, hJ⟩
  simp only at hi hJ ⊢
  refine vc_seq ?_
  refine vc_seq ?_
  refine vc_regionW (qm 15) [0, 1, 2, 3] rfl rfl ?_
  refine vq rfl rfl (q_move rfl) ?_
  refine vq rfl rfl (q_load sc40 rfl) ?_
  refine vq rfl rfl (q_len sl40 rfl (by first | exact lenM | rfl)) ?_
  refine vq rfl rfl (q_lt rfl rfl) ?_
  refine vendW ?_
  refine vc_condD rfl (fun h9 => ?_) (fun h9 => ?_)
  ·
    refine vc_skip ?_
    refine vc_seq ?_
    refine vc_block ?_
    refine vc_seq ?_
    refine vc_regionDW mx (qm 127) [0, 1, 2, 3, 4, 5, 6] (by kernel_rfl) ?_
    refine vq rfl rfl (q_load sc3 rfl) ?_
    refine vq rfl rfl (q_load sc40 rfl) ?_
    refine vq rfl rfl (q_move rfl) ?_
    refine vq rfl rfl (q_sliceM (f := eI) (xs := xs) (2 * i) xs.length sl40 rfl rfl rfl (by omega) (by simp) (by omega)) ?_
    refine vq rfl rfl (q_len sl40 rfl (by first | exact lenM | rfl)) ?_
    refine vq rfl rfl (q_min rfl rfl) ?_
    refine vq rfl rfl (q_assign rfl) ?_
    refine vendW ?_
    refine vc_seq ?_
    refine vc_regionW (qm 3071) [0, 1, 2, 3, 4, 5, 6, 7, 8, 9, 10, 11] rfl rfl ?_
    refine vq rfl rfl (q_move rfl) ?_
    refine vq rfl rfl (q_load sc40 rfl) ?_
    refine vq rfl rfl (q_move rfl) ?_
    refine vq rfl rfl (q_move rfl) ?_
    refine vq rfl rfl (q_move rfl) ?_
    refine vq rfl rfl (q_add rfl rfl (w64 (by simp; omega))) ?_
    refine vq rfl rfl (q_move rfl) ?_
    refine vq rfl rfl (q_move rfl) ?_
    refine vq rfl rfl (q_add rfl rfl (w64 (by simp; omega))) ?_
    refine vq rfl rfl (q_slice3M (f := eI) (xs := xs) (2 * i) (min (2 * i + 2) xs.length) sl40 rfl rfl rfl rfl (by omega) (by simp; omega) (by omega)) ?_
    refine ve rfl rfl (e_yield rfl rfl (YldA.mono (by rw [chunk_eq]; exact hy i st hJ (by omega)) (fun r st2 h => ?_)))
    obtain ⟨rfl, hJ2⟩ := h
    refine vq rfl rfl (q_not rfl) ?_
    refine vendW ?_
    refine vc_condF rfl rfl ?_
    refine vc_skip ?_
    refine vc_regionW (qm 15) [0, 1, 2, 3] rfl rfl ?_
    refine vq rfl rfl (q_move rfl) ?_
    refine vq rfl rfl (q_load sc3 rfl) ?_
    refine vq rfl rfl (q_add rfl rfl (w64 (by omega))) ?_
    refine vq rfl rfl (q_assign rfl) ?_
    refine vendW ?_
    refine ⟨(i + 1, st2), ⟨by simp only; omega, hJ2⟩, by simp only; omega, ?_, ⟨(congrArg (fun z : Int => some (AV.int z)) (by push_cast; omega)), trivial⟩, rfl⟩
    repeat (first | exact Same.refl | refine Same.upd rfl ?_ | refine Same.drop rfl ?_)
  refine vc_exit ?_
  have e : i = (xs.length + 1) / 2 := by omega
  subst e
  exact ret0 rfl (Le.refl _) hJ
theorem foldB {p : Nat} {F : List Nat} {nd : List Nd} {ins outs : List Pt} {s : St} {K : AV → St → Prop} (hp : s p = some (bld F nd ins outs)) (hw : WfB nd) (hn : nd.length + 1000 < 2^39) {k : Int} {x : List Int} (hx : BW nd x) (hlx : x.length ≤ 1000) (hk : ∀ F2 n2 o, Gr nd n2 1000 → B1 n2 o → (∀ v, Mod v n2 → bv v o = gall k v x) → K (.int o) (upd s p (bld F2 n2 ins outs))) : CallsA Try.prog 90 [ptv p 0, .int k, ints x] s K := by
  refine callsA_of Try.func90 rfl rfl (Nat.le_of_ble_eq_true rfl) ?_
  refine vc_seq ?_
  refine vc_regionW (qm 1) [0] rfl rfl ?_
  refine vq rfl rfl (q_assign rfl) ?_
  refine vendW ?_
  refine vc_seq ?_
  refine vc_seq ?_
  refine vc_regionW (qm 7) [0, 1, 2] rfl rfl ?_
  refine vq rfl rfl (q_move rfl) ?_
  refine vq rfl rfl (q_len sl40 rfl (by first | exact lenM | rfl)) ?_
  refine vq rfl rfl (q_eq rfl rfl) ?_
  refine vendW ?_
  refine vc_condD rfl (fun h14 => ?_) (fun h14 => ?_)
  ·
    refine vc_seq ?_
    refine vc_regionW (qm 1) [0] rfl rfl ?_
    refine vq rfl rfl (q_assign rfl) ?_
    refine vendW ?_
    refine vc_seq ?_
    refine vc_seq ?_
    refine vc_regionW (qm 3) [0, 1] rfl rfl ?_
    refine vq rfl rfl (q_move rfl) ?_
    refine vq rfl rfl (q_eq rfl rfl) ?_
    refine vendW ?_
    refine vc_condD rfl (fun h16 => ?_) (fun h16 => ?_)
    ·
      refine vc_regionW (qm 1) [0] rfl rfl ?_
      refine vq rfl rfl (q_assign rfl) ?_
      refine vendW ?_
      refine vc_seq ?_
      refine vc_regionW (qm 11) [0, 1, 2, 3] rfl rfl ?_
      refine vq rfl rfl (q_move rfl) ?_
      refine vq rfl rfl (q_move rfl) ?_
      refine ve rfl rfl (e_callF go56 rfl (bitB hp hw (by omega) (fun F2 n2 o g2 b2 v2 => ?_)))
      refine vq rfl rfl (q_assign rfl) ?_
      refine vendW ?_
      refine vc_ret ?_
      have e : x = [] := List.length_eq_zero_iff.1 (by omega)
      subst e
      exact ret1 rfl rfl (Le.refl _) (Cv.le (Le.refl _) _) (hk F2 n2 _ (g2.le (by omega)) b2 (fun v hv => by rw [v2 v hv]; simp [gall, h16]))
    refine vc_skip ?_
    refine vc_seq ?_
    refine vc_regionW (qm 11) [0, 1, 2, 3] rfl rfl ?_
    refine vq rfl rfl (q_move rfl) ?_
    refine vq rfl rfl (q_move rfl) ?_
    refine ve rfl rfl (e_callF go56 rfl (bitB hp hw (by omega) (fun F2 n2 o g2 b2 v2 => ?_)))
    refine vq rfl rfl (q_assign rfl) ?_
    refine vendW ?_
    refine vc_ret ?_
    have e : x = [] := List.length_eq_zero_iff.1 (by omega)
    subst e
    exact ret1 rfl rfl (Le.refl _) (Cv.le (Le.refl _) _) (hk F2 n2 _ (g2.le (by omega)) b2 (fun v hv => by rw [v2 v hv]; simp [gall, h16]))
  refine vc_skip ?_
  refine vc_seq ?_
  refine vc_regionW (qm 7) [0, 1, 2, 3, 4] rfl rfl ?_
  refine vq rfl rfl (q_move rfl) ?_
  refine vq rfl rfl (q_move rfl) ?_
  refine vq rfl rfl (q_callF go139 rfl (fun s => gateN ⟨rfl, rfl⟩)) ?_
  refine ve rfl rfl (e_alloc zr160 (fun k8 hk8 => ?_))
  refine vn rfl rfl (e_store sz160 rfl rfl rfl (upd_same _ _ _) rfl ?_)
  refine vendW ?_
  refine vc_frzC (i := 8) hk8 (upd_upd _ _ _ _) rfl ?_
  refine vc_seq ?_
  refine vc_regionW (qm 7) [0, 1, 2] rfl rfl ?_
  refine vq rfl rfl (q_move rfl) ?_
  refine vq rfl rfl (q_callF go54 rfl (fun s => cloneI (l := x) (by omega) ⟨rfl, rfl⟩)) ?_
  refine vq rfl rfl (q_assign rfl) ?_
  refine vendW ?_
  refine vc_block ?_
  refine vc_loopS (α := List Int × List Nat × List Nd) [6, 9, 10, 11, 25, 26, 27, 28, 29, 30, 31, 32, 34, 35, 36, 37, 38, 39, 40, 41, 42, 43, 44, 45, 46, 47, 48, 49, 50, 51, 52] (fun a => [(9, ints a.1)]) (fun a => upd s p (bld a.2.1 a.2.2 ins outs)) (fun a => (1 ≤ a.1.length ∧ a.1.length ≤ x.length) ∧ Gr nd a.2.2 (x.length - a.1.length) ∧ BW a.2.2 a.1 ∧ (∀ v, Mod v a.2.2 → gall k v a.1 = gall k v x)) (fun a => a.1.length) (x, F, nd) ⟨⟨by simp only; omega, Nat.le_refl _⟩, Gr.refl hw _, hx, fun v _ => rfl⟩ (upd_self _ _ _ hp).symm ⟨rfl, trivial⟩ (fun _ => rfl) ?_
  intro ⟨l, F1, n1⟩ ⟨⟨hl1, hl2⟩, hg, hbw, hgv⟩
  simp only at hl1 hl2 hg hbw hgv ⊢
  refine vc_block ?_
  refine vc_seq ?_
  refine vc_seq ?_
  refine vc_regionW (qm 7) [0, 1, 2] rfl rfl ?_
  refine vq rfl rfl (q_move rfl) ?_
  refine vq rfl rfl (q_len sl40 rfl (by first | exact lenM | rfl)) ?_
  refine vq rfl rfl (q_eq rfl rfl) ?_
  refine vendW ?_
  refine vc_condD rfl (fun h27 => ?_) (fun h27 => ?_)
  ·
    refine vc_seq ?_
    refine vc_regionW (qm 15) [0, 1, 2, 3] rfl rfl ?_
    refine vq rfl rfl (q_move rfl) ?_
    refine vq rfl rfl (q_index sl40 rfl rfl (by omega) (by first | exact nthI (by omega) | exact nthM (by omega))) ?_
    refine vq rfl rfl (q_load sc3 rfl) ?_
    refine vq rfl rfl (q_assign rfl) ?_
    refine vendW ?_
    refine vc_ret ?_
    exact ret1 rfl rfl (Le.refl _) (Cv.le (Le.refl _) _) (hk F1 n1 _ (hg.le (by omega)) (hbw.get (by omega)) (fun v hv => by rw [← hgv v hv, gall_len1 k v (by omega)]; rfl))
  refine vc_skip ?_
  refine vc_seq ?_
  refine vc_regionW (qm 0) [0] rfl rfl ?_
  refine ve rfl rfl (e_allocO (e := 3) (sz := 1) zr40 (fun k10 hk10 => ?_))
  refine vendW ?_
  have hkp : k10 ≠ p := fun e => by subst e; rw [upd_same] at hk10; cases hk10
  refine vc_seq ?_
  refine vc_seq ?_
  refine vc_regionW (qm 3) [0, 1] rfl rfl ?_
  refine vq rfl rfl (q_move rfl) ?_
  refine vq rfl rfl (q_callF go140 rfl (fun s => chunkN (l := l) ⟨rfl, rfl⟩)) ?_
  refine vendW ?_
  refine vc_openAt (l := []) (upd_same _ _ _) (fun x4 F4 s4 ho4 => ?_)
  rw [upd_upd] at ho4
  refine vc_block ?_
  refine vc_rangeFunc (fun i st => ∃ F2 n2 F3 x2, ∃ m : List Int, OwnSt (upd (upd s p (bld F2 n2 ins outs)) k10 (.obj F3 ([] ++ OV.a x2 :: []))) x2 3 1 (m.map eI) st ∧ m.length = i ∧ Gr n1 n2 (min i (l.length / 2)) ∧ BW n2 m ∧ (∀ v, Mod v n2 → gall k v m = gall k v (l.take (2 * i)))) (fun i xs => 2 * i < l.length ∧ xs = [.slx 1 (((l.drop (2 * i)).take 2).map eI)]) ((l.length + 1) / 2) go174 rfl rfl ⟨F1, n1, F4, x4, [], ho4, rfl, Gr.refl hg.wf _, BW.nil, fun v _ => by simp⟩ (fun i xs h => by rw [h.2]; rfl) ?_ ?_ ?_
  · intro i xs st hJ hok
    obtain ⟨F2, n2, F3, x2, m, ho, hm, g2, bm, vm⟩ := hJ
    obtain ⟨hi, rfl⟩ := hok
    obtain ⟨c, hc⟩ : ∃ c, c = (l.drop (2 * i)).take 2 := ⟨_, rfl⟩
    rw [← hc]
    have hcl : c.length = min 2 (l.length - 2 * i) := by rw [hc]; simp
    have hcw : BW n2 c := by rw [hc]; exact ((hbw.gr g2).drop _).take _
    refine vc_regionW (qm 1) [0] rfl rfl ?_
    refine vq rfl rfl (q_assign rfl) ?_
    refine vendW ?_
    show VC _ _ _ _ _ _
    refine vc_block ?_
    refine vc_seq ?_
    refine vc_seq ?_
    refine vc_regionW (qm 7) [0, 1, 2] rfl rfl ?_
    refine vq rfl rfl (q_move rfl) ?_
    refine vq rfl rfl (q_len sl40 rfl lenMx) ?_
    refine vq rfl rfl (q_eq rfl rfl) ?_
    refine vendW ?_
    refine vc_condD rfl (fun h36 => ?_) (fun h36 => ?_)
    ·
      refine vc_regionDW mx (qm 895) [0, 1, 2, 3, 4, 5, 6, 7, 8, 9] (by kernel_rfl) ?_
      refine vq rfl rfl (q_load sc160 rfl) ?_
      refine vq rfl rfl (q_move rfl) ?_
      refine vq rfl rfl (q_indexX sl40 rfl rfl (by omega) (by first | exact nthM (by omega) | rfl)) ?_
      refine vq rfl rfl (q_load sc3 rfl) ?_
      refine vq rfl rfl (q_move rfl) ?_
      refine vq rfl rfl (q_indexX sl40 rfl rfl (by omega) (by first | exact nthM (by omega) | rfl)) ?_
      refine vq rfl rfl (q_load sc3 rfl) ?_
      refine ve rfl rfl (e_call (goG k) rfl rfl (gateC (ho.get (by rw [upd_ne _ _ (Ne.symm hkp)]; exact upd_same _ _ _)) g2.wf (by have h1 := hg.len; have h2 := g2.len; omega) (hcw.get (by omega)) (hcw.get (by omega)) (fun F4 n4 o g4 b4 v4 => ?_)))
      refine vq rfl rfl (q_buildS sl40 zo3 (by decide) rfl rfl rfl rfl (by decide)) ?_
      refine vq rfl rfl (q_assign rfl) ?_
      refine vendW ?_
      have hoB := ho.over (r := bld F4 n4 ins outs) hkp
      have ho := hoB
      refine vc_regionDW mx (qm 13407807929942597099574024998205846127479365820592393377723561443721764030073546976801874298166903427690031858186486050853753882811946569946433649006084127) [0, 1, 2, 3, 4, 5, 6] (by kernel_rfl) ?_
      refine vr rfl rfl rfl (e_loadO sc40 rfl (ho.get (upd_same _ _ _)) rfl ⟨rfl, rfl⟩) ?_
      refine vq rfl rfl (q_move rfl) ?_
      refine vq rfl rfl (q_indexX sl40 rfl rfl (by omega) (by first | exact nthM (by omega) | rfl)) ?_
      refine vq rfl rfl (q_load sc3 rfl) ?_
      refine vq rfl rfl (q_buildS sl40 zo3 (by decide) rfl rfl rfl rfl (by decide)) ?_
      refine ve rfl rfl (e_append sl40 zo3 rfl rfl ho (SrcOK.slx 1 _) (rowsC1_one rfl) (by simp [maxLen_eq]; omega) (fun x6 s6 ho6 => ?_))
      refine vn rfl rfl (e_storeO sz40 rfl rfl ho6.c1 (ho6.get (upd_same _ _ _)) rfl ?_)
      refine vendW ?_
      first
      | exact ⟨F4, n4, F3, x6, m ++ [o], (by rw [List.map_append]; exact ho6.put), by simp [hm], g2.trans g4 (by omega), (bm.gr g4).app (BW.one b4), fun v hv => by rw [gall_app, gall_one, v4 v hv, vm v (hv.gr g4), gall_chunk, ← hc, gall_two k v (c := c) (by omega)]; rfl⟩
      | exact ⟨F2, n2, F3, x6, m ++ [c.getD 0 default], (by rw [List.map_append]; exact ho6.put), by simp [hm], g2.le (by omega), bm.app (BW.one (hcw.get (by omega))), fun v hv => by rw [gall_app, gall_one, vm v hv, gall_chunk, ← hc, gall_len1 k v (c := c) (by omega)]⟩
    refine vc_skip ?_
    refine vc_regionDW mx (qm 13407807929942597099574024998205846127479365820592393377723561443721764030073546976801874298166903427690031858186486050853753882811946569946433649006084127) [0, 1, 2, 3, 4, 5, 6] (by kernel_rfl) ?_
    refine vr rfl rfl rfl (e_loadO sc40 rfl (ho.get (upd_same _ _ _)) rfl ⟨rfl, rfl⟩) ?_
    refine vq rfl rfl (q_move rfl) ?_
    refine vq rfl rfl (q_indexX sl40 rfl rfl (by omega) (by first | exact nthM (by omega) | rfl)) ?_
    refine vq rfl rfl (q_load sc3 rfl) ?_
    refine vq rfl rfl (q_buildS sl40 zo3 (by decide) rfl rfl rfl rfl (by decide)) ?_
    refine ve rfl rfl (e_append sl40 zo3 rfl rfl ho (SrcOK.slx 1 _) (rowsC1_one rfl) (by simp [maxLen_eq]; omega) (fun x6 s6 ho6 => ?_))
    refine vn rfl rfl (e_storeO sz40 rfl rfl ho6.c1 (ho6.get (upd_same _ _ _)) rfl ?_)
    refine vendW ?_
    first
    | exact ⟨F4, n4, F3, x6, m ++ [o], (by rw [List.map_append]; exact ho6.put), by simp [hm], g2.trans g4 (by omega), (bm.gr g4).app (BW.one b4), fun v hv => by rw [gall_app, gall_one, v4 v hv, vm v (hv.gr g4), gall_chunk, ← hc, gall_two k v (c := c) (by omega)]; rfl⟩
    | exact ⟨F2, n2, F3, x6, m ++ [c.getD 0 default], (by rw [List.map_append]; exact ho6.put), by simp [hm], g2.le (by omega), bm.app (BW.one (hcw.get (by omega))), fun v hv => by rw [gall_app, gall_one, vm v hv, gall_chunk, ← hc, gall_len1 k v (c := c) (by omega)]⟩
  · intro yl vals ctx o hsl hy
    exact chunkY (xs := l) (J := Lft _ yl o) (by omega) (fun i st hJ hi => hy i _ st hJ ⟨hi, rfl⟩) ⟨_, ⟨F1, n1, F4, x4, [], ho4, rfl, Gr.refl hg.wf _, BW.nil, fun v _ => by simp⟩, hsl, rfl⟩
  intro st hJ
  obtain ⟨F2, n2, F3, x2, m, ho, hm, g2, bm, vm⟩ := hJ
  refine vc_shutAt (l := []) (q := []) ho (fun F5 => ?_)
  refine vc_frzB (i := 10) (by rw [upd_ne _ _ hkp] at hk10 ⊢; exact hk10) rfl rfl ?_
  refine vc_regionW (qm 3) [0, 1] rfl rfl ?_
  refine vq rfl rfl (q_load sc40 rfl) ?_
  refine vq rfl rfl (q_assign rfl) ?_
  refine vendW ?_
  refine ⟨(m, F2, n2), ⟨⟨by simp only; omega, by simp only; omega⟩, hg.trans g2 (by simp only; omega), bm, fun v hv => by rw [vm v hv, ← hgv v (hv.gr g2), List.take_of_length_le (by omega)]⟩, by simp only; omega, ?_, ⟨rfl, trivial⟩, rfl⟩
  repeat (first | exact Same.refl | refine Same.upd rfl ?_ | refine Same.drop rfl ?_)
end Go.Proofs.Ytpcpdepfnoijoaa
