/-
  Part of a proof: A size twice as great, one place lower, is packed as the same (slipsticklaw19.PackScaled).
-/
import Derived.WalkKit
import Derived.Orders
import Derived.OrdersIn
import Derived.RangeFuncLeaves
import Derived.RangeFuncNested
import Derived.Laws.MakeOwn
set_option linter.unusedVariables false
namespace Go.Vc
inductive AV where
  | v (x : Value)
  | sl (sz : Nat) (xs : List (List AV))
  | slx (sz : Nat) (xs : List (List AV))
  | box (cs : List AV)
  | hdr (k sz n : Nat)
  | agg (cs : List AV)
  | tup (vs : List AV)
  | clo (f : Nat) (first caps : List AV)
  | yld (l : Nat) (vals : List Value) (ctx : List AV)
  | any
abbrev Mset := Nat → Prop
def cellsAt (w : World) (M : Mset) (b off : Nat) (us : List Value) : Prop :=
  (us ≠ [] → ¬ M b) ∧ ∀ j u, us[j]? = some u → w.cell? ⟨b, off + j, none⟩ = some u
mutual
def Rep (w : World) (M : Mset) : AV → Value → Prop
  | .v x, y => y = x
  | .sl sz xs, y => ∃ a c us, y = .slice a xs.length c ∧ xs.length ≤ c ∧ c ≤ maxLen ∧ RepRows w M sz xs us ∧
      (xs = [] ∨ ∃ b off, a = some ⟨b, off, none⟩ ∧ cellsAt w M b off us)
  | .slx sz xs, y => ∃ a us, y = .slice a xs.length xs.length ∧ xs.length ≤ maxLen ∧ RepRows w M sz xs us ∧
      (xs = [] ∨ ∃ b off, a = some ⟨b, off, none⟩ ∧ cellsAt w M b off us)
  | .box cs, y => ∃ b off us, y = .pointer (some ⟨b, off, none⟩) ∧ RepL w M cs us ∧ cellsAt w M b off us
  | .hdr k sz n, y => ∃ cap e, y = .slice (some ⟨k, 0, none⟩) n cap ∧ n ≤ cap ∧ cap ≤ maxLen ∧ w.shape? k = some (e, cap * sz)
  | .agg cs, y => ∃ us, y = .agg us.toArray ∧ RepL w M cs us
  | .tup cs, y => ∃ us, y = .tuple us.toArray ∧ RepL w M cs us
  | .clo f fs cs, y => ∃ us vs, y = .func (.func f) us.toArray vs.toArray ∧ RepL w M fs us ∧ RepL w M cs vs
  | .yld l vals ctx, y => y = .func (.yield l) #[] #[] ∧ RepL w M ctx vals
  | .any, _ => True
def RepL (w : World) (M : Mset) : List AV → List Value → Prop
  | [], us => us = []
  | a :: as, us => ∃ u us', us = u :: us' ∧ Rep w M a u ∧ RepL w M as us'
def RepRows (w : World) (M : Mset) (sz : Nat) : List (List AV) → List Value → Prop
  | [], us => us = []
  | x :: xs, us => ∃ u us', us = u ++ us' ∧ u.length = sz ∧ RepL w M x u ∧ RepRows w M sz xs us'
end
structure Fr (w : World) (M : Mset) (w' : World) (M' : Mset) : Prop where
  os : w'.os = w.os
  tape : w'.tape = w.tape
  output : w'.output = w.output
  size : w.heap.size ≤ w'.heap.size
  keep : ∀ b, b < w.heap.size → ¬ M b → w'.heap[b]? = w.heap[b]? ∧ ¬ M' b
  shape : ∀ b, b < w.heap.size → w'.shape? b = w.shape? b
theorem Fr.refl (w : World) (M : Mset) : Fr w M w M := ⟨rfl, rfl, rfl, Nat.le_refl _, fun _ _ h => ⟨rfl, h⟩, fun _ _ => rfl⟩
theorem Fr.trans {w1 w2 w3 : World} {M1 M2 M3 : Mset} (h : Fr w1 M1 w2 M2) (k : Fr w2 M2 w3 M3) : Fr w1 M1 w3 M3 :=
  ⟨k.os.trans h.os, k.tape.trans h.tape, k.output.trans h.output, Nat.le_trans h.size k.size,
   fun b hb hm => by
     obtain ⟨h1, h2⟩ := h.keep b hb hm
     obtain ⟨k1, k2⟩ := k.keep b (Nat.lt_of_lt_of_le hb h.size) h2
     exact ⟨k1.trans h1, k2⟩,
   fun b hb => (k.shape b (Nat.lt_of_lt_of_le hb h.size)).trans (h.shape b hb)⟩
theorem lt_of_cell {w : World} {a : Addr} {v : Value} (h : w.cell? a = some v) : a.block < w.heap.size := World.block_lt_of_cell? w a h
theorem lt_of_shape {w : World} {k : Nat} {x} (h : w.shape? k = some x) : k < w.heap.size := by
  unfold World.shape? at h
  rcases Nat.lt_or_ge k w.heap.size with hk | hk
  · exact hk
  · rw [Array.getElem?_eq_none hk] at h; simp at h
def dead (w : World) (b : Nat) : Prop := ∃ o, w.heap[b]? = some o ∧ ((∃ r, o = .loop r) ∨ (∃ x, o = .deferred x))
theorem dead.cell {w : World} {a : Addr} {v : Value} (h : w.cell? a = some v) : ¬ dead w a.block := by
  rintro ⟨o, ho, ⟨r, rfl⟩ | ⟨x, rfl⟩⟩ <;> simp [World.cell?, ho] at h
theorem dead.shape {w : World} {k : Nat} {x} (h : w.shape? k = some x) : ¬ dead w k := by
  rintro ⟨o, ho, ⟨r, rfl⟩ | ⟨x, rfl⟩⟩ <;> simp [World.shape?, ho] at h
structure FrL (w : World) (M : Mset) (w' : World) (M' : Mset) : Prop where
  size : w.heap.size ≤ w'.heap.size
  keep : ∀ b, b < w.heap.size → ¬ M b → dead w b ∨ (w'.heap[b]? = w.heap[b]? ∧ ¬ M' b)
  shape : ∀ b, b < w.heap.size → w'.shape? b = w.shape? b
theorem Fr.loose {w w' : World} {M M' : Mset} (h : Fr w M w' M') : FrL w M w' M' := ⟨h.size, fun b hb hm => .inr (h.keep b hb hm), h.shape⟩
theorem cellsAt.monoL {w w' : World} {M M' : Mset} {b off : Nat} {us : List Value} (h : cellsAt w M b off us) (f : FrL w M w' M') : cellsAt w' M' b off us := by
  have hc : us ≠ [] → ∃ u, w.cell? ⟨b, off + 0, none⟩ = some u := by
    intro hne
    cases us with
    | nil => exact absurd rfl hne
    | cons u us => exact ⟨u, h.2 0 u rfl⟩
  have hk : us ≠ [] → w'.heap[b]? = w.heap[b]? ∧ ¬ M' b := by
    intro hne
    obtain ⟨u, hu⟩ := hc hne
    exact (f.keep b (lt_of_cell hu) (h.1 hne)).resolve_left (dead.cell hu)
  refine ⟨fun hne => (hk hne).2, fun j u hj => ?_⟩
  have hne : us ≠ [] := by intro e; simp [e] at hj
  exact (World.cell?_of_block (w := w) (a := ⟨b, off + j, none⟩) (hk hne).1).trans (h.2 j u hj)
theorem cellsAt.mono {w w' : World} {M M' : Mset} {b off : Nat} {us : List Value} (h : cellsAt w M b off us) (f : Fr w M w' M') : cellsAt w' M' b off us := h.monoL f.loose
mutual
theorem Rep.monoL {w w' : World} {M M' : Mset} (f : FrL w M w' M') : ∀ (a : AV) (y : Value), Rep w M a y → Rep w' M' a y
  | .v _, _, h => h
  | .sl sz xs, y, ⟨a, c, us, h1, h2, h3, h4, h5⟩ =>
    ⟨a, c, us, h1, h2, h3, RepRows.monoL f sz xs us h4, h5.imp id fun ⟨b, off, e, hc⟩ => ⟨b, off, e, hc.monoL f⟩⟩
  | .slx sz xs, y, ⟨a, us, h1, h3, h4, h5⟩ =>
    ⟨a, us, h1, h3, RepRows.monoL f sz xs us h4, h5.imp id fun ⟨b, off, e, hc⟩ => ⟨b, off, e, hc.monoL f⟩⟩
  | .box cs, y, ⟨b, off, us, h1, h2, h3⟩ => ⟨b, off, us, h1, RepL.monoL f cs us h2, h3.monoL f⟩
  | .hdr k sz n, y, ⟨cap, e, h1, h2, h3, h4⟩ => ⟨cap, e, h1, h2, h3, (f.shape k (lt_of_shape h4)).trans h4⟩
  | .agg cs, y, ⟨us, h1, h2⟩ => ⟨us, h1, RepL.monoL f cs us h2⟩
  | .tup cs, y, ⟨us, h1, h2⟩ => ⟨us, h1, RepL.monoL f cs us h2⟩
  | .clo g fs cs, y, ⟨us, vs, h1, h2, h3⟩ => ⟨us, vs, h1, RepL.monoL f fs us h2, RepL.monoL f cs vs h3⟩
  | .yld l vals ctx, y, ⟨h1, h2⟩ => ⟨h1, RepL.monoL f ctx vals h2⟩
  | .any, _, _ => trivial
theorem RepL.monoL {w w' : World} {M M' : Mset} (f : FrL w M w' M') : ∀ (as : List AV) (us : List Value), RepL w M as us → RepL w' M' as us
  | [], _, h => h
  | a :: as, us, ⟨u, us', h1, h2, h3⟩ => ⟨u, us', h1, Rep.monoL f a u h2, RepL.monoL f as us' h3⟩
theorem RepRows.monoL {w w' : World} {M M' : Mset} (f : FrL w M w' M') (sz : Nat) : ∀ (xs : List (List AV)) (us : List Value), RepRows w M sz xs us → RepRows w' M' sz xs us
  | [], _, h => h
  | x :: xs, us, ⟨u, us', h1, h2, h3, h4⟩ => ⟨u, us', h1, h2, RepL.monoL f x u h3, RepRows.monoL f sz xs us' h4⟩
end
theorem Rep.mono {w w' : World} {M M' : Mset} (f : Fr w M w' M') : ∀ (a : AV) (y : Value), Rep w M a y → Rep w' M' a y := Rep.monoL f.loose
theorem RepL.mono {w w' : World} {M M' : Mset} (f : Fr w M w' M') : ∀ (as : List AV) (us : List Value), RepL w M as us → RepL w' M' as us := RepL.monoL f.loose
theorem RepRows.mono {w w' : World} {M M' : Mset} (f : Fr w M w' M') (sz : Nat) : ∀ (xs : List (List AV)) (us : List Value), RepRows w M sz xs us → RepRows w' M' sz xs us := RepRows.monoL f.loose sz
end Go.Vc

set_option linter.unusedVariables false
namespace Go.Vc
inductive OV where
  | a (x : AV)
  | r (e sz : Nat) (xs : List (List AV))
inductive Res where
  | cells (cs : List AV)
  | arr (e sz : Nat) (xs : List (List AV))
  | obj (F : List Nat) (cs : List OV)
  | map (ps : List (Value × AV))
  | raw (o : Obj)
abbrev St := Nat → Option Res
def fp (k : Nat) : Res → Nat → Prop
  | .cells _, b => b = k
  | .arr _ _ _, b => b = k
  | .obj F _, b => b ∈ F
  | .map _, b => b = k
  | .raw _, b => b = k
def Mut (s : St) : Mset := fun b => ∃ k r, s k = some r ∧ fp k r b
def RowOK (w : World) (M : Mset) (g cap e sz : Nat) (xs : List (List AV)) : Prop :=
  ∃ cur, w.heap[g]? = some (.cells cur e (0, 0)) ∧ cur.size = cap * sz ∧ xs.length ≤ cap ∧ cap ≤ maxLen ∧
    RepRows w M sz xs (cur.toList.take (xs.length * sz))
def OVsOK (w : World) (M : Mset) : List OV → List Value → List Nat → Prop
  | [], us, G => us = [] ∧ G = []
  | .a x :: cs, us, G => ∃ u us', us = u :: us' ∧ Rep w M x u ∧ OVsOK w M cs us' G
  | .r e sz xs :: cs, us, G => ∃ u us', us = u :: us' ∧
      ((xs = [] ∧ (∃ a, u = .slice a 0 0) ∧ OVsOK w M cs us' G) ∨
       ∃ g cap G', u = .slice (some ⟨g, 0, none⟩) xs.length cap ∧ RowOK w M g cap e sz xs ∧ G = g :: G' ∧ g ∉ G' ∧ OVsOK w M cs us' G')
def MapRep (w : World) (M : Mset) : List (Value × AV) → List MapEntry → Prop
  | [], es => es = []
  | (k, x) :: ps, es => ∃ e es', es = e :: es' ∧ e.key = k ∧ Rep w M x e.val ∧ MapRep w M ps es'
theorem MapRep.monoL {w w' : World} {M M' : Mset} (f : FrL w M w' M') : ∀ (ps : List (Value × AV)) (es : List MapEntry), MapRep w M ps es → MapRep w' M' ps es
  | [], _, h => h
  | (k, x) :: ps, es, ⟨e, es', h1, h2, h3, h4⟩ => ⟨e, es', h1, h2, Rep.monoL f x _ h3, MapRep.monoL f ps es' h4⟩
theorem MapRep.mono {w w' : World} {M M' : Mset} (f : Fr w M w' M') : ∀ (ps : List (Value × AV)) (es : List MapEntry), MapRep w M ps es → MapRep w' M' ps es := MapRep.monoL f.loose
def ResOK (w : World) (M : Mset) (k : Nat) : Res → Prop
  | .cells cs => ∃ cur t, w.heap[k]? = some (.cells cur t (0, 0)) ∧ RepL w M cs cur.toList
  | .arr e sz xs => ∃ cap, RowOK w M k cap e sz xs
  | .obj F cs => ∃ cur t G, w.heap[k]? = some (.cells cur t (0, 0)) ∧ F = k :: G ∧ k ∉ G ∧ OVsOK w M cs cur.toList G
  | .map ps => ∃ es clock, w.heap[k]? = some (.map es clock) ∧ MapRep w M ps es.toList
  | .raw o => w.heap[k]? = some o
structure Sat (w : World) (s : St) : Prop where
  ok : ∀ k r, s k = some r → ResOK w (Mut s) k r
  disj : ∀ k r k' r' b, s k = some r → s k' = some r' → fp k r b → fp k' r' b → k = k'
  lt : ∀ b, Mut s b → b < w.heap.size
theorem RowOK.monoL {w w' : World} {M M' : Mset} {g cap e sz : Nat} {xs : List (List AV)} (h : RowOK w M g cap e sz xs) (f : FrL w M w' M')
    (hb : w'.heap[g]? = w.heap[g]?) : RowOK w' M' g cap e sz xs := by
  obtain ⟨cur, h1, h2, h3, h4, h5⟩ := h
  exact ⟨cur, hb.trans h1, h2, h3, h4, RepRows.monoL f _ _ _ h5⟩
theorem RowOK.mono {w w' : World} {M M' : Mset} {g cap e sz : Nat} {xs : List (List AV)} (h : RowOK w M g cap e sz xs) (f : Fr w M w' M')
    (hb : w'.heap[g]? = w.heap[g]?) : RowOK w' M' g cap e sz xs := h.monoL f.loose hb
theorem OVsOK.monoL {w w' : World} {M M' : Mset} (f : FrL w M w' M') : ∀ (cs : List OV) (us : List Value) (G : List Nat), OVsOK w M cs us G →
    (∀ b, b ∈ G → w'.heap[b]? = w.heap[b]?) → OVsOK w' M' cs us G
  | [], _, _, h, _ => h
  | .a x :: cs, us, G, ⟨u, us', h1, h2, h3⟩, hb => ⟨u, us', h1, Rep.monoL f x u h2, OVsOK.monoL f cs us' G h3 hb⟩
  | .r e sz xs :: cs, us, G, ⟨u, us', h1, h2⟩, hb => by
    refine ⟨u, us', h1, ?_⟩
    rcases h2 with ⟨h3, h4, h5⟩ | ⟨g, cap, G', h3, h4, h5, h6, h7⟩
    · exact .inl ⟨h3, h4, OVsOK.monoL f cs us' G h5 hb⟩
    · subst h5
      exact .inr ⟨g, cap, G', h3, h4.monoL f (hb g (by simp)), rfl, h6, OVsOK.monoL f cs us' G' h7 fun b hm => hb b (by simp [hm])⟩
theorem OVsOK.mono {w w' : World} {M M' : Mset} (f : Fr w M w' M') : ∀ (cs : List OV) (us : List Value) (G : List Nat), OVsOK w M cs us G →
    (∀ b, b ∈ G → w'.heap[b]? = w.heap[b]?) → OVsOK w' M' cs us G := OVsOK.monoL f.loose
theorem ResOK.monoL {w w' : World} {M M' : Mset} (f : FrL w M w' M') {k : Nat} {r : Res} (h : ResOK w M k r)
    (hb : ∀ b, fp k r b → w'.heap[b]? = w.heap[b]?) : ResOK w' M' k r := by
  cases r with
  | cells cs => obtain ⟨cur, t, h1, h2⟩ := h; exact ⟨cur, t, (hb k rfl).trans h1, RepL.monoL f _ _ h2⟩
  | arr e sz xs => obtain ⟨cap, h1⟩ := h; exact ⟨cap, h1.monoL f (hb k rfl)⟩
  | obj F cs =>
    obtain ⟨cur, t, G, h1, h2, h3, h4⟩ := h
    subst h2
    exact ⟨cur, t, G, (hb k (by simp [fp])).trans h1, rfl, h3, OVsOK.monoL f _ _ _ h4 fun b hm => hb b (by simp [fp, hm])⟩
  | map ps => obtain ⟨es, clock, h1, h2⟩ := h; exact ⟨es, clock, (hb k rfl).trans h1, MapRep.monoL f _ _ h2⟩
  | raw o => exact (hb k rfl).trans h
theorem ResOK.mono {w w' : World} {M M' : Mset} (f : Fr w M w' M') {k : Nat} {r : Res} (h : ResOK w M k r)
    (hb : ∀ b, fp k r b → w'.heap[b]? = w.heap[b]?) : ResOK w' M' k r := h.monoL f.loose hb
def upd {β : Type} (f : Nat → Option β) (k : Nat) (x : β) : Nat → Option β := fun i => bif Nat.beq i k then some x else f i
theorem upd_same {β : Type} (f : Nat → Option β) (k : Nat) (x : β) : upd f k x k = some x := by simp [upd]
theorem upd_ne {β : Type} (f : Nat → Option β) {k i : Nat} (x : β) (h : i ≠ k) : upd f k x i = f i := by
  have : Nat.beq i k = false := by
    cases h' : Nat.beq i k with
    | false => rfl
    | true => exact absurd (Nat.eq_of_beq_eq_true h') h
  simp [upd, this]
def era {β : Type} (f : Nat → Option β) (k : Nat) : Nat → Option β := fun i => bif Nat.beq i k then none else f i
theorem era_same {β : Type} (f : Nat → Option β) (k : Nat) : era f k k = none := by simp [era]
theorem era_ne {β : Type} (f : Nat → Option β) {k i : Nat} (h : i ≠ k) : era f k i = f i := by
  have : Nat.beq i k = false := by
    cases h' : Nat.beq i k with
    | false => rfl
    | true => exact absurd (Nat.eq_of_beq_eq_true h') h
  simp [era, this]
def Le {β : Type} (f g : Nat → Option β) : Prop := ∀ i x, f i = some x → g i = some x
theorem Le.refl {β : Type} (f : Nat → Option β) : Le f f := fun _ _ h => h
theorem Le.trans {β : Type} {f g h : Nat → Option β} (a : Le f g) (b : Le g h) : Le f h := fun i x e => b i x (a i x e)
theorem Le.era {β : Type} (f : Nat → Option β) (k : Nat) : Le (era f k) f := fun i x h => by
  by_cases e : i = k
  · subst e; rw [era_same] at h; cases h
  · rwa [era_ne f e] at h
theorem upd_upd {β : Type} (f : Nat → Option β) (k : Nat) (x y : β) : upd (upd f k x) k y = upd f k y := by
  funext i
  by_cases e : i = k
  · subst e; rw [upd_same, upd_same]
  · rw [upd_ne _ _ e, upd_ne _ _ e, upd_ne _ _ e]
theorem upd_comm {β : Type} (f : Nat → Option β) {k j : Nat} (h : k ≠ j) (x y : β) : upd (upd f k x) j y = upd (upd f j y) k x := by
  funext i
  by_cases e : i = j
  · subst e; rw [upd_same, upd_ne _ _ h.symm, upd_same]
  · rw [upd_ne _ _ e]
    by_cases e' : i = k
    · subst e'; rw [upd_same, upd_same]
    · rw [upd_ne _ _ e', upd_ne _ _ e', upd_ne _ _ e]
theorem Mut.le {s s' : St} (h : Le s s') {b : Nat} (hm : Mut s b) : Mut s' b := by
  obtain ⟨k, r, h1, h2⟩ := hm
  exact ⟨k, r, h k r h1, h2⟩
theorem Fr.of_le {w : World} {s s' : St} (h : Le s' s) : Fr w (Mut s) w (Mut s') :=
  ⟨rfl, rfl, rfl, Nat.le_refl _, fun b _ hm => ⟨rfl, fun hm' => hm (hm'.le h)⟩, fun _ _ => rfl⟩
theorem Sat.le {w : World} {s s' : St} (hs : Sat w s) (h : Le s' s) : Sat w s' :=
  ⟨fun k r hk => (hs.ok k r (h k r hk)).mono (Fr.of_le h) fun _ _ => rfl,
   fun k r k' r' b h1 h2 => hs.disj k r k' r' b (h k r h1) (h k' r' h2),
   fun b hm => hs.lt b (hm.le h)⟩
theorem Sat.step {w w' : World} {s : St} {k : Nat} {r : Res} (hs : Sat w s)
    (hos : w'.os = w.os) (htape : w'.tape = w.tape) (hout : w'.output = w.output) (hsize : w.heap.size ≤ w'.heap.size)
    (hshape : ∀ b, b < w.heap.size → w'.shape? b = w.shape? b)
    (hkeep : ∀ b, b < w.heap.size → (∀ r0, s k = some r0 → ¬ fp k r0 b) → w'.heap[b]? = w.heap[b]?)
    (hfp : ∀ b, fp k r b → b < w'.heap.size ∧ (b < w.heap.size → ∃ r0, s k = some r0 ∧ fp k r0 b))
    (hok : Fr w (Mut s) w' (Mut (upd s k r)) → ResOK w' (Mut (upd s k r)) k r) :
    Sat w' (upd s k r) ∧ Fr w (Mut s) w' (Mut (upd s k r)) := by
  have hmut : ∀ b, b < w.heap.size → Mut (upd s k r) b → Mut s b := by
    rintro b hb ⟨j, rj, h1, h2⟩
    by_cases e : j = k
    · subst e
      rw [upd_same] at h1; cases h1
      obtain ⟨r0, h3, h4⟩ := (hfp b h2).2 hb
      exact ⟨j, r0, h3, h4⟩
    · rw [upd_ne _ _ e] at h1; exact ⟨j, rj, h1, h2⟩
  have hf : Fr w (Mut s) w' (Mut (upd s k r)) :=
    ⟨hos, htape, hout, hsize, fun b hb hm => ⟨hkeep b hb fun r0 h0 hp => hm ⟨k, r0, h0, hp⟩, fun hm' => hm (hmut b hb hm')⟩, hshape⟩
  refine ⟨⟨?_, ?_, ?_⟩, hf⟩
  · intro j rj hj
    by_cases e : j = k
    · subst e; rw [upd_same] at hj; cases hj; exact hok hf
    · rw [upd_ne _ _ e] at hj
      refine (hs.ok j rj hj).mono hf fun b hb => ?_
      have hlt := hs.lt b ⟨j, rj, hj, hb⟩
      exact hkeep b hlt fun r0 h0 hp => e (hs.disj j rj k r0 b hj h0 hb hp)
  · intro j rj j' rj' b h1 h2 h3 h4
    by_cases e : j = k
    · subst e
      rw [upd_same] at h1; cases h1
      by_cases e' : j' = j
      · exact e'.symm
      · rw [upd_ne _ _ e'] at h2
        have hlt := hs.lt b ⟨j', rj', h2, h4⟩
        obtain ⟨r0, h5, h6⟩ := (hfp b h3).2 hlt
        exact hs.disj j r0 j' rj' b h5 h2 h6 h4
    · rw [upd_ne _ _ e] at h1
      by_cases e' : j' = k
      · subst e'
        rw [upd_same] at h2; cases h2
        have hlt := hs.lt b ⟨j, rj, h1, h3⟩
        obtain ⟨r0, h5, h6⟩ := (hfp b h4).2 hlt
        exact hs.disj j rj j' r0 b h1 h5 h3 h6
      · rw [upd_ne _ _ e'] at h2
        exact hs.disj j rj j' rj' b h1 h2 h3 h4
  · rintro b ⟨j, rj, h1, h2⟩
    by_cases e : j = k
    · subst e; rw [upd_same] at h1; cases h1; exact (hfp b h2).1
    · rw [upd_ne _ _ e] at h1
      exact Nat.lt_of_lt_of_le (hs.lt b ⟨j, rj, h1, h2⟩) hsize
theorem Sat.ext {w w' : World} {s : St} (hs : Sat w s)
    (hos : w'.os = w.os) (htape : w'.tape = w.tape) (hout : w'.output = w.output) (hsize : w.heap.size ≤ w'.heap.size)
    (hkeep : ∀ b, b < w.heap.size → w'.heap[b]? = w.heap[b]?) : Sat w' s ∧ Fr w (Mut s) w' (Mut s) := by
  have hf : Fr w (Mut s) w' (Mut s) := ⟨hos, htape, hout, hsize, fun b hb hm => ⟨hkeep b hb, hm⟩, fun b hb => by
    unfold World.shape?; rw [hkeep b hb]⟩
  exact ⟨⟨fun k r hk => (hs.ok k r hk).mono hf fun b hb => hkeep b (hs.lt b ⟨k, r, hk, hb⟩), hs.disj, fun b hm => Nat.lt_of_lt_of_le (hs.lt b hm) hsize⟩, hf⟩
theorem Sat.turn {w w' : World} {s : St} (hs : Sat w s) (f : FrL w (Mut s) w' (Mut s)) (hb : ∀ b, Mut s b → w'.heap[b]? = w.heap[b]?) : Sat w' s :=
  ⟨fun k r hk => (hs.ok k r hk).monoL f fun b hp => hb b ⟨k, r, hk, hp⟩, hs.disj, fun b hm => Nat.lt_of_lt_of_le (hs.lt b hm) f.size⟩
theorem Sat.none_of {w : World} {s : St} (hs : Sat w s) {k : Nat} (h : ¬ Mut s k) : s k = none := by
  cases hk : s k with
  | none => rfl
  | some r =>
    refine absurd ⟨k, r, hk, ?_⟩ h
    cases r with
    | obj F cs => obtain ⟨_, _, G, _, rfl, _⟩ := hs.ok k _ hk; simp [fp]
    | _ => rfl
theorem Sat.take {w w' : World} {s : St} {k : Nat} {o : Obj} (hs : Sat w s) (hk : ¬ Mut s k) (hd : dead w k) (hd' : dead w' k) (ho : w'.heap[k]? = some o)
    (hsz : w'.heap.size = w.heap.size) (hkeep : ∀ b, b ≠ k → w'.heap[b]? = w.heap[b]?) : Sat w' (upd s k (.raw o)) ∧ FrL w (Mut s) w' (Mut (upd s k (.raw o))) := by
  have hn := hs.none_of hk
  have hm : ∀ b, b ≠ k → Mut (upd s k (.raw o)) b → Mut s b := by
    rintro b hb ⟨j, r, h1, h2⟩
    by_cases e : j = k
    · subst e; rw [upd_same] at h1; cases h1; exact absurd h2 hb
    · rw [upd_ne _ _ e] at h1; exact ⟨j, r, h1, h2⟩
  have hf : FrL w (Mut s) w' (Mut (upd s k (.raw o))) := by
    refine ⟨by rw [hsz]; exact Nat.le_refl _, fun b hb hmb => ?_, fun b hb => ?_⟩
    · by_cases e : b = k
      · subst e; exact .inl hd
      · exact .inr ⟨hkeep b e, fun h => hmb (hm b e h)⟩
    · by_cases e : b = k
      · subst e
        have h1 : w.shape? b = none := by cases h : w.shape? b with | none => rfl | some x => exact absurd hd (dead.shape h)
        have h2 : w'.shape? b = none := by cases h : w'.shape? b with | none => rfl | some x => exact absurd hd' (dead.shape h)
        rw [h1, h2]
      · unfold World.shape?; rw [hkeep b e]
  refine ⟨⟨fun j r hj => ?_, fun j r j' r' b h1 h2 h3 h4 => ?_, fun b hb => ?_⟩, hf⟩
  · by_cases e : j = k
    · subst e; rw [upd_same] at hj; cases hj; exact ho
    · rw [upd_ne _ _ e] at hj
      exact (hs.ok j r hj).monoL hf fun b hp => hkeep b fun e' => hk (e' ▸ ⟨j, r, hj, hp⟩)
  · by_cases e : j = k <;> by_cases e' : j' = k
    · rw [e, e']
    · subst e; rw [upd_same] at h1; cases h1; rw [upd_ne _ _ e'] at h2; cases h3; exact absurd ⟨j', r', h2, h4⟩ hk
    · subst e'; rw [upd_same] at h2; cases h2; rw [upd_ne _ _ e] at h1; cases h4; exact absurd ⟨j, r, h1, h3⟩ hk
    · rw [upd_ne _ _ e] at h1; rw [upd_ne _ _ e'] at h2; exact hs.disj j r j' r' b h1 h2 h3 h4
  · by_cases e : b = k
    · subst e; exact (Array.getElem?_eq_some_iff.1 ho).1
    · rw [hsz]; exact hs.lt b (hm b e hb)
def RetOK (w : World) (s : St) (K : AV → St → Prop) (v : Value) (w' : World) : Prop :=
  ∃ r s', Rep w' (Mut s') r v ∧ Sat w' s' ∧ Fr w (Mut s) w' (Mut s') ∧ K r s'
def EndOK (w : World) (s : St) (K : AV → St → Prop) : Ending → World → Prop
  | .returned v, w' => RetOK w s K v w'
  | _, _ => False
def CallsA (P : Program) (f : FuncId) (avs : List AV) (s : St) (K : AV → St → Prop) : Prop :=
  ∀ w vs, Sat w s → RepL w (Mut s) avs vs → Calls P f vs.toArray w (EndOK w s K)
theorem RetOK.mono {w : World} {s : St} {K K' : AV → St → Prop} (hk : ∀ r s, K r s → K' r s) {v : Value} {w' : World} (h : RetOK w s K v w') : RetOK w s K' v w' := by
  obtain ⟨r, s', h1, h2, h3, h4⟩ := h
  exact ⟨r, s', h1, h2, h3, hk r s' h4⟩
theorem EndOK.mono {w : World} {s : St} {K K' : AV → St → Prop} (hk : ∀ r s, K r s → K' r s) : ∀ (e : Ending) (w' : World), EndOK w s K e w' → EndOK w s K' e w'
  | .returned _, _, h => RetOK.mono hk h
  | .panicked _, _, h => h
  | .outgrown, _, h => h
theorem CallsA.mono {P : Program} {f : FuncId} {avs : List AV} {s : St} {K K' : AV → St → Prop} (h : CallsA P f avs s K) (hk : ∀ r s, K r s → K' r s) : CallsA P f avs s K' :=
  fun w vs hs hr => (h w vs hs hr).mono (EndOK.mono hk)
def ALe (a b : AV) : Prop := ∀ w M y, Rep w M a y → Rep w M b y
def ALes (as bs : List AV) : Prop := ∀ w M us, RepL w M as us → RepL w M bs us
theorem ALe.refl (a : AV) : ALe a a := fun _ _ _ h => h
theorem ALes.nil : ALes [] [] := fun _ _ _ h => h
theorem ALes.cons {a b : AV} {as bs : List AV} (h : ALe a b) (hs : ALes as bs) : ALes (a :: as) (b :: bs) :=
  fun w M us ⟨u, us', h1, h2, h3⟩ => ⟨u, us', h1, h w M u h2, hs w M us' h3⟩
theorem ALes.refl (as : List AV) : ALes as as := fun _ _ _ h => h
theorem CallsA.le {P : Program} {f : FuncId} {avs bvs : List AV} {s : St} {K : AV → St → Prop} (ha : ALes avs bvs) (h : CallsA P f bvs s K) : CallsA P f avs s K :=
  fun w vs hs hr => h w vs hs (ha w _ _ hr)
end Go.Vc

set_option linter.unusedVariables false
namespace Go.Vc
abbrev Env := Nat → Option AV
def put (env : Env) : Option Nat → AV → Env
  | some d, x => upd env d x
  | none, _ => env
def evA (env : Env) : Operand → Option AV
  | .tmp t => env t
  | .const v => some (.v v)
  | .func f => some (.clo f [] [])
  | .global g => some (.v (.pointer (some ⟨g, 0, none⟩)))
structure Cx where
  ro : Option Nat
  base : Nat
def FW (ro : Option Nat) : Fence := { fn := fun _ => True, depth := none, alive := false, round := ro }
def Marks (cx : Cx) (w : World) (M : Mset) (ds : List Deferred) : Prop :=
  ∃ Ds : List Nat, ds = Ds.map (fun D => { target := .collected D, args := #[] }) ∧ Ds.Nodup ∧ ∀ D ∈ Ds, cx.base ≤ D ∧ w.heap[D]? = some (.deferred (some [])) ∧ ¬ M D
theorem Marks.nil {cx : Cx} {w : World} {M : Mset} : Marks cx w M [] := ⟨[], rfl, List.nodup_nil, by simp⟩
theorem Marks.mono {cx : Cx} {w w' : World} {M M' : Mset} {ds : List Deferred} (h : Marks cx w M ds) (f : Fr w M w' M') : Marks cx w' M' ds := by
  obtain ⟨Ds, h1, h2, h3⟩ := h
  refine ⟨Ds, h1, h2, fun D hD => ?_⟩
  obtain ⟨g1, g2, g3⟩ := h3 D hD
  obtain ⟨k1, k2⟩ := f.keep D (Array.getElem?_eq_some_iff.1 g2).1 g3
  exact ⟨g1, k1.trans g2, k2⟩
structure EnvOK (cx : Cx) (w : World) (M : Mset) (N : Nat) (env : Env) (a : Act) : Prop where
  defers : Marks cx w M a.defers
  rnd : ∀ l, cx.ro = some l → ∃ r, w.heap[l]? = some (.loop r) ∧ ¬ M l
  bs : cx.base ≤ w.heap.size
  size : a.tmps.size = N
  slot : ∀ i x, env i = some x → i < N ∧ Rep w M x (a.tmps.getD i undef)
theorem EnvOK.mono {cx : Cx} {w w' : World} {M M' : Mset} {N : Nat} {env : Env} {a : Act} (h : EnvOK cx w M N env a) (f : Fr w M w' M') : EnvOK cx w' M' N env a :=
  ⟨h.defers.mono f, fun l hl => by
    obtain ⟨r, h1, h2⟩ := h.rnd l hl
    obtain ⟨k1, k2⟩ := f.keep l (Array.getElem?_eq_some_iff.1 h1).1 h2
    exact ⟨r, k1.trans h1, k2⟩, Nat.le_trans h.bs f.size, h.size, fun i x hx => ⟨(h.slot i x hx).1, Rep.mono f _ _ (h.slot i x hx).2⟩⟩
theorem EnvOK.le {cx : Cx} {w : World} {M : Mset} {N : Nat} {env env' : Env} {a : Act} (h : EnvOK cx w M N env a) (hl : Le env' env) : EnvOK cx w M N env' a :=
  ⟨h.defers, h.rnd, h.bs, h.size, fun i x hx => h.slot i x (hl i x hx)⟩
theorem getD_put_same {ts : Array Value} {d : Nat} {v : Value} (h : d < ts.size) : (ts.setIfInBounds d v).getD d undef = v := by
  simp [Array.getD_eq_getD_getElem?, h]
theorem getD_put_ne {ts : Array Value} {d i : Nat} {v : Value} (h : i ≠ d) : (ts.setIfInBounds d v).getD i undef = ts.getD i undef := by
  simp [Array.getD_eq_getD_getElem?, Array.getElem?_setIfInBounds_ne (Ne.symm h)]
theorem EnvOK.put {cx : Cx} {w : World} {M : Mset} {N : Nat} {env : Env} {a : Act} (h : EnvOK cx w M N env a) {d : Option Nat} {x : AV} {v : Value}
    (hd : ∀ i, d = some i → i < N) (hr : Rep w M x v) : EnvOK cx w M N (Vc.put env d x) (a.put d v) := by
  cases d with
  | none => exact h
  | some d =>
    have hd := hd d rfl
    refine ⟨h.defers, h.rnd, h.bs, by simp [Act.put, h.size], fun i y hy => ?_⟩
    simp only [Act.put, Vc.put] at hy ⊢
    by_cases e : i = d
    · subst e
      rw [upd_same] at hy; cases hy
      rw [getD_put_same (by rw [h.size]; exact hd)]
      exact ⟨hd, hr⟩
    · rw [upd_ne _ _ e] at hy
      rw [getD_put_ne e]
      exact h.slot i y hy
def OpRho (w : World) (M : Mset) (env : Env) (o : Oper) (ρ : Operand → Value) : Prop :=
  (∀ x ∈ o.op.operands, ∀ y, evA env x = some y → Rep w M y (ρ x)) ∧ (∀ v, ρ (.const v) = v)
theorem repOp {cx : Cx} {w : World} {M : Mset} {N : Nat} {env : Env} {a : Act} (h : EnvOK cx w M N env a) (x : Operand) (y : AV) (hy : evA env x = some y) : Rep w M y (a.eval x) := by
  cases x with
  | tmp t => exact (h.slot t y hy).2
  | const v => cases hy; exact rfl
  | func f => cases hy; exact ⟨[], [], rfl, rfl, rfl⟩
  | global g => cases hy; exact rfl
def Upon (P : Program) (w : World) (s : St) (K : AV → St → Prop) : Result Next → Prop
  | .ok (.value v) w' => RetOK w s K v w'
  | .ok .skip w' => RetOK w s K undef w'
  | .ok (.enter f args) w' => Calls P f args w' (EndOK w s K)
  | .ok (.round l f tmps assign body) w' => RoundIn (FW none) 0 P l f tmps assign body w' (EndOK w s K)
  | _ => False
def EffOK (P : Program) (o : Oper) (env : Env) (s : St) (K : AV → St → Prop) : Prop :=
  ∀ w ρ, Sat w s → OpRho w (Mut s) env o ρ → Upon P w s K ((execOp ρ o).run P w)
def ROK (P : Program) (o : Oper) (env : Env) (s : St) (x : AV) : Prop := EffOK P o env s fun r s' => r = x ∧ s' = s
def QOK (P : Program) (o : Oper) (env : Env) (x : AV) : Prop := ∀ s, ROK P o env s x
theorem QOK.intro {P : Program} {o : Oper} {env : Env} {x : AV}
    (h : ∀ w s ρ, Sat w s → OpRho w (Mut s) env o ρ → ∃ v w', (execOp ρ o).run P w = .ok (.value v) w' ∧ Rep w' (Mut s) x v ∧ Sat w' s ∧ Fr w (Mut s) w' (Mut s)) : QOK P o env x := by
  intro s w ρ hs hr
  obtain ⟨v, w', h1, h2, h3, h4⟩ := h w s ρ hs hr
  rw [h1]
  exact ⟨x, s, h2, h3, h4, rfl, rfl⟩
theorem EffOK.mono {P : Program} {o : Oper} {env : Env} {s : St} {K K' : AV → St → Prop} (hk : ∀ r s, K r s → K' r s) (h : EffOK P o env s K) : EffOK P o env s K' := by
  intro w ρ hs hr
  have := h w ρ hs hr
  revert this
  generalize (execOp ρ o).run P w = r
  intro this
  cases r with
  | halt x w' => exact this
  | ok n w' =>
    cases n <;> simp only [Upon] at this ⊢
    · exact this.mono hk
    · exact this.mono hk
    · exact Calls.mono this (EndOK.mono hk)
    · exact RoundIn.mono this (EndOK.mono hk)
theorem OpRho.congr {w : World} {M : Mset} {env env' : Env} {o : Oper} {ρ : Operand → Value} (h : ∀ x ∈ o.op.operands, evA env x = evA env' x) (hr : OpRho w M env o ρ) : OpRho w M env' o ρ :=
  ⟨fun x hx y hy => hr.1 x hx y (by rw [h x hx]; exact hy), hr.2⟩
theorem EffOK.congr {P : Program} {o : Oper} {env env' : Env} {s : St} {K} (h : ∀ x ∈ o.op.operands, evA env x = evA env' x) (hq : EffOK P o env s K) : EffOK P o env' s K :=
  fun w ρ hs hr => hq w ρ hs (hr.congr fun y hy => (h y hy).symm)
theorem ROK.congr {P : Program} {o : Oper} {env env' : Env} {s : St} {x : AV} (h : ∀ x ∈ o.op.operands, evA env x = evA env' x) (hq : ROK P o env s x) : ROK P o env' s x := EffOK.congr h hq
theorem QOK.congr {P : Program} {o : Oper} {env env' : Env} {x : AV} (h : ∀ x ∈ o.op.operands, evA env x = evA env' x) (hq : QOK P o env x) : QOK P o env' x := fun s => (hq s).congr h
def nth {α : Type} : List α → Nat → Option α
  | [], _ => none
  | x :: _, 0 => some x
  | _ :: l, n + 1 => nth l n
def GdOK (l : List Oper) (o : Oper) (env : Env) (run skip : Prop) : Prop :=
  match o.guard with
  | none => run
  | some (j, want) => match (nth l j).bind (·.dst) with
    | none => False
    | some t => ∃ g, env t = some (.v g) ∧ (g = .bool want → run) ∧ (g ≠ .bool want → skip)
def stepQ (P : Program) (l : List Oper) (o : Oper) (env : Env) (x : AV) : Prop := GdOK l o env (QOK P o env x) (x = .v undef)
def stepR (P : Program) (l : List Oper) (o : Oper) (env : Env) (s : St) (x : AV) : Prop := GdOK l o env (ROK P o env s x) (x = .v undef)
def stepV (P : Program) (l : List Oper) (rd : Bool) (o : Oper) (env : Env) (s : St) (x : AV) : Prop := bif rd then stepR P l o env s x else stepQ P l o env x
def stepE (P : Program) (l : List Oper) (o : Oper) (env : Env) (s : St) (Y : AV → St → Prop) : Prop := GdOK l o env (EffOK P o env s Y) (Y (.v undef) s)
def vcI (P : Program) (l : List Oper) (qs : Nat → Bool) (K : Env → St → Prop) : List Nat → Env → St → Prop
  | [], env, s => K env s
  | i :: is, env, s => ∃ o, nth l i = some o ∧
      bif qs i then ∃ x, stepV P l (qs (i + 512)) o env s x ∧ vcI P l qs K is (put env o.dst x) s
      else stepE P l o env s (fun x s' => vcI P l qs K is (put env o.dst x) s')
theorem GdOK.mono {l : List Oper} {o : Oper} {env : Env} {a b a' b' : Prop} (h : GdOK l o env a b) (ha : a → a') (hb : b → b') : GdOK l o env a' b' := by
  unfold GdOK at *
  split
  · rename_i e; simp only [e] at h; exact ha h
  · rename_i j want e
    simp only [e] at h
    split
    · rename_i e2; simp only [e2] at h
    · rename_i t e2
      simp only [e2] at h
      obtain ⟨g, h1, h2, h3⟩ := h
      exact ⟨g, h1, fun e => ha (h2 e), fun e => hb (h3 e)⟩
theorem stepE.mono {P : Program} {l : List Oper} {o : Oper} {env : Env} {s : St} {Y Y' : AV → St → Prop} (hy : ∀ x s, Y x s → Y' x s) (h : stepE P l o env s Y) : stepE P l o env s Y' :=
  GdOK.mono h (EffOK.mono hy) (hy _ _)
theorem GdOK.congr {l : List Oper} {o : Oper} {env env' : Env} {a b : Prop} (h : GdOK l o env a b)
    (he : ∀ j want t, o.guard = some (j, want) → (nth l j).bind (·.dst) = some t → env t = env' t) : GdOK l o env' a b := by
  unfold GdOK at *
  split
  · rename_i e; simp only [e] at h; exact h
  · rename_i j want e
    simp only [e] at h
    split
    · rename_i e2; simp only [e2] at h
    · rename_i t e2
      simp only [e2] at h
      obtain ⟨g, h1, h2, h3⟩ := h
      exact ⟨g, by rw [← he j want t e e2]; exact h1, h2, h3⟩
def looks (l : List Oper) (o : Oper) : List Nat :=
  (o.op.operands.toList.filterMap fun | .tmp t => some t | _ => none) ++
  (match o.guard with | some (j, _) => ((nth l j).bind (·.dst)).toList | none => [])
def Agree (l : List Oper) (o : Oper) (env env' : Env) : Prop := ∀ t ∈ looks l o, env t = env' t
theorem Agree.symm {l : List Oper} {o : Oper} {env env' : Env} (h : Agree l o env env') : Agree l o env' env := fun t ht => (h t ht).symm
theorem Agree.ops {l : List Oper} {o : Oper} {env env' : Env} (h : Agree l o env env') : ∀ x ∈ o.op.operands, evA env x = evA env' x := by
  intro x hx
  cases x with
  | tmp t => exact h t (List.mem_append_left _ (List.mem_filterMap.2 ⟨.tmp t, by simpa using hx, rfl⟩))
  | const v => rfl
  | func f => rfl
  | global g => rfl
theorem Agree.guard {l : List Oper} {o : Oper} {env env' : Env} (h : Agree l o env env') : ∀ j want t, o.guard = some (j, want) → (nth l j).bind (·.dst) = some t → env t = env' t :=
  fun j want t h1 h2 => h t (List.mem_append_right _ (by simp [h1, h2]))
theorem Agree.put {l : List Oper} {o : Oper} (env : Env) {d : Option Nat} (x : AV) (h : ∀ i, d = some i → i ∉ looks l o) : Agree l o env (put env d x) := by
  intro t ht
  cases d with
  | none => rfl
  | some i =>
    have hne : t ≠ i := fun e => h i rfl (e ▸ ht)
    exact (upd_ne env x hne).symm
theorem stepQ.congr {P : Program} {l : List Oper} {o : Oper} {env env' : Env} {x : AV} (ha : Agree l o env env') (h : stepQ P l o env x) : stepQ P l o env' x :=
  (GdOK.congr h ha.guard).mono (QOK.congr ha.ops) id
theorem stepR.congr {P : Program} {l : List Oper} {o : Oper} {env env' : Env} {s : St} {x : AV} (ha : Agree l o env env') (h : stepR P l o env s x) : stepR P l o env' s x :=
  (GdOK.congr h ha.guard).mono (ROK.congr ha.ops) id
theorem stepV.congr {P : Program} {l : List Oper} {rd : Bool} {o : Oper} {env env' : Env} {s : St} {x : AV} (ha : Agree l o env env') (h : stepV P l rd o env s x) : stepV P l rd o env' s x := by
  cases rd
  · exact stepQ.congr ha h
  · exact stepR.congr ha h
theorem stepE.congr {P : Program} {l : List Oper} {o : Oper} {env env' : Env} {s : St} {Y} (ha : Agree l o env env') (h : stepE P l o env s Y) : stepE P l o env' s Y :=
  (GdOK.congr h ha.guard).mono (EffOK.congr ha.ops) id
theorem put_comm (env : Env) {d e : Option Nat} (x y : AV) (h : ∀ i, d = some i → e ≠ some i) : put (put env d x) e y = put (put env e y) d x := by
  cases d with
  | none => rfl
  | some i =>
    cases e with
    | none => rfl
    | some j => exact upd_comm env (fun e => h i rfl (by rw [e])) x y
theorem vcI.mono {P : Program} {l : List Oper} {qs : Nat → Bool} {K K' : Env → St → Prop} (hk : ∀ e s, K e s → K' e s) : ∀ is env s, vcI P l qs K is env s → vcI P l qs K' is env s
  | [], _, _, h => hk _ _ h
  | i :: is, env, s, ⟨o, h1, h2⟩ => by
    refine ⟨o, h1, ?_⟩
    cases hq : qs i
    · simp only [hq, cond_false] at h2 ⊢
      exact h2.mono fun x s' => vcI.mono hk is _ s'
    · simp only [hq, cond_true] at h2 ⊢
      obtain ⟨x, h3, h4⟩ := h2
      exact ⟨x, h3, vcI.mono hk is _ s h4⟩
def apart (l : List Oper) (a b : Oper) : Bool :=
  (match a.dst with | some d => !(looks l b).contains d && b.dst != some d | none => true) &&
  (match b.dst with | some d => !(looks l a).contains d | none => true)
theorem apart_spec {l : List Oper} {x y : Oper} (h : apart l x y = true) :
    (∀ d, x.dst = some d → d ∉ looks l y) ∧ (∀ d, x.dst = some d → y.dst ≠ some d) ∧ (∀ d, y.dst = some d → d ∉ looks l x) := by
  refine ⟨fun d hd => ?_, fun d hd => ?_, fun d hd => ?_⟩ <;> simp [apart, hd] at h
  · exact h.1.1
  · exact h.1.2
  · exact h.2
theorem vcI_swap {P : Program} {l : List Oper} {qs : Nat → Bool} {K : Env → St → Prop} {i j : Nat} {is : List Nat} {env : Env} {s : St}
    (hqi : qs i = true ∧ (qs (i + 512) = false ∨ qs j = true)) (hap : ∀ a b, nth l i = some a → nth l j = some b → apart l a b = true)
    (h : vcI P l qs K (i :: j :: is) env s) : vcI P l qs K (j :: i :: is) env s := by
  obtain ⟨a, ha, h2⟩ := h
  simp only [hqi.1, cond_true] at h2
  obtain ⟨x, h3, b, hb, h4⟩ := h2
  obtain ⟨p1, p2, p3⟩ := apart_spec (hap a b ha hb)
  have ag : Agree l b (put env a.dst x) env := (Agree.put env x p1).symm
  refine ⟨b, hb, ?_⟩
  cases hqj : qs j
  · have hr : qs (i + 512) = false := by rcases hqi.2 with h | h; exact h; rw [hqj] at h; cases h
    rw [hr] at h3
    simp only [hqj, cond_false] at h4 ⊢
    refine (h4.congr ag).mono fun y s' h5 => ?_
    refine ⟨a, ha, ?_⟩
    simp only [hqi.1, cond_true]
    refine ⟨x, ?_, by rw [← put_comm env x y p2]; exact h5⟩
    rw [hr]
    exact stepQ.congr (Agree.put env y p3) h3
  · simp only [hqj, cond_true] at h4 ⊢
    obtain ⟨y, h5, h6⟩ := h4
    refine ⟨y, h5.congr ag, a, ha, ?_⟩
    simp only [hqi.1, cond_true]
    exact ⟨x, h3.congr (Agree.put env y p3), by rw [← put_comm env x y p2]; exact h6⟩
theorem vcI_tail {P : Program} {l : List Oper} {qs : Nat → Bool} {K : Env → St → Prop} {i : Nat} {is js : List Nat} (ht : ∀ env s, vcI P l qs K is env s → vcI P l qs K js env s)
    {env : Env} {s : St} (h : vcI P l qs K (i :: is) env s) : vcI P l qs K (i :: js) env s := by
  obtain ⟨o, h1, h2⟩ := h
  refine ⟨o, h1, ?_⟩
  cases hq : qs i
  · simp only [hq, cond_false] at h2 ⊢
    exact h2.mono fun x s' => ht _ s'
  · simp only [hq, cond_true] at h2 ⊢
    obtain ⟨x, h3, h4⟩ := h2
    exact ⟨x, h3, ht _ s h4⟩
theorem vcI_front {P : Program} {l : List Oper} {qs : Nat → Bool} {K : Env → St → Prop} {j : Nat} : ∀ (as is : List Nat) (env : Env) (s : St),
    (∀ i ∈ as, (qs i = true ∧ (qs (i + 512) = false ∨ qs j = true)) ∧ ∀ a b, nth l i = some a → nth l j = some b → apart l a b = true) →
    vcI P l qs K (as ++ j :: is) env s → vcI P l qs K (j :: (as ++ is)) env s
  | [], _, _, _, _, h => h
  | i :: as, is, env, s, ha, h => by
    have h' : vcI P l qs K (i :: j :: (as ++ is)) env s := vcI_tail (fun env s => vcI_front as is env s fun k hk => ha k (by simp [hk])) h
    exact vcI_swap (ha i (by simp)).1 (ha i (by simp)).2 h'
end Go.Vc

set_option linter.unusedVariables false
namespace Go.Vc
theorem nth_eq {α : Type} : ∀ (l : List α) (i : Nat), nth l i = l[i]?
  | [], _ => by simp [nth]
  | _ :: _, 0 => by simp [nth]
  | _ :: l, i + 1 => by simp [nth, nth_eq l i]
def dstOK (N : Nat) (l : List Oper) : Bool := l.all fun o => match o.dst with | some d => decide (d < N) | none => true
theorem dstOK_spec {N : Nat} {l : List Oper} (h : dstOK N l = true) {i : Nat} {o : Oper} (ho : nth l i = some o) : ∀ d, o.dst = some d → d < N := by
  intro d hd
  rw [nth_eq] at ho
  have := List.all_eq_true.1 h o (List.mem_of_getElem? ho)
  simpa [hd] using this
def Bh (cx : Cx) (w0 : World) (s0 : St) (N : Nat) (K : Env → St → Prop) (a : Act) (w : World) : Prop :=
  ∃ env s, EnvOK cx w (Mut s) N env a ∧ Sat w s ∧ Fr w0 (Mut s0) w (Mut s) ∧ K env s
theorem Bh.mono {cx : Cx} {w0 : World} {s0 : St} {N : Nat} {K K' : Env → St → Prop} (hk : ∀ e s, K e s → K' e s) {a : Act} {w : World} (h : Bh cx w0 s0 N K a w) : Bh cx w0 s0 N K' a w := by
  obtain ⟨env, s, h1, h2, h3, h4⟩ := h
  exact ⟨env, s, h1, h2, h3, hk _ _ h4⟩
def asB : Value → Option Bool
  | .bool b => some b
  | _ => none
theorem yielded_of {l : List Oper} {j t : Nat} {g : Value} {ts : Array Value} (ht : (nth l j).bind (·.dst) = some t) (hgt : ts[t]? = some g) : yielded l.toArray ts j = asB g := by
  unfold yielded
  have : (l.toArray[j]?).bind (·.dst) = some t := by rw [← ht, nth_eq]; simp
  rw [this]
  simp only [Option.bind_some, hgt]
  cases g <;> rfl
theorem asB_want {g : Value} {want : Bool} (h : g ≠ .bool want) : (asB g == some want) = false := by
  cases g <;> simp_all [asB]
theorem wanted_of {cx : Cx} {l : List Oper} {o : Oper} {env : Env} {w : World} {M : Mset} {N : Nat} {a : Act} (he : EnvOK cx w M N env a) {run skip : Prop} (h : GdOK l o env run skip) :
    (Region.wanted o (yielded l.toArray a.tmps) = true ∧ run) ∨ (Region.wanted o (yielded l.toArray a.tmps) = false ∧ skip) := by
  unfold GdOK at h
  split at h
  · rename_i hg; exact .inl ⟨by simp [Region.wanted, hg], h⟩
  · rename_i j want hg
    split at h
    · exact h.elim
    · rename_i t ht
      obtain ⟨g, h1, h2, h3⟩ := h
      obtain ⟨hlt, hrep⟩ := he.slot t _ h1
      have hgt : a.tmps[t]? = some g := by
        have hlt' : t < a.tmps.size := by rw [he.size]; exact hlt
        have : a.tmps.getD t undef = g := hrep
        simp [Array.getD_eq_getD_getElem?, Array.getElem?_eq_getElem hlt'] at this
        rw [Array.getElem?_eq_getElem hlt', this]
      have hy := yielded_of ht hgt
      by_cases hb : g = .bool want
      · refine .inl ⟨?_, h2 hb⟩
        subst hb
        simp [Region.wanted, hg, hy, asB]
      · refine .inr ⟨?_, h3 hb⟩
        simp only [Region.wanted, hg, hy]
        exact asB_want hb
theorem Upon.defer {P : Program} {w : World} {s : St} {K : AV → St → Prop} {o : Oper} {ρ : Operand → Value} {c : Call} (ho : o.op = .defer c) : ¬ Upon P w s K ((execOp ρ o).run P w) := by
  unfold execOp
  rw [ho]
  simp only [Sem.run_bind]
  cases hr : (resolve ρ c o.type).run P w <;> simp [Result.andThen, Upon]
theorem CallsIn.fw {ro : Option Nat} {P : Program} {f : FuncId} {args : Array Value} {w : World} {R : Ending → World → Prop} (h : Calls P f args w R) : CallsIn (FW ro) 0 P f args w R :=
  (callsIn_wide (n := 0)).2 h
theorem RoundIn.fw {ro : Option Nat} {P : Program} {l : Nat} {f : FuncId} {tmps : Array Value} {assign body : Code} {w : World} {R : Ending → World → Prop} (h : RoundIn (FW none) 0 P l f tmps assign body w R) : RoundIn (FW ro) 0 P l f tmps assign body w R := h
theorem oper_in {P : Program} {ro : Option Nat} {o : Oper} {env : Env} {w : World} {s : St} {K : AV → St → Prop} {a : Act} {Q : Exit → Act → World → Prop} {next : Act → World → Prop}
    (h : Upon P w s K ((execOp a.eval o).run P w)) (fin : ∀ v w', RetOK w s K v w' → next (a.put o.dst v) w') : o.wpIn (FW ro) 0 P a w next Q := by
  unfold Oper.wpIn
  refine ⟨fun _ _ => trivial, ?_⟩
  have hsem : o.semAt (FW ro).round a.eval = execOp a.eval o := Oper.semAt_eq _ _ _ fun c hc => Upon.defer hc h
  rw [hsem]
  revert h
  generalize (execOp a.eval o).run P w = r
  intro h
  cases r with
  | halt x w' => exact h.elim
  | ok n w' =>
    cases n <;> simp only [Upon] at h <;> simp only [Oper.uponIn]
    · exact fin _ _ h
    · exact fin _ _ h
    · refine ⟨(fun e => by cases e), CallsIn.fw (Calls.mono h fun e w'' hh => ?_)⟩
      cases e with
      | returned v => exact fin _ _ hh
      | panicked c => exact hh.elim
      | outgrown => exact hh.elim
    · refine ⟨(fun e => by cases e), RoundIn.fw (RoundIn.mono h fun e w'' hh => ?_)⟩
      cases e with
      | returned v => exact fin _ _ hh
      | panicked c => exact hh.elim
      | outgrown => exact hh.elim
theorem step_sound {cx : Cx} {P : Program} {l : List Oper} {qs : Nat → Bool} {K : Env → St → Prop} {i : Nat} {is : List Nat} {env : Env} {s : St} {w : World} {a : Act} {N : Nat}
    {Q : Exit → Act → World → Prop} (hN : dstOK N l = true) (h : vcI P l qs K (i :: is) env s) (he : EnvOK cx w (Mut s) N env a) (hs : Sat w s) :
    wpOpIn (FW cx.ro) 0 P l.toArray Q i (Bh cx w s N (vcI P l qs K is)) a w := by
  obtain ⟨o, ho, h⟩ := h
  have hd := dstOK_spec hN ho
  have ho' : l.toArray[i]? = some o := by rw [nth_eq] at ho; simpa using ho
  have hrho : OpRho w (Mut s) env o a.eval := ⟨fun x _ y hy => repOp he x y hy, fun _ => rfl⟩
  unfold wpOpIn
  simp only [ho']
  have hskip : ∀ x s', s' = s → x = .v undef → vcI P l qs K is (put env o.dst x) s' → Bh cx w s N (vcI P l qs K is) (a.put o.dst undef) w := by
    rintro x s' rfl rfl hx
    exact ⟨_, _, he.put hd (show Rep w _ (.v undef) undef from rfl), hs, Fr.refl _ _, hx⟩
  cases hq : qs i
  · simp only [hq, cond_false] at h
    rcases wanted_of he h with ⟨hw, hrun⟩ | ⟨hw, hsk⟩
    · simp only [hw, if_true]
      refine oper_in (env := env) (hrun w a.eval hs hrho) ?_
      rintro v w' ⟨x, s', h1, h2, h3, h4⟩
      exact ⟨_, _, (he.mono h3).put hd h1, h2, h3, h4⟩
    · simp only [hw, Bool.false_eq_true, if_false]
      exact ⟨fun _ _ => trivial, hskip _ _ rfl rfl hsk⟩
  · simp only [hq, cond_true] at h
    obtain ⟨x, h0, h2⟩ := h
    have h1 : stepR P l o env s x := by
      cases hr : qs (i + 512) <;> rw [hr] at h0
      · exact GdOK.mono h0 (fun q => q s) id
      · exact h0
    rcases wanted_of he h1 with ⟨hw, hrun⟩ | ⟨hw, hsk⟩
    · simp only [hw, if_true]
      refine oper_in (env := env) (hrun w a.eval hs hrho) ?_
      rintro v w' ⟨_, _, g1, g2, g3, rfl, rfl⟩
      exact ⟨_, _, (he.mono g3).put hd g1, g2, g3, h2⟩
    · simp only [hw, Bool.false_eq_true, if_false]
      subst hsk
      exact ⟨fun _ _ => trivial, hskip _ _ rfl rfl h2⟩
theorem Bh.trans {cx : Cx} {w0 w1 : World} {s0 s1 : St} {N : Nat} {K : Env → St → Prop} (f : Fr w0 (Mut s0) w1 (Mut s1)) {a : Act} {w : World} (h : Bh cx w1 s1 N K a w) : Bh cx w0 s0 N K a w := by
  obtain ⟨env, s, h1, h2, h3, h4⟩ := h
  exact ⟨env, s, h1, h2, f.trans h3, h4⟩
theorem Oper_wpIn_monoQ {F : Fence} {n : Nat} {P : Program} {o : Oper} {a : Act} {w : World} {K K' : Act → World → Prop} {Q Q' : Exit → Act → World → Prop} (h : ∀ a w, K a w → K' a w)
    (hp : ∀ c a w, Q (.panic c) a w → Q' (.panic c) a w) (ho : LetsOut Q → LetsOut Q') (hh : o.wpIn F n P a w K Q) : o.wpIn F n P a w K' Q' := by
  unfold Oper.wpIn at *
  refine ⟨hh.1, ?_⟩
  have hh := hh.2
  generalize (o.semAt F.round a.eval).run P w = r at *
  cases r with
  | ok x w' =>
    cases x <;> simp only [Oper.uponIn] at hh ⊢ <;>
      first
        | exact h _ _ hh
        | exact ⟨hh.1, CallsIn.mono hh.2 (fun e w'' he => by cases e <;> first | exact h _ _ he | exact hp _ _ _ he | exact ho he)⟩
        | exact ⟨hh.1, RowsIn.mono hh.2 (fun _ _ he => h _ _ he)⟩
        | exact ⟨hh.1, RoundIn.mono hh.2 (fun e w'' he => by cases e <;> first | exact h _ _ he | exact hp _ _ _ he | exact ho he)⟩
  | halt x w' => cases x <;> simp only [Oper.uponIn] at hh ⊢ <;> first | exact hp _ _ _ hh | exact hh
theorem wpOpIn_monoQ {F : Fence} {n : Nat} {P : Program} {ops : Array Oper} {i : Nat} {a : Act} {w : World} {K K' : Act → World → Prop} {Q Q' : Exit → Act → World → Prop} (h : ∀ a w, K a w → K' a w)
    (hp : ∀ c a w, Q (.panic c) a w → Q' (.panic c) a w) (ho : LetsOut Q → LetsOut Q') (hh : wpOpIn F n P ops Q i K a w) : wpOpIn F n P ops Q' i K' a w := by
  unfold wpOpIn at *
  split
  · rename_i e; simp only [e] at hh; exact h _ _ hh
  · rename_i o e
    simp only [e] at hh
    split
    · rename_i hw; simp only [hw, if_true] at hh; exact Oper_wpIn_monoQ h hp ho hh
    · rename_i hw; simp only [hw] at hh; exact ⟨hh.1, h _ _ hh.2⟩
theorem Go_wpOps_mono {F : Fence} {n : Nat} {P : Program} {ops : Array Oper} {Q Q' : Exit → Act → World → Prop} (hn : ∀ a w, Q .normal a w → Q' .normal a w)
    (hp : ∀ c a w, Q (.panic c) a w → Q' (.panic c) a w) (ho : LetsOut Q → LetsOut Q') : ∀ (is : List Nat) (a : Act) (w : World), wpOpsIn F n P ops Q is a w → wpOpsIn F n P ops Q' is a w
  | [], a, w, h => hn a w h
  | i :: is, a, w, h => by
    rw [wpOpsIn_cons] at h ⊢
    exact wpOpIn_monoQ (fun a w h => Go_wpOps_mono hn hp ho is a w h) hp ho h
def Qn (R : Act → World → Prop) : Exit → Act → World → Prop
  | .normal, a, w => R a w
  | _, _, _ => False
theorem vcI_sound {cx : Cx} {P : Program} {l : List Oper} {qs : Nat → Bool} {K : Env → St → Prop} {N : Nat} (hN : dstOK N l = true) : ∀ (is : List Nat) (env : Env) (s : St) (w : World) (a : Act),
    vcI P l qs K is env s → EnvOK cx w (Mut s) N env a → Sat w s → wpOpsIn (FW cx.ro) 0 P l.toArray (Qn (Bh cx w s N K)) is a w
  | [], env, s, w, a, h, he, hs => ⟨env, s, he, hs, Fr.refl _ _, h⟩
  | i :: is, env, s, w, a, h, he, hs => by
    rw [wpOpsIn_cons]
    refine wpOpIn_mono ?_ (step_sound (Q := Qn (Bh cx w s N K)) hN h he hs)
    rintro a' w' ⟨env', s', h1, h2, h3, h4⟩
    refine Go_wpOps_mono ?_ ?_ ?_ is a' w' (vcI_sound hN is env' s' w' a' h4 h1 h2)
    · exact fun a w h => h.trans h3
    · exact fun _ _ _ h => h
    · exact fun ⟨_, _, h⟩ => h.elim
def befStep (acc : List Nat) (o : Oper) : Nat := o.after.toList.foldl (fun s e => if Region.binds .any e then s ||| 2 ^ e.on ||| acc.getD e.on 0 else s) 0
def befGo : List Oper → List Nat → List Nat
  | [], acc => acc
  | o :: l, acc => befGo l (acc ++ [befStep acc o])
def bef (l : List Oper) : List Nat := befGo l []
def chkPair (l : List Oper) (qs : Nat → Bool) (bf : List Nat) (i j : Nat) : Bool :=
  (bf.getD j 0).testBit i || ((qs i && (!qs (i + 512) || qs j)) && match nth l i, nth l j with | some a, some b => apart l a b | _, _ => false)
def chk (l : List Oper) (qs : Nat → Bool) (bf : List Nat) : List Nat → Bool
  | [] => true
  | i :: is => is.all (chkPair l qs bf i) && chk l qs bf is
def Closed (bf : List Nat) (listed : Nat → Prop) : Prop := ∀ j, listed j → ∀ i, (bf.getD j 0).testBit i = true → listed i
theorem testBit_foldl {listed : Nat → Prop} {acc : List Nat} (es : List Edge) (s : Nat) (i : Nat)
    (h : (es.foldl (fun s e => if Region.binds .any e then s ||| 2 ^ e.on ||| acc.getD e.on 0 else s) s).testBit i = true) :
    s.testBit i = true ∨ ∃ e ∈ es, Region.binds .any e = true ∧ (i = e.on ∨ (acc.getD e.on 0).testBit i = true) := by
  induction es generalizing s with
  | nil => exact .inl h
  | cons e es ih =>
    simp only [List.foldl_cons] at h
    rcases ih _ h with h1 | ⟨e', h1, h2, h3⟩
    · by_cases hb : Region.binds .any e = true
      · rw [if_pos hb] at h1
        simp only [Nat.testBit_or, Bool.or_eq_true] at h1
        rcases h1 with (h1 | h1) | h1
        · exact .inl h1
        · refine .inr ⟨e, by simp, hb, .inl ?_⟩
          simpa [Nat.testBit_two_pow, eq_comm] using h1
        · exact .inr ⟨e, by simp, hb, .inr h1⟩
      · rw [if_neg hb] at h1; exact .inl h1
    · exact .inr ⟨e', by simp [h1], h2, h3⟩
theorem befGo_get {l : List Oper} : ∀ (acc : List Nat) (j : Nat) , acc.length ≤ j → ∀ o, nth l (j - acc.length) = some o →
    ∃ acc', (befGo l acc).getD j 0 = befStep acc' o ∧ acc'.length = j ∧ ∀ k, k < j → acc'.getD k 0 = (befGo l acc).getD k 0 := by
  induction l with
  | nil => intro acc j hj o ho; simp [nth] at ho
  | cons x l ih =>
    intro acc j hj o ho
    have pre : ∀ (l : List Oper) (acc : List Nat) k, k < acc.length → (befGo l acc).getD k 0 = acc.getD k 0 := by
      intro l
      induction l with
      | nil => intro acc k _; rfl
      | cons y l ih2 =>
        intro acc k hk
        simp only [befGo]
        rw [ih2 _ k (by simp; omega)]
        simp [List.getD_eq_getElem?_getD, List.getElem?_append_left hk]
    simp only [befGo]
    rcases Nat.eq_or_lt_of_le hj with e | hlt
    · subst e
      simp only [Nat.sub_self, nth, Option.some.injEq] at ho
      subst ho
      refine ⟨acc, ?_, rfl, fun k hk => ?_⟩
      · rw [pre _ _ _ (by simp)]
        simp [List.getD_eq_getElem?_getD]
      · rw [pre _ _ _ (by simp; omega)]
        simp [List.getD_eq_getElem?_getD, List.getElem?_append_left hk]
    · have ho' : nth l (j - (acc ++ [befStep acc x]).length) = some o := by
        have : j - acc.length = (j - (acc ++ [befStep acc x]).length) + 1 := by simp; omega
        rw [this] at ho
        exact ho
      exact ih _ j (by simp; omega) o ho'
theorem Closed.step {l : List Oper} {listed : Nat → Prop} (hc : Closed (bef l) listed) {j : Nat} {o : Oper} (ho : nth l j = some o)
    (hr : ∀ e ∈ o.after, Region.binds .any e = true → e.on < j ∧ listed e.on) :
    (∀ i, ((bef l).getD j 0).testBit i = true → listed i) ∧ Closed (bef l) (fun i => i = j ∨ listed i) := by
  have key : ∀ i, ((bef l).getD j 0).testBit i = true → listed i := by
    intro i hi
    obtain ⟨acc, h1, h2, h3⟩ := befGo_get (l := l) [] j (Nat.zero_le _) o (by simpa using ho)
    unfold bef at hi
    rw [h1] at hi
    rcases testBit_foldl (listed := listed) _ _ i hi with h | ⟨e, h4, h5, h6⟩
    · simp at h
    · obtain ⟨hlt, hl⟩ := hr e (by simpa using h4) h5
      rcases h6 with rfl | h6
      · exact hl
      · rw [h3 e.on hlt] at h6
        exact hc e.on hl i h6
  refine ⟨key, ?_⟩
  rintro k (rfl | hk) i hi
  · exact .inr (key i hi)
  · exact .inr (hc k hk i hi)
theorem chk_at {l : List Oper} {qs : Nat → Bool} {bf : List Nat} : ∀ (as : List Nat) (j : Nat) (is : List Nat), chk l qs bf (as ++ j :: is) = true →
    (∀ i ∈ as, chkPair l qs bf i j = true) ∧ chk l qs bf (as ++ is) = true
  | [], j, is, h => ⟨by simp, by simp only [List.nil_append, chk, Bool.and_eq_true] at h ⊢; exact h.2⟩
  | a :: as, j, is, h => by
    simp only [List.cons_append, chk, Bool.and_eq_true, List.all_append, List.all_cons] at h
    obtain ⟨⟨h1, h2, h3⟩, h4⟩ := h
    obtain ⟨h5, h6⟩ := chk_at as j is h4
    refine ⟨fun i hi => ?_, ?_⟩
    · rcases List.mem_cons.1 hi with rfl | hi
      · exact h2
      · exact h5 i hi
    · simp only [List.cons_append, chk, Bool.and_eq_true, List.all_append]
      exact ⟨⟨h1, h3⟩, h6⟩
def edgesOK (l : List Oper) : Bool := (List.range l.length).all fun j => match nth l j with | some o => o.after.toList.all fun e => !Region.binds .any e || decide (e.on < j) | none => true
theorem edgesOK_spec {l : List Oper} (h : edgesOK l = true) {j : Nat} {o : Oper} (ho : nth l j = some o) : ∀ e ∈ o.after, Region.binds .any e = true → e.on < j := by
  intro e he hb
  have hlt : j < l.length := by rw [nth_eq] at ho; exact (List.getElem?_eq_some_iff.1 ho).1
  have := List.all_eq_true.1 h j (by simpa using hlt)
  simp only [ho] at this
  have := List.all_eq_true.1 this e (by simpa using he)
  simpa [hb] using this
theorem drawn_sound {cx : Cx} {P : Program} {l : List Oper} {qs : Nat → Bool} {K : Env → St → Prop} {N : Nat} (hN : dstOK N l = true) (hE : edgesOK l = true) :
    ∀ (fuel : Nat) (c : List Nat) (listed : Array Bool) (env : Env) (s : St) (w : World) (a : Act),
    chk l qs (bef l) c = true → c.Nodup → (∀ i, i ∈ c ↔ i < l.length ∧ listed.getD i true = false) → listed.size = l.length → c.length ≤ fuel →
    Closed (bef l) (fun i => listed.getD i false = true) →
    vcI P l qs K c env s → EnvOK cx w (Mut s) N env a → Sat w s →
    wpAnyIn (FW cx.ro) 0 P .any l.toArray (Qn (Bh cx w s N K)) fuel listed a w := by
  intro fuel
  induction fuel with
  | zero =>
    intro c listed env s w a hchk hnd hmem hsz hlen hcl h he hs
    have hc : c = [] := List.eq_nil_of_length_eq_zero (by omega)
    subst hc
    refine ⟨?_, env, s, he, hs, Fr.refl _ _, h⟩
    rw [List.eq_nil_iff_forall_not_mem]
    intro i hi
    obtain ⟨h1, o, h2, _⟩ := mem_ready.1 hi
    have hlt : i < l.length := by simpa using (Array.getElem?_eq_some_iff.1 h2).1
    exact absurd ((hmem i).2 ⟨hlt, h1⟩) (by simp)
  | succ fuel ih =>
    intro c listed env s w a hchk hnd hmem hsz hlen hcl h he hs
    constructor
    · intro hr
      cases c with
      | nil => exact ⟨env, s, he, hs, Fr.refl _ _, h⟩
      | cons i is =>
        exfalso
        have hex : ∃ j, j ∈ i :: is := ⟨i, by simp⟩
        obtain ⟨j, hj, hmin⟩ : ∃ j, j ∈ i :: is ∧ ∀ k, k < j → k ∉ i :: is := by
          obtain ⟨n, hn⟩ := hex
          clear h hchk hnd hmem hlen hr
          induction n using Nat.strongRecOn with
          | _ n ihn =>
            by_cases hk : ∃ k, k < n ∧ k ∈ i :: is
            · obtain ⟨k, hk1, hk2⟩ := hk
              exact ihn k hk1 hk2
            · exact ⟨n, hn, fun k hk1 hk2 => hk ⟨k, hk1, hk2⟩⟩
        obtain ⟨hlt, hl⟩ := (hmem j).1 hj
        have ho : nth l j = some l[j] := by rw [nth_eq, List.getElem?_eq_getElem hlt]
        have : j ∈ Region.ready .any l.toArray listed := by
          refine mem_ready.2 ⟨hl, l[j], by simp [hlt], fun e hee hb => ?_⟩
          have hlt' := edgesOK_spec hE ho e hee hb
          have hn := hmin e.on hlt'
          have : ¬ (e.on < l.length ∧ listed.getD e.on true = false) := fun hh => hn ((hmem _).2 hh)
          have h3 : e.on < listed.size := by rw [hsz]; omega
          have h4 : listed.getD e.on true ≠ false := fun hh => this ⟨by omega, hh⟩
          simp [Array.getD_eq_getD_getElem?, Array.getElem?_eq_getElem h3] at h4 ⊢
          exact h4
        rw [hr] at this
        simp at this
    · intro i hi
      obtain ⟨h1, o, h2, h3⟩ := mem_ready.1 hi
      have hlt : i < l.length := by simpa using (Array.getElem?_eq_some_iff.1 h2).1
      have ho : nth l i = some o := by rw [nth_eq]; simpa using h2
      have hic : i ∈ c := (hmem i).2 ⟨hlt, h1⟩
      obtain ⟨as, is, rfl⟩ := List.append_of_mem hic
      obtain ⟨hp, hchk'⟩ := chk_at as i is hchk
      obtain ⟨hneed, hcl'⟩ := hcl.step ho (fun e hee hb => ⟨edgesOK_spec hE ho e hee hb, h3 e hee hb⟩)
      have hquiet : ∀ k ∈ as, (qs k = true ∧ (qs (k + 512) = false ∨ qs i = true)) ∧ ∀ a b, nth l k = some a → nth l i = some b → apart l a b = true := by
        intro k hk
        have hpk := hp k hk
        simp only [chkPair, Bool.or_eq_true, Bool.and_eq_true] at hpk
        rcases hpk with hb | ⟨hq, hm⟩
        · exfalso
          have hl := hneed k hb
          have := ((hmem k).1 (by simp [hk])).2
          have hks : k < listed.size := by rw [hsz]; exact ((hmem k).1 (by simp [hk])).1
          simp [Array.getD_eq_getD_getElem?, Array.getElem?_eq_getElem hks] at hl this
          rw [hl] at this
          cases this
        · refine ⟨⟨hq.1, by simpa using hq.2⟩, fun a b ha hb => ?_⟩
          simpa [ha, hb] using hm
      have h' := vcI_front as is env s hquiet h
      refine wpOpIn_mono ?_ (step_sound (Q := Qn (Bh cx w s N K)) hN h' he hs)
      rintro a' w' ⟨env', s', g1, g2, g3, g4⟩
      have hnd' := hnd
      rw [List.nodup_append] at hnd'
      obtain ⟨nd1, nd2, nd3⟩ := hnd'
      have hni : i ∉ as ++ is := by
        intro hm
        rcases List.mem_append.1 hm with hm | hm
        · exact nd3 i hm i (by simp) rfl
        · exact (List.nodup_cons.1 nd2).1 hm
      have hget : ∀ d k, (listed.setIfInBounds i true).getD k d = if k = i then true else listed.getD k d := by
        intro d k
        have his : i < listed.size := by rw [hsz]; exact hlt
        by_cases e : k = i
        · subst e; simp [Array.getD_eq_getD_getElem?, his]
        · simp [Array.getD_eq_getD_getElem?, Array.getElem?_setIfInBounds_ne (Ne.symm e), e]
      refine ?_
      have hrec := ih (as ++ is) (listed.setIfInBounds i true) env' s' w' a' hchk' ?_ ?_ (by simpa using hsz) (by simp at hlen ⊢; omega) ?_ g4 g1 g2
      · revert hrec
        generalize (listed.setIfInBounds i true) = li
        intro hrec
        have mono : ∀ (fuel : Nat) (li : Array Bool) (a : Act) (w2 : World), wpAnyIn (FW cx.ro) 0 P .any l.toArray (Qn (Bh cx w' s' N K)) fuel li a w2 → wpAnyIn (FW cx.ro) 0 P .any l.toArray (Qn (Bh cx w s N K)) fuel li a w2 := by
          intro fuel
          induction fuel with
          | zero => intro li a w2 hh; exact ⟨hh.1, Bh.trans g3 hh.2⟩
          | succ fuel ihf =>
            intro li a w2 hh
            exact ⟨fun hr => Bh.trans g3 (hh.1 hr), fun k hk => wpOpIn_monoQ (ihf _) (fun _ _ _ h => h) (fun ⟨_, _, h⟩ => h.elim) (hh.2 k hk)⟩
        exact mono _ _ _ _ hrec
      · rw [List.nodup_append]
        exact ⟨nd1, (List.nodup_cons.1 nd2).2, fun x hx y hy => nd3 x hx y (by simp [hy])⟩
      · intro k
        rw [hget]
        by_cases e : k = i
        · subst e; simp [hni]
        · rw [if_neg e, ← hmem k]
          simp [e]
      · have : (fun k => (listed.setIfInBounds i true).getD k false = true) = (fun k => k = i ∨ listed.getD k false = true) := by
          funext k
          rw [hget]
          by_cases e : k = i <;> simp [e]
        rw [this]
        exact hcl'
end Go.Vc

set_option linter.unusedVariables false
namespace Go.Vc
abbrev EQ := Exit → Env → St → Prop
def VC (P : Program) (N : Nat) (c : Code) (Q : EQ) (env : Env) (s : St) : Prop :=
  ∀ cx w a, Sat w s → EnvOK cx w (Mut s) N env a → c.wpIn (FW cx.ro) 0 P (fun e => Bh cx w s N (Q e)) a w
def thenQ (next : Env → St → Prop) (Q : EQ) : EQ
  | .normal => next
  | e => Q e
def blockQ (id : Nat) (Q : EQ) : EQ
  | .exit j => if j = id then Q .normal else Q (.exit j)
  | e => Q e
section
variable {P : Program} {N : Nat} {Q : EQ} {env : Env} {s : St}
theorem VC.mono {c : Code} {Q' : EQ} (hq : ∀ e env s, Q e env s → Q' e env s) (h : VC P N c Q env s) : VC P N c Q' env s :=
  fun cx w a hs he => wpIn_mono (h cx w a hs he) (fun e _ _ hh => hh.mono (hq e))
theorem vc_seq {x y : Code} (h : VC P N x (thenQ (VC P N y Q) Q) env s) : VC P N (.seq x y) Q env s := by
  intro cx w a hs he
  refine wpIn_seq (wpIn_mono (h cx w a hs he) fun e a' w' hb => ?_)
  cases e with
  | normal =>
    obtain ⟨env', s', h1, h2, h3, h4⟩ := hb
    exact wpIn_mono (h4 cx w' a' h2 h1) fun e a2 w2 hb2 => Bh.trans h3 hb2
  | _ => exact hb
theorem vc_block {id : Nat} {c : Code} (h : VC P N c (blockQ id Q) env s) : VC P N (.block id c) Q env s := by
  intro cx w a hs he
  refine wpIn_block (wpIn_mono (h cx w a hs he) fun e a' w' hb => ?_)
  cases e with
  | exit j =>
    simp only [Exit.inBlock, blockQ] at hb ⊢
    split <;> rename_i e <;> simp only [e, if_true, if_false] at hb <;> exact hb
  | _ => exact hb
theorem vc_skip (h : Q .normal env s) : VC P N .skip Q env s := fun cx w a hs he => wpIn_skip ⟨env, s, he, hs, Fr.refl _ _, h⟩
theorem vc_exit {id : Nat} (h : Q (.exit id) env s) : VC P N (.exit id) Q env s := fun cx w a hs he => wpIn_exit ⟨env, s, he, hs, Fr.refl _ _, h⟩
theorem vc_goto {id : Nat} (h : Q (.goto id) env s) : VC P N (.goto id) Q env s := fun cx w a hs he => wpIn_goto ⟨env, s, he, hs, Fr.refl _ _, h⟩
theorem vc_label {id : Nat} (h : Q .normal env s) : VC P N (.label id) Q env s := fun cx w a hs he => wpIn_label ⟨env, s, he, hs, Fr.refl _ _, h⟩
theorem vc_ret (h : Q .ret env s) : VC P N .ret Q env s := fun cx w a hs he => wpIn_ret ⟨env, s, he, hs, Fr.refl _ _, h⟩
theorem vc_cond {c : Operand} {x y : Code} {b : Bool} (hc : evA env c = some (.v (.bool b))) (ht : b = true → VC P N x Q env s) (hf : b = false → VC P N y Q env s) : VC P N (.cond c x y) Q env s := by
  intro cx w a hs he
  exact wpIn_cond_split (repOp he c _ hc) (fun h => ht h cx w a hs he) (fun h => hf h cx w a hs he)
theorem exists_least {p : Nat → Prop} (h : ∃ n, p n) : ∃ n, p n ∧ ∀ m, p m → n ≤ m := by
  obtain ⟨n, hn⟩ := h
  induction n using Nat.strongRecOn with
  | _ n ih =>
    by_cases hk : ∃ k, k < n ∧ p k
    · obtain ⟨k, h1, h2⟩ := hk; exact ih k h1 h2
    · exact ⟨n, hn, fun m hm => Nat.le_of_not_lt fun hlt => hk ⟨m, hlt, hm⟩⟩
theorem vc_loop {c : Code} (I : Nat → Env → St → Prop) (n0 : Nat) (h0 : I n0 env s)
    (hr : ∀ n env s, I n env s → VC P N c (thenQ (fun env' s' => ∃ m, m < n ∧ I m env' s') Q) env s) : VC P N (.loop c) Q env s := by
  intro cx w a hs he
  let J : Nat → Act → World → Prop := fun n => Bh cx w s N (I n)
  let μ : Act → World → Nat := fun a w => open Classical in if h : ∃ n, J n a w then Classical.choose (exists_least h) else 0
  have hμ : ∀ a w n, J n a w → μ a w ≤ n ∧ J (μ a w) a w := by
    intro a w n hn
    have hex : ∃ n, J n a w := ⟨n, hn⟩
    have e : μ a w = Classical.choose (exists_least hex) := by
      exact @dif_pos _ (Classical.propDecidable _) hex _ _ _
    rw [e]
    exact ⟨(Classical.choose_spec (exists_least hex)).2 n hn, (Classical.choose_spec (exists_least hex)).1⟩
  refine wpIn_loop (fun a w => ∃ n, J n a w) μ ⟨n0, env, s, he, hs, Fr.refl _ _, h0⟩ ?_
  rintro a1 w1 ⟨n, hn⟩
  obtain ⟨_, env1, s1, h1, h2, h3, h4⟩ := hμ a1 w1 n hn
  refine wpIn_mono (hr _ env1 s1 h4 cx w1 a1 h2 h1) fun e a2 w2 hb => ?_
  cases e with
  | normal =>
    obtain ⟨env2, s2, g1, g2, g3, m, g4, g5⟩ := hb
    have hm : J m a2 w2 := ⟨env2, s2, g1, g2, h3.trans g3, g5⟩
    exact ⟨⟨m, hm⟩, Nat.lt_of_le_of_lt (hμ a2 w2 m hm).1 g4⟩
  | _ => exact Bh.trans h3 hb
theorem vc_region {id : Nat} {l : List Oper} (qs : Nat → Bool) (hN : dstOK N l = true)
    (h : vcI P l qs (Q .normal) (List.range l.length) env s) : VC P N (.region id l.toArray false) Q env s := by
  intro cx w a hs he
  refine wpIn_region ?_
  have := vcI_sound hN _ env s w a h he hs
  rw [List.size_toArray]
  exact Go_wpOps_mono (Q := Qn _) (Q' := fun e => Bh cx w s N (Q e)) (fun _ _ h => h) (fun _ _ _ h => False.elim h) (fun ⟨_, _, h⟩ => False.elim h) _ _ _ this
theorem wpAny_mono {F : Fence} {n : Nat} {md : Region.Mode} {ops : Array Oper} {R R' : Act → World → Prop} {Q' : Exit → Act → World → Prop} (h : ∀ a w, R a w → R' a w) (hq : ∀ a w, R' a w → Q' .normal a w) : ∀ (fuel : Nat) (li : Array Bool) (a : Act) (w : World), wpAnyIn F n P md ops (Qn R) fuel li a w → wpAnyIn F n P md ops Q' fuel li a w := by
  intro fuel
  induction fuel with
  | zero => intro li a w hh; exact ⟨hh.1, hq _ _ (h _ _ hh.2)⟩
  | succ fuel ihf =>
    intro li a w hh
    exact ⟨fun hr => hq _ _ (h _ _ (hh.1 hr)), fun k hk => wpOpIn_monoQ (ihf _) (fun _ _ _ h => h.elim) (fun ⟨_, _, h⟩ => h.elim) (hh.2 k hk)⟩
def nodupB : List Nat → Bool
  | [] => true
  | i :: is => !is.contains i && nodupB is
theorem nodupB_spec : ∀ (l : List Nat), nodupB l = true → l.Nodup
  | [], _ => List.nodup_nil
  | i :: is, h => by
    simp only [nodupB, Bool.and_eq_true, Bool.not_eq_true'] at h
    exact List.nodup_cons.2 ⟨by simpa using h.1, nodupB_spec is h.2⟩
def drawOK (N : Nat) (l : List Oper) (qs : Nat → Bool) (c : List Nat) : Bool :=
  dstOK N l && edgesOK l && chk l qs (bef l) c && nodupB c && Nat.beq c.length l.length && c.all fun i => Nat.blt i l.length
theorem length_le_of_lt : ∀ (n : Nat) (c : List Nat), c.Nodup → (∀ i ∈ c, i < n) → c.length ≤ n
  | 0, c, _, h => by
    cases c with
    | nil => simp
    | cons i is => exact absurd (h i (by simp)) (by omega)
  | n + 1, c, hnd, h => by
    by_cases hm : n ∈ c
    · have h1 := length_le_of_lt n (c.erase n) (hnd.erase n) fun i hi => by
        have h2 := h i (List.mem_of_mem_erase hi)
        have h3 : i ≠ n := fun e => by subst e; exact absurd hi (by simpa using (hnd.not_mem_erase))
        omega
      rw [List.length_erase_of_mem hm] at h1
      omega
    · have := length_le_of_lt n c hnd fun i hi => by
        have h2 := h i hi
        have h3 : i ≠ n := fun e => hm (e ▸ hi)
        omega
      omega
theorem fill_of {n : Nat} : ∀ (c : List Nat), c.Nodup → c.length = n → (∀ i ∈ c, i < n) → ∀ i, i < n → i ∈ c := by
  intro c hnd hlen hlt i hi
  by_cases h : i ∈ c
  · exact h
  · exfalso
    have h1 : (i :: c).Nodup := List.nodup_cons.2 ⟨h, hnd⟩
    have h3 := length_le_of_lt n (i :: c) h1 fun x hx => by
      rcases List.mem_cons.1 hx with rfl | hx
      · exact hi
      · exact hlt x hx
    simp at h3
    omega
theorem Sat.drew {w : World} {s : St} (hs : Sat w s) : Sat { w with drawn := w.drawn + 1 } s ∧ Fr w (Mut s) { w with drawn := w.drawn + 1 } (Mut s) :=
  hs.ext rfl rfl rfl (Nat.le_refl _) (fun _ _ => rfl)
theorem vc_regionD {id : Nat} {l : List Oper} (hm : P.follows .mixedOrders = true) (qs : Nat → Bool) (c : List Nat) (hc : drawOK N l qs c = true)
    (h : vcI P l qs (Q .normal) c env s) : VC P N (.region id l.toArray true) Q env s := by
  intro cx w a hs he
  simp only [drawOK, Bool.and_eq_true] at hc
  obtain ⟨⟨⟨⟨⟨hN, hE⟩, hck⟩, hnd⟩, hlen⟩, hlt⟩ := hc
  have hnd := nodupB_spec c hnd
  have hlen : c.length = l.length := Nat.eq_of_beq_eq_true hlen
  have hlt : ∀ i ∈ c, i < l.length := fun i hi => by
    have := List.all_eq_true.1 hlt i hi
    exact Nat.lt_of_lt_of_le (Nat.lt_succ_self i) (Nat.le_of_ble_eq_true this)
  refine wpIn_region_any hm ?_
  obtain ⟨hs', hf⟩ := hs.drew
  have := drawn_sound (cx := cx) (P := P) (K := Q .normal) hN hE l.length c (Array.replicate l.length false) env s { w with drawn := w.drawn + 1 } a hck hnd
    (fun i => ⟨fun hi => ⟨hlt i hi, by simp [Array.getD_eq_getD_getElem?, hlt i hi]⟩, fun ⟨hi, _⟩ => fill_of c hnd hlen hlt i hi⟩)
    (by simp) (by omega) (fun j hj => by
      exfalso
      by_cases hjl : j < l.length
      · simp [Array.getD_eq_getD_getElem?, hjl] at hj
      · have : (Array.replicate l.length false)[j]? = none := by simp; omega
        simp [Array.getD_eq_getD_getElem?, this] at hj) h (he.mono hf) hs'
  rw [List.size_toArray]
  exact wpAny_mono (fun a w hb => Bh.trans hf hb) (fun _ _ hb => hb) _ _ _ _ this
def Cv (s s' : St) (x x' : AV) : Prop := ∀ w y, Sat w s → Rep w (Mut s) x y → Rep w (Mut s') x' y
def Cvs (s s' : St) (xs xs' : List AV) : Prop := ∀ w us, Sat w s → RepL w (Mut s) xs us → RepL w (Mut s') xs' us
theorem Cv.le {s' : St} (h : Le s' s) (x : AV) : Cv s s' x x := fun w y _ hr => Rep.mono (Fr.of_le h) _ _ hr
theorem Cv.ale {s' : St} (h : Le s' s) {x x' : AV} (ha : ALe x x') : Cv s s' x x' := fun w y _ hr => ha w _ y (Rep.mono (Fr.of_le h) _ _ hr)
theorem Cvs.nil {s' : St} : Cvs s s' [] [] := fun _ _ _ h => h
theorem Cvs.cons {s' : St} {x x' : AV} {xs xs' : List AV} (h : Cv s s' x x') (hs : Cvs s s' xs xs') : Cvs s s' (x :: xs) (x' :: xs') :=
  fun w us hsat ⟨u, us', h1, h2, h3⟩ => ⟨u, us', h1, h w u hsat h2, hs w us' hsat h3⟩
theorem Cv.tup {s' : St} {xs xs' : List AV} (h : Cvs s s' xs xs') : Cv s s' (.tup xs) (.tup xs') := fun w y hs ⟨us, h1, h2⟩ => ⟨us, h1, h w us hs h2⟩
theorem Cv.agg {s' : St} {xs xs' : List AV} (h : Cvs s s' xs xs') : Cv s s' (.agg xs) (.agg xs') := fun w y hs ⟨us, h1, h2⟩ => ⟨us, h1, h w us hs h2⟩
def CvEnv (s s' : St) (env env' : Env) : Prop := ∀ i x', env' i = some x' → ∃ x, env i = some x ∧ Cv s s' x x'
def mk : List (Nat × AV) → Env
  | [], _ => none
  | (j, x) :: l, i => bif Nat.beq i j then some x else mk l i
theorem CvEnv.nil {s' : St} : CvEnv s s' env (mk []) := fun _ _ h => by cases h
theorem CvEnv.cons {s' : St} {l : List (Nat × AV)} (i : Nat) {x x' : AV} (h : env i = some x) (hc : Cv s s' x x') (hl : CvEnv s s' env (mk l)) : CvEnv s s' env (mk ((i, x') :: l)) := by
  intro j y hy
  simp only [mk] at hy
  cases hb : Nat.beq j i with
  | true =>
    obtain rfl := Nat.eq_of_beq_eq_true hb
    rw [hb] at hy
    simp only [cond_true, Option.some.injEq] at hy
    subst hy
    exact ⟨x, h, hc⟩
  | false => rw [hb] at hy; exact hl j y hy
theorem EnvOK.conv {cx : Cx} {w : World} {s' : St} {env' : Env} {a : Act} (hl : Le s' s) (hs : Sat w s) (he : EnvOK cx w (Mut s) N env a) (hc : CvEnv s s' env env') : EnvOK cx w (Mut s') N env' a :=
  ⟨he.defers.mono (Fr.of_le hl), (he.mono (Fr.of_le hl)).rnd, he.bs, he.size, fun i x' hx => by
    obtain ⟨x, h1, h2⟩ := hc i x' hx
    obtain ⟨h3, h4⟩ := he.slot i x h1
    exact ⟨h3, h2 w _ hs h4⟩⟩
theorem vc_conv {c : Code} {s' : St} {env' : Env} (hl : Le s' s) (hc : CvEnv s s' env env') (h : VC P N c Q env' s') : VC P N c Q env s := by
  intro cx w a hs he
  exact wpIn_mono (h cx w a (hs.le hl) (he.conv hl hs hc)) fun e a2 w2 hb => Bh.trans (Fr.of_le hl) hb
theorem vc_env {c : Code} {env' : Env} (hc : CvEnv s s env env') (h : VC P N c Q env' s) : VC P N c Q env s := vc_conv (Le.refl s) hc h
theorem Cv.frz {s' : St} (hl : Le s' s) {k e sz n : Nat} {xs : List (List AV)} (hk : s k = some (.arr e sz xs)) (hk' : s' k = none) (hn : n ≤ xs.length) :
    Cv s s' (.hdr k sz n) (.sl sz (xs.take n)) := by
  rintro w y hs ⟨cap, e', rfl, h2, h3, h4⟩
  obtain ⟨cap', cur, g1, g2, g3, g4, g5⟩ := hs.ok k _ hk
  have hnm : ¬ Mut s' k := by
    rintro ⟨j, r, h5, h6⟩
    have := hs.disj j r k _ k (hl j r h5) hk h6 rfl
    subst this
    rw [hk'] at h5; cases h5
  have hsh : w.shape? k = some (e, cur.size) := by simp [World.shape?, g1]
  rw [h4] at hsh
  have hsz : cap * sz = cur.size := by
    injection hsh with hsh; injection hsh
  have rows : ∀ (xs : List (List AV)) (us : List Value) n, n ≤ xs.length → RepRows w (Mut s) sz xs us → RepRows w (Mut s') sz (xs.take n) (us.take (n * sz)) := by
    intro xs
    induction xs with
    | nil => intro us n hn hr; have : n = 0 := by simpa using hn
             subst this; simp [RepRows]
    | cons x xs ih =>
      intro us n hn hr
      cases n with
      | zero => simp [RepRows]
      | succ n =>
        obtain ⟨u, us', rfl, r1, r2, r3⟩ := hr
        refine ⟨u, us'.take (n * sz), ?_, r1, RepL.mono (Fr.of_le hl) _ _ r2, ih us' n (by simpa using hn) r3⟩
        rw [List.take_append, r1, Nat.succ_mul]
        have e1 : u.take (n * sz + sz) = u := List.take_of_length_le (by omega)
        rw [e1]
        congr 2
        omega
  have hr := rows xs _ n hn g5
  rw [List.take_take] at hr
  have hmin : min (n * sz) (xs.length * sz) = n * sz := Nat.min_eq_left (Nat.mul_le_mul_right _ hn)
  rw [hmin] at hr
  have hlen : (xs.take n).length = n := by simp; omega
  refine ⟨some ⟨k, 0, none⟩, cap, cur.toList.take (n * sz), by rw [hlen], by rw [hlen]; exact h2, h3, hr, .inr ⟨k, 0, rfl, fun _ => hnm, fun j u hj => ?_⟩⟩
  rw [List.getElem?_take] at hj
  split at hj
  · simp only [World.cell?, g1, Nat.zero_add, Option.isSome_none, Bool.false_eq_true, if_false]
    simpa using hj
  · cases hj
def RetA (P : Program) (N : Nat) (fn : Func) (K : AV → St → Prop) (env : Env) (s : St) : Prop :=
  ∀ cx w a, Sat w s → EnvOK cx w (Mut s) N env a → ∃ v, (results fn a.tmps).run P w = .ok v w ∧ RetOK w s K v w
def bodyQ (P : Program) (N : Nat) (fn : Func) (K : AV → St → Prop) : EQ
  | .normal => RetA P N fn K
  | .ret => RetA P N fn K
  | _ => fun _ _ => False
theorem RepL.length {w : World} {M : Mset} : ∀ {as : List AV} {us : List Value}, RepL w M as us → us.length = as.length
  | [], _, h => by cases h; rfl
  | a :: as, us, ⟨u, us', h1, h2, h3⟩ => by subst h1; simp [RepL.length h3]
theorem RepL.get {w : World} {M : Mset} : ∀ {as : List AV} {us : List Value}, RepL w M as us → ∀ i x, nth as i = some x → ∃ u, us[i]? = some u ∧ Rep w M x u
  | [], _, _, i, x, hx => by cases hx
  | a :: as, us, ⟨u, us', h1, h2, h3⟩, 0, x, hx => by cases hx; subst h1; exact ⟨u, rfl, h2⟩
  | a :: as, us, ⟨u, us', h1, h2, h3⟩, i + 1, x, hx => by
    obtain ⟨v, h4, h5⟩ := RepL.get h3 i x hx
    subst h1
    exact ⟨v, by simpa using h4, h5⟩
theorem leaves_marks {w : World} {K : AV → St → Prop} {fn : Func} {s' : St} {tmps : Array Value} {base : Nat} (hbase : w.heap.size ≤ base)
    (fin : ∀ w1, Sat w1 s' → Fr w (Mut s) w1 (Mut s') → EnvOK ⟨none, base⟩ w1 (Mut s') N env { tmps := tmps, defers := [] } → ∃ v, (results fn tmps).run P w1 = .ok v w1 ∧ EndOK w s K (.returned v) w1) :
    ∀ (Ds : List Nat) (w1 : World), Ds.Nodup → (∀ D ∈ Ds, base ≤ D ∧ w1.heap[D]? = some (.deferred (some [])) ∧ ¬ Mut s' D) → Sat w1 s' → Fr w (Mut s) w1 (Mut s') → EnvOK ⟨none, base⟩ w1 (Mut s') N env { tmps := tmps, defers := [] } →
      LeavesInM (FW none) 0 P fn tmps (EndOK w s K) (Ds.map fun D => { target := .collected D, args := #[] }) .returning w1
  | [], w1, _, _, h1, h2, h3 => fin w1 h1 h2 h3
  | D :: Ds, w1, hnd, hD, h1, h2, h3 => by
    obtain ⟨g1, g2, g3⟩ := hD D (by simp)
    have hlt : D < w1.heap.size := (Array.getElem?_eq_some_iff.1 g2).1
    obtain ⟨hnd1, hnd2⟩ := List.nodup_cons.1 hnd
    have hsz : (w1.putObj D (.deferred none)).heap.size = w1.heap.size := by simp [World.putObj]
    have ho : ∀ b, b ≠ D → (w1.putObj D (.deferred none)).heap[b]? = w1.heap[b]? := fun b hb => World.putObj_heap_other hb
    have hsame : (w1.putObj D (.deferred none)).heap[D]? = some (.deferred none) := World.putObj_heap_same hlt
    have hsh : ∀ b, (w1.putObj D (.deferred none)).shape? b = w1.shape? b := fun b => by
      by_cases e : b = D
      · subst e; simp [World.shape?, hsame, g2]
      · unfold World.shape?; rw [ho b e]
    have hf : FrL w1 (Mut s') (w1.putObj D (.deferred none)) (Mut s') := ⟨by rw [hsz]; exact Nat.le_refl _, fun b hb hm => by
      by_cases e : b = D
      · subst e; exact .inl ⟨_, g2, .inr ⟨_, rfl⟩⟩
      · exact .inr ⟨ho b e, hm⟩, fun b _ => hsh b⟩
    refine ⟨by simp, .inl ⟨D, w1.putObj D (.deferred none), rfl, run_takeDeferred g2, ?_⟩⟩
    refine leaves_marks hbase fin Ds _ hnd2 (fun E hE => ?_) (h1.turn hf fun b hb => ho b fun e => g3 (e ▸ hb)) ?_ ⟨Marks.nil, fun l hl => (by cases hl), by rw [hsz]; exact h3.bs, h3.size, fun i x hx => ⟨(h3.slot i x hx).1, Rep.monoL hf _ _ (h3.slot i x hx).2⟩⟩
    · obtain ⟨k1, k2, k3⟩ := hD E (by simp [hE])
      exact ⟨k1, (ho E fun e => hnd1 (e ▸ hE)).trans k2, k3⟩
    · exact ⟨h2.os, h2.tape, h2.output, by rw [hsz]; exact h2.size, fun b hb hm => by
        obtain ⟨k1, k2⟩ := h2.keep b hb hm
        exact ⟨(ho b (by omega)).trans k1, k2⟩, fun b hb => (hsh b).trans (h2.shape b hb)⟩
theorem callsA_of {f : FuncId} {fn : Func} {c : Code} {avs : List AV} {K : AV → St → Prop} (hf : P.funcs[f]? = some fn) (hb : fn.body = some c) (hn : fn.ntmps = N)
    (hlen : avs.length ≤ N) (h : VC P N c (bodyQ P N fn K) (nth avs) s) : CallsA P f avs s K := by
  intro w vs hs hr
  refine (callsIn_wide (n := 0)).1 (callsIn_of_wp_marks hf hb trivial ?_ rfl)
  have hvl := RepL.length hr
  have he : EnvOK ⟨none, w.heap.size⟩ w (Mut s) N (nth avs) { tmps := vs.toArray ++ Array.replicate (fn.ntmps - vs.toArray.size) undef, defers := [] } := by
    refine ⟨Marks.nil, fun l hl => (by cases hl), Nat.le_refl _, by simp [hn]; omega, fun i x hx => ?_⟩
    obtain ⟨u, h1, h2⟩ := RepL.get hr i x hx
    have hi : i < vs.length := (List.getElem?_eq_some_iff.1 h1).1
    refine ⟨by omega, ?_⟩
    have : (vs.toArray ++ Array.replicate (fn.ntmps - vs.toArray.size) undef).getD i undef = u := by
      simp [Array.getD_eq_getD_getElem?, Array.getElem?_append, hi]
      simpa [List.getElem?_eq_getElem hi] using h1
    rw [this]
    exact h2
  refine wpIn_mono (h ⟨none, w.heap.size⟩ w _ hs he) fun e a' w' hb => ?_
  obtain ⟨env', s', h1, h2, h3, h4⟩ := hb
  have fin : RetA P N fn K env' s' → LeavesInM (FW none) 0 P fn a'.tmps (EndOK w s K) a'.defers .returning w' := by
    intro hret
    obtain ⟨Ds, g1, g2, g3⟩ := h1.defers
    rw [g1]
    refine leaves_marks (env := env') (Nat.le_refl _) (fun w1 k1 k2 k3 => ?_) Ds w' g2 g3 h2 h3 ⟨Marks.nil, fun l hl => (by cases hl), h1.bs, h1.size, h1.slot⟩
    obtain ⟨v, q1, r, s'', q2, q3, q4, q5⟩ := hret _ w1 _ k1 k3
    exact ⟨v, q1, r, s'', q2, q3, k2.trans q4, q5⟩
  cases e with
  | normal => exact fin h4
  | ret => exact fin h4
  | _ => exact h4.elim
theorem ret0 {fn : Func} {K : AV → St → Prop} {s' : St} (hres : fn.results = #[]) (hl : Le s' s) (hk : K (.tup []) s') : RetA P N fn K env s := by
  intro cx w a hs he
  exact ⟨.tuple #[], results_none hres _ _ _, .tup [], s', ⟨[], rfl, rfl⟩, hs.le hl, Fr.of_le hl, hk⟩
theorem ret1 {fn : Func} {K : AV → St → Prop} {s' : St} {t : Nat} {x r : AV} (hres : fn.results = #[.tmp t]) (hx : env t = some x) (hl : Le s' s) (hc : Cv s s' x r) (hk : K r s') : RetA P N fn K env s := by
  intro cx w a hs he
  exact ⟨_, results_tmp hres _ _ _, r, s', hc w _ hs (he.slot t x hx).2, hs.le hl, Fr.of_le hl, hk⟩
theorem ret2 {fn : Func} {K : AV → St → Prop} {s' : St} {t t2 : Nat} {x r x2 r2 : AV} (hres : fn.results = #[.tmp t, .tmp t2]) (hx : env t = some x) (hx2 : env t2 = some x2) (hl : Le s' s)
    (hc : Cv s s' x r) (hc2 : Cv s s' x2 r2) (hk : K (.tup [r, r2]) s') : RetA P N fn K env s := by
  intro cx w a hs he
  exact ⟨_, results_tmp2 hres _ _ _, .tup [r, r2], s', ⟨[_, _], rfl, _, _, rfl, hc w _ hs (he.slot t x hx).2, _, _, rfl, hc2 w _ hs (he.slot t2 x2 hx2).2, rfl⟩, hs.le hl, Fr.of_le hl, hk⟩
theorem results_tmp3' {fn : Func} {t u v : Tmp} (h : fn.results = #[.tmp t, .tmp u, .tmp v]) (tmps : Array Value) (P : Program) (w : World) :
    (results fn tmps).run P w = .ok (.tuple #[tmps.getD t undef, tmps.getD u undef, tmps.getD v undef]) w := by
  simp [results, h]
theorem ret3 {fn : Func} {K : AV → St → Prop} {s' : St} {t t2 t3 : Nat} {x r x2 r2 x3 r3 : AV} (hres : fn.results = #[.tmp t, .tmp t2, .tmp t3]) (hx : env t = some x) (hx2 : env t2 = some x2) (hx3 : env t3 = some x3) (hl : Le s' s)
    (hc : Cv s s' x r) (hc2 : Cv s s' x2 r2) (hc3 : Cv s s' x3 r3) (hk : K (.tup [r, r2, r3]) s') : RetA P N fn K env s := by
  intro cx w a hs he
  exact ⟨_, results_tmp3' hres _ _ _, .tup [r, r2, r3], s', ⟨[_, _, _], rfl, _, _, rfl, hc w _ hs (he.slot t x hx).2, _, _, rfl, hc2 w _ hs (he.slot t2 x2 hx2).2, _, _, rfl, hc3 w _ hs (he.slot t3 x3 hx3).2, rfl⟩, hs.le hl, Fr.of_le hl, hk⟩
end
end Go.Vc

set_option linter.unusedVariables false
set_option linter.unusedSimpArgs false
namespace Go.Vc
section
variable {P : Program} {l : List Oper} {qs : Nat → Bool} {K : Env → St → Prop} {i : Nat} {is : List Nat} {env : Env} {s : St}
variable {d : Nat} {op : Op} {ty : TypeId} {pos : String} {af : Array Edge}
theorem stepV_of {rd : Bool} {o : Oper} {x : AV} (h : stepQ P l o env x) : stepV P l rd o env s x := by
  cases rd
  · exact h
  · exact GdOK.mono h (fun q => q s) id
theorem vr {x : AV} (ho : nth l i = some ⟨some d, op, ty, pos, af, none⟩) (hq : qs i = true) (hr : qs (i + 512) = true) (h : ROK P ⟨some d, op, ty, pos, af, none⟩ env s x)
    (k : vcI P l qs K is (upd env d x) s) : vcI P l qs K (i :: is) env s :=
  ⟨_, ho, by rw [hq, hr]; exact ⟨x, h, k⟩⟩
theorem vq {x : AV} (ho : nth l i = some ⟨some d, op, ty, pos, af, none⟩) (hq : qs i = true) (h : QOK P ⟨some d, op, ty, pos, af, none⟩ env x)
    (k : vcI P l qs K is (upd env d x) s) : vcI P l qs K (i :: is) env s :=
  ⟨_, ho, by rw [hq]; exact ⟨x, stepV_of h, k⟩⟩
theorem ve (ho : nth l i = some ⟨some d, op, ty, pos, af, none⟩) (hq : qs i = false)
    (h : EffOK P ⟨some d, op, ty, pos, af, none⟩ env s fun x s' => vcI P l qs K is (upd env d x) s') : vcI P l qs K (i :: is) env s :=
  ⟨_, ho, by rw [hq]; exact h⟩
theorem vn (ho : nth l i = some ⟨none, op, ty, pos, af, none⟩) (hq : qs i = false)
    (h : EffOK P ⟨none, op, ty, pos, af, none⟩ env s fun _ s' => vcI P l qs K is env s') : vcI P l qs K (i :: is) env s :=
  ⟨_, ho, by rw [hq]; exact h⟩
theorem vend (k : K env s) : vcI P l qs K [] env s := k
variable {dst : Option Nat} {j : Nat} {want : Bool} {t : Nat} {g : Value}
theorem gq_run {x : AV} (ho : nth l i = some ⟨some d, op, ty, pos, af, some (j, want)⟩) (hq : qs i = true) (ht : (nth l j).bind (·.dst) = some t) (hg : env t = some (.v g)) (hw : g = .bool want)
    (h : QOK P ⟨some d, op, ty, pos, af, some (j, want)⟩ env x) (k : vcI P l qs K is (upd env d x) s) : vcI P l qs K (i :: is) env s := by
  refine ⟨_, ho, ?_⟩
  rw [hq]
  refine ⟨x, stepV_of ?_, k⟩
  simp only [stepQ, GdOK, ht]
  exact ⟨g, hg, fun _ => h, fun e => absurd hw e⟩
theorem ge_run (ho : nth l i = some ⟨dst, op, ty, pos, af, some (j, want)⟩) (hq : qs i = false) (ht : (nth l j).bind (·.dst) = some t) (hg : env t = some (.v g)) (hw : g = .bool want)
    (h : EffOK P ⟨dst, op, ty, pos, af, some (j, want)⟩ env s fun x s' => vcI P l qs K is (put env dst x) s') : vcI P l qs K (i :: is) env s := by
  refine ⟨_, ho, ?_⟩
  rw [hq]
  simp only [cond_false, stepE, GdOK, ht]
  exact ⟨g, hg, fun _ => h, fun e => absurd hw e⟩
theorem g_skip (ho : nth l i = some ⟨dst, op, ty, pos, af, some (j, want)⟩) (ht : (nth l j).bind (·.dst) = some t) (hg : env t = some (.v g)) (hw : g ≠ .bool want)
    (k : vcI P l qs K is (put env dst (.v undef)) s) : vcI P l qs K (i :: is) env s := by
  refine ⟨_, ho, ?_⟩
  cases hq : qs i
  · simp only [cond_false, stepE, GdOK, ht]
    exact ⟨g, hg, fun e => absurd e hw, fun _ => k⟩
  · refine ⟨.v undef, stepV_of ?_, k⟩
    simp only [stepQ, GdOK, ht]
    exact ⟨g, hg, fun e => absurd e hw, fun _ => trivial⟩
end
def isSc (P : Program) (t : TypeId) : Bool := match P.underlying t with
  | some (.struct _) | some (.array _ _) => false
  | some _ => match P.info? t with | some i => Nat.beq i.size 1 | none => false
  | none => false
def agN (P : Program) (t : TypeId) : Option Nat := match P.underlying t with
  | some (.struct _) | some (.array _ _) => (P.info? t).map (·.size)
  | _ => none
def foA (P : Program) (t : TypeId) (f : Nat) : Option (Nat × Nat) := match P.underlying t with
  | some (.struct fs) => match fs[f]? with
    | some x => (P.info? x.type).map fun i => (x.offset, i.size)
    | none => none
  | _ => none
def slT (P : Program) (t : TypeId) : Option (TypeId × Nat × Nat) := match P.underlying t with
  | some (.slice e) => (P.info? e).map fun i => (e, i.size, i.bytes)
  | _ => none
def zrA (P : Program) (t : TypeId) : Option (List Value) := match P.info? t with
  | some i => match i.zero with | some v => bif Nat.beq v.cells.size i.size then some v.cells.toList else none | none => none
  | none => none
def inK (P : Program) (t : TypeId) : Option IntKind := match P.underlying t with
  | some (.int k) => some k
  | _ => none
def isSt (P : Program) (t : TypeId) : Bool := match P.underlying t with
  | some .string => true
  | _ => false
theorem isAgg_sc {P : Program} {t : TypeId} (h : isSc P t = true) (w : World) : (isAgg t).run P w = .ok false w := by
  unfold isSc at h
  unfold isAgg
  cases hu : P.underlying t with
  | none => simp [hu] at h
  | some d => cases d <;> simp [hu] at h <;> simp [run_underlying hu]
theorem isAgg_ag {P : Program} {t n : Nat} (h : agN P t = some n) (w : World) : (isAgg t).run P w = .ok true w ∧ (sizeOf t).run P w = .ok n w := by
  unfold agN at h
  have hs : ∀ i, P.info? t = some i → i.size = n → (sizeOf t).run P w = .ok n w := by
    intro i hi e; simp [sizeOf, typeInfo, hi, e]
  unfold isAgg
  cases hu : P.underlying t with
  | none => simp [hu] at h
  | some d =>
    cases hi : P.info? t with
    | none => cases d <;> simp [hu, hi] at h
    | some i => cases d <;> simp [hu, hi] at h <;> exact ⟨by simp [run_underlying hu], hs i hi h⟩
theorem size_sc {P : Program} {t : TypeId} (h : isSc P t = true) (w : World) : (sizeOf t).run P w = .ok 1 w := by
  unfold isSc at h
  cases hu : P.underlying t with
  | none => simp [hu] at h
  | some d =>
    cases hi : P.info? t with
    | none => cases d <;> simp [hu, hi] at h
    | some i =>
      have : i.size = 1 := by cases d <;> simp [hu, hi] at h <;> exact h
      simp [sizeOf, typeInfo, hi, this]
theorem slT_spec {P : Program} {t e sz b : Nat} (h : slT P t = some (e, sz, b)) : P.underlying t = some (.slice e) ∧ ∃ i, P.info? e = some i ∧ i.size = sz ∧ i.bytes = b := by
  unfold slT at h
  cases hu : P.underlying t with
  | none => simp [hu] at h
  | some d =>
    cases d with
    | slice e' =>
      cases hi : P.info? e' with
      | none => simp [hu, hi] at h
      | some i =>
        simp [hu, hi] at h
        obtain ⟨rfl, h2, h3⟩ := h
        exact ⟨rfl, i, hi, h2, h3⟩
    | _ => simp [hu] at h
theorem sizeOf_el {P : Program} {t e sz b : Nat} (h : slT P t = some (e, sz, b)) (w : World) : (sizeOf e).run P w = .ok sz w := by
  obtain ⟨_, i, hi, h1, _⟩ := slT_spec h
  simp [sizeOf, typeInfo, hi, h1]
theorem foA_spec {P : Program} {t f o n : Nat} (h : foA P t f = some (o, n)) : ∃ fs x i, P.underlying t = some (.struct fs) ∧ fs[f]? = some x ∧ P.info? x.type = some i ∧ x.offset = o ∧ i.size = n := by
  unfold foA at h
  cases hu : P.underlying t with
  | none => simp [hu] at h
  | some d =>
    cases d with
    | struct fs =>
      cases hx : fs[f]? with
      | none => simp [hu, hx] at h
      | some x =>
        cases hi : P.info? x.type with
        | none => simp [hu, hx, hi] at h
        | some i =>
          simp [hu, hx, hi] at h
          exact ⟨fs, x, i, rfl, hx, hi, h.1, h.2⟩
    | _ => simp [hu] at h
theorem Rep_v {w : World} {M : Mset} {x y : Value} : Rep w M (.v x) y ↔ y = x := Iff.rfl
theorem cellsAt.drop {w : World} {M : Mset} {b off : Nat} {us vs : List Value} (h : cellsAt w M b off (us ++ vs)) : cellsAt w M b (off + us.length) vs := by
  refine ⟨fun hne => h.1 (by cases us <;> simp_all), fun j u hj => ?_⟩
  have := h.2 (us.length + j) u (by rw [List.getElem?_append_right (by omega)]; simpa using hj)
  simpa [Nat.add_assoc] using this
theorem cellsAt.take {w : World} {M : Mset} {b off : Nat} {us vs : List Value} (h : cellsAt w M b off (us ++ vs)) : cellsAt w M b off us := by
  refine ⟨fun hne => h.1 (by cases us <;> simp_all), fun j u hj => h.2 j u ?_⟩
  have hlt : j < us.length := (List.getElem?_eq_some_iff.1 hj).1
  rw [List.getElem?_append_left hlt]; exact hj
theorem RepL.append {w : World} {M : Mset} : ∀ {as bs : List AV} {us : List Value}, RepL w M (as ++ bs) us ↔ ∃ u v, us = u ++ v ∧ RepL w M as u ∧ RepL w M bs v
  | [], bs, us => ⟨fun h => ⟨[], us, rfl, rfl, h⟩, fun ⟨u, v, h1, h2, h3⟩ => by cases h2; simpa [h1] using h3⟩
  | a :: as, bs, us => by
    constructor
    · rintro ⟨u, us', rfl, h2, h3⟩
      obtain ⟨x, y, rfl, h4, h5⟩ := RepL.append.1 h3
      exact ⟨u :: x, y, rfl, ⟨u, x, rfl, h2, h4⟩, h5⟩
    · rintro ⟨x, y, rfl, ⟨u, us', rfl, h2, h3⟩, h4⟩
      exact ⟨u, us' ++ y, rfl, h2, RepL.append.2 ⟨us', y, rfl, h3, h4⟩⟩
section
variable {P : Program} {env : Env} {s : St} {d : Option Nat} {ty : TypeId} {pos : String} {af : Array Edge} {gd : Option (Nat × Bool)}
variable {a b : Operand} {x y : AV} {t : TypeId}
theorem q_of {o : Oper} (h : ∀ w s ρ, Sat w s → OpRho w (Mut s) env o ρ → ∃ v, (execOp ρ o).run P w = .ok (.value v) w ∧ Rep w (Mut s) x v) : QOK P o env x :=
  QOK.intro fun w s ρ hs hr => by
    obtain ⟨v, h1, h2⟩ := h w s ρ hs hr
    exact ⟨v, w, h1, h2, hs, Fr.refl _ _⟩
theorem q_move (h : evA env a = some x) : QOK P ⟨d, .move a, ty, pos, af, gd⟩ env x :=
  q_of fun w s ρ hs hr => ⟨ρ a, rfl, hr.1 a (by simp [Op.operands]) x h⟩
theorem q_assign (h : evA env a = some x) : QOK P ⟨d, .assign a, ty, pos, af, gd⟩ env x :=
  q_of fun w s ρ hs hr => ⟨ρ a, rfl, hr.1 a (by simp [Op.operands]) x h⟩
theorem q_pick {c : Operand} {p : Bool} (h : evA env c = some (.v (.bool p))) (ha : p = true → evA env a = some x) (hb : p = false → evA env b = some x) : QOK P ⟨d, .pick c a b, ty, pos, af, gd⟩ env x :=
  q_of fun w s ρ hs hr => by
    have hc : ρ c = .bool p := hr.1 c (by simp [Op.operands]) _ h
    cases p
    · exact ⟨ρ b, by simp [execOp, hc, asBool], hr.1 b (by simp [Op.operands]) x (hb rfl)⟩
    · exact ⟨ρ a, by simp [execOp, hc, asBool], hr.1 a (by simp [Op.operands]) x (ha rfl)⟩
theorem q_load {cs : List AV} (hT : isSc P t = true) (h : evA env a = some (.box (x :: cs))) : QOK P ⟨d, .load t a, ty, pos, af, gd⟩ env x :=
  q_of fun w s ρ hs hr => by
    obtain ⟨b, off, us, h1, ⟨u, us', rfl, h2, h3⟩, h4⟩ := hr.1 a (by simp [Op.operands]) _ h
    have hc := h4.2 0 u rfl
    rw [Nat.add_zero] at hc
    refine ⟨u, ?_, h2⟩
    simp [execOp, h1, Instr.loadAt, Instr.sureAddr, loadVar, isAgg_sc hT, hc]
theorem q_loadN {cs ds : List AV} {n : Nat} (hT : agN P t = some n) (h : evA env a = some (.box (cs ++ ds))) (hn : cs.length = n) : QOK P ⟨d, .load t a, ty, pos, af, gd⟩ env (.agg cs) :=
  q_of fun w s ρ hs hr => by
    obtain ⟨b, off, us, h1, h2, h4⟩ := hr.1 a (by simp [Op.operands]) _ h
    obtain ⟨u, v, rfl, h5, h6⟩ := RepL.append.1 h2
    have hl : u.length = n := (RepL.length h5).trans hn
    refine ⟨.agg u.toArray, ?_, u, rfl, h5⟩
    have hrun := run_loadCells_list (P := P) w ⟨b, off, none⟩ u fun j z hj => by
      rw [Addr.add_lit]; exact h4.take.2 j z hj
    rw [hl] at hrun
    simp [execOp, h1, Instr.loadAt, Instr.sureAddr, loadVar, isAgg_ag hT, hrun]
theorem q_loadA {cs : List AV} {n : Nat} (hT : agN P t = some n) (h : evA env a = some (.box cs)) (hn : cs.length = n) : QOK P ⟨d, .load t a, ty, pos, af, gd⟩ env (.agg cs) :=
  q_loadN (ds := []) hT (by simpa using h) hn
def ptv (k off : Nat) : AV := .v (.pointer (some ⟨k, off, none⟩))
def epv (k sz i j : Nat) : AV := .v (.pointer (some ⟨k, i * sz + j, none⟩))
theorem run_fieldAt {t f o n : Nat} (hT : foA P t f = some (o, n)) (hn : n ≠ 0) (w : World) (b off : Nat) : (Instr.fieldAt t (.pointer (some ⟨b, off, none⟩)) f).run P w = .ok (.pointer (some ⟨b, off + o, none⟩)) w := by
  obtain ⟨fs, z, i, h1, h2, h3, h4, h5⟩ := foA_spec hT
  simp [Instr.fieldAt, run_underlying h1, h2, Instr.sureAddr, fieldPlace, sizeOf, typeInfo, h3, h5, hn, Addr.add_lit, h4]
theorem q_field {f o n : Nat} {cs : List AV} (hT : foA P t f = some (o, n + 1)) (h : evA env a = some (.box cs)) (hn : o ≤ cs.length) : QOK P ⟨d, .fieldAddr t a f, ty, pos, af, gd⟩ env (.box (cs.drop o)) :=
  q_of fun w s ρ hs hr => by
    obtain ⟨b, off, us, h1, h2, h4⟩ := hr.1 a (by simp [Op.operands]) _ h
    have hsp : cs = cs.take o ++ cs.drop o := (List.take_append_drop o cs).symm
    rw [hsp] at h2
    obtain ⟨u, v, rfl, h5, h6⟩ := RepL.append.1 h2
    have hl : u.length = o := by rw [RepL.length h5]; simp; omega
    refine ⟨.pointer (some ⟨b, off + o, none⟩), ?_, b, off + o, v, rfl, h6, by rw [← hl]; exact h4.drop⟩
    simp [execOp, h1, run_fieldAt hT]
theorem q_fieldP {f o n k off : Nat} (hT : foA P t f = some (o, n + 1)) (h : evA env a = some (ptv k off)) : QOK P ⟨d, .fieldAddr t a f, ty, pos, af, gd⟩ env (ptv k (off + o)) :=
  q_of fun w s ρ hs hr => by
    have h1 : ρ a = _ := hr.1 a (by simp [Op.operands]) _ h
    exact ⟨_, by simp [execOp, h1, run_fieldAt hT], rfl⟩
theorem q_fieldE {f o n k sz i j : Nat} (hT : foA P t f = some (o, n + 1)) (h : evA env a = some (epv k sz i j)) : QOK P ⟨d, .fieldAddr t a f, ty, pos, af, gd⟩ env (epv k sz i (j + o)) :=
  q_of fun w s ρ hs hr => by
    have h1 : ρ a = _ := hr.1 a (by simp [Op.operands]) _ h
    refine ⟨.pointer (some ⟨k, i * sz + j + o, none⟩), by simp [execOp, h1, run_fieldAt hT], ?_⟩
    simp only [epv, Rep, Nat.add_assoc]
theorem q_nil {k off : Nat} (h : evA env a = some (ptv k off)) : QOK P ⟨d, .nilCheck a, ty, pos, af, gd⟩ env (ptv k off) :=
  q_of fun w s ρ hs hr => by
    have h1 : ρ a = _ := hr.1 a (by simp [Op.operands]) _ h
    exact ⟨_, by simp [execOp, h1], rfl⟩
theorem q_nilB {cs : List AV} (h : evA env a = some (.box cs)) : QOK P ⟨d, .nilCheck a, ty, pos, af, gd⟩ env (.box cs) :=
  q_of fun w s ρ hs hr => by
    have h0 := hr.1 a (by simp [Op.operands]) _ h
    obtain ⟨b, off, us, h1, h2, h4⟩ := h0
    exact ⟨.pointer (some ⟨b, off, none⟩), by simp [execOp, h1], ⟨b, off, us, rfl, h2, h4⟩⟩
theorem q_nilE {k sz i j : Nat} (h : evA env a = some (epv k sz i j)) : QOK P ⟨d, .nilCheck a, ty, pos, af, gd⟩ env (epv k sz i j) :=
  q_of fun w s ρ hs hr => by
    have h1 : ρ a = _ := hr.1 a (by simp [Op.operands]) _ h
    exact ⟨_, by simp [execOp, h1], rfl⟩
theorem RepRows.get {w : World} {M : Mset} {sz : Nat} : ∀ {xs : List (List AV)} {us : List Value}, RepRows w M sz xs us → ∀ i e, nth xs i = some e →
    ∃ p u q, us = p ++ (u ++ q) ∧ p.length = i * sz ∧ u.length = sz ∧ RepL w M e u
  | [], _, _, i, e, h => by cases h
  | x :: xs, us, ⟨u, us', h1, h2, h3, h4⟩, 0, e, h => by cases h; exact ⟨[], u, us', by simpa using h1, by simp, h2, h3⟩
  | x :: xs, us, ⟨u, us', h1, h2, h3, h4⟩, i + 1, e, h => by
    obtain ⟨p, v, q, h5, h6, h7, h8⟩ := RepRows.get h4 i e h
    exact ⟨u ++ p, v, q, by simp [h1, h5], by simp [h2, h6, Nat.succ_mul]; omega, h7, h8⟩
theorem RepRows.length {w : World} {M : Mset} {sz : Nat} : ∀ {xs : List (List AV)} {us : List Value}, RepRows w M sz xs us → us.length = xs.length * sz
  | [], _, h => by cases h; simp
  | x :: xs, us, ⟨u, us', h1, h2, h3, h4⟩ => by simp [h1, h2, RepRows.length h4, Nat.succ_mul]; omega
theorem nth_lt {α : Type} {xs : List α} {i : Nat} {e : α} (h : nth xs i = some e) : i < xs.length := by
  rw [nth_eq] at h; exact (List.getElem?_eq_some_iff.1 h).1
theorem run_indexAt {t e sz bb : Nat} (hT : slT P t = some (e, sz, bb)) (w : World) (b off len c : Nat) (k : IntKind) (n : Int) (h0 : 0 ≤ n) (h1 : n < len) :
    (Instr.indexAt t (.slice (some ⟨b, off, none⟩) len c) (.int k n)).run P w = .ok (.pointer (some ⟨b, off + n.toNat * sz, none⟩)) w := by
  obtain ⟨hu, i, hi, hs, _⟩ := slT_spec hT
  simp [Instr.indexAt, asIntOf, run_underlying hu, h0, h1, sizeOf, typeInfo, hi, hs, Addr.add_lit]
theorem q_index {e sz bb : Nat} {xs : List (List AV)} {k : IntKind} {n : Int} {el : List AV} (hT : slT P t = some (e, sz, bb)) (ha : evA env a = some (.sl sz xs)) (hb : evA env b = some (.v (.int k n)))
    (h0 : 0 ≤ n) (hel : nth xs n.toNat = some el) : QOK P ⟨d, .indexAddr t a b, ty, pos, af, gd⟩ env (.box el) :=
  q_of fun w s ρ hs hr => by
    obtain ⟨ad, c, us, h1, h2, h3, h4, h5⟩ := hr.1 a (by simp [Op.operands]) _ ha
    have h6 : ρ b = .int k n := hr.1 b (by simp [Op.operands]) _ hb
    have hlt := nth_lt hel
    rcases h5 with h5 | ⟨bl, off, rfl, h5⟩
    · subst h5; simp at hlt
    · obtain ⟨p, u, q, rfl, h7, h8, h9⟩ := RepRows.get h4 _ _ hel
      refine ⟨.pointer (some ⟨bl, off + n.toNat * sz, none⟩), ?_, bl, _, u, rfl, h9, by rw [← h7]; exact h5.drop.take⟩
      simp [execOp, h1, h6, run_indexAt hT w bl off xs.length c k n h0 (by omega)]
theorem q_indexX {e sz bb : Nat} {xs : List (List AV)} {k : IntKind} {n : Int} {el : List AV} (hT : slT P t = some (e, sz, bb)) (ha : evA env a = some (.slx sz xs)) (hb : evA env b = some (.v (.int k n)))
    (h0 : 0 ≤ n) (hel : nth xs n.toNat = some el) : QOK P ⟨d, .indexAddr t a b, ty, pos, af, gd⟩ env (.box el) :=
  q_of fun w s ρ hs hr => by
    obtain ⟨ad, us, h1, h3, h4, h5⟩ := hr.1 a (by simp [Op.operands]) _ ha
    have h6 : ρ b = .int k n := hr.1 b (by simp [Op.operands]) _ hb
    have hlt := nth_lt hel
    rcases h5 with h5 | ⟨bl, off, rfl, h5⟩
    · subst h5; simp at hlt
    · obtain ⟨p, u, q, rfl, h7, h8, h9⟩ := RepRows.get h4 _ _ hel
      refine ⟨.pointer (some ⟨bl, off + n.toNat * sz, none⟩), ?_, bl, _, u, rfl, h9, by rw [← h7]; exact h5.drop.take⟩
      simp [execOp, h1, h6, run_indexAt hT w bl off xs.length xs.length k n h0 (by omega)]
theorem q_indexH {e sz bb m kb : Nat} {k : IntKind} {n : Int} (hT : slT P t = some (e, sz, bb)) (ha : evA env a = some (.hdr kb sz m)) (hb : evA env b = some (.v (.int k n)))
    (h0 : 0 ≤ n) (h1 : n < m) : QOK P ⟨d, .indexAddr t a b, ty, pos, af, gd⟩ env (epv kb sz n.toNat 0) :=
  q_of fun w s ρ hs hr => by
    obtain ⟨cap, e', g1, g2, g3, g4⟩ := hr.1 a (by simp [Op.operands]) _ ha
    have h6 : ρ b = .int k n := hr.1 b (by simp [Op.operands]) _ hb
    refine ⟨.pointer (some ⟨kb, 0 + n.toNat * sz, none⟩), by simp [execOp, g1, h6, run_indexAt hT w kb 0 m cap k n h0 h1], by simp [epv, Rep]⟩
def lenA : AV → Option Nat
  | .sl _ xs => some xs.length
  | .slx _ xs => some xs.length
  | .hdr _ _ n => some n
  | .v (.slice _ n _) => some n
  | _ => none
theorem lenA_spec {w : World} {M : Mset} {x : AV} {n : Nat} {y : Value} (h : lenA x = some n) (hr : Rep w M x y) : ∃ ad c, y = .slice ad n c := by
  unfold lenA at h
  split at h <;> cases h
  · obtain ⟨ad, c, us, h1, _⟩ := hr; exact ⟨ad, c, h1⟩
  · obtain ⟨ad, us, h1, _⟩ := hr; exact ⟨ad, _, h1⟩
  · obtain ⟨c, e, h1, _⟩ := hr; exact ⟨_, c, h1⟩
  · cases hr; exact ⟨_, _, rfl⟩
theorem q_len {e : Nat × Nat × Nat} {n : Nat} (hT : slT P t = some e) (ha : evA env a = some x) (hn : lenA x = some n) : QOK P ⟨d, .call ⟨.builtin .len, #[a], #[t]⟩, ty, pos, af, gd⟩ env (.v (.int .i64 n)) :=
  q_of fun w s ρ hs hr => by
    obtain ⟨ad, c, h1⟩ := lenA_spec hn (hr.1 a (by simp [Op.operands, Call.operands]) _ ha)
    obtain ⟨e1, e2, e3⟩ := e
    obtain ⟨hu, _⟩ := slT_spec hT
    exact ⟨_, by simp [execOp, resolve, invoke, builtin, h1, Builtin.len_, run_underlying hu, goInt], rfl⟩
theorem q_lenS {z : ByteArray} (hT : isSt P t = true) (ha : evA env a = some (.v (.string z))) : QOK P ⟨d, .call ⟨.builtin .len, #[a], #[t]⟩, ty, pos, af, gd⟩ env (.v (.int .i64 z.size)) :=
  q_of fun w s ρ hs hr => by
    have h1 : ρ a = _ := hr.1 a (by simp [Op.operands, Call.operands]) _ ha
    have hu : P.underlying t = some .string := by
      unfold isSt at hT; split at hT <;> simp_all
    exact ⟨_, by simp [execOp, resolve, invoke, builtin, h1, Builtin.len_, run_underlying hu, goInt], rfl⟩
theorem q_max {k k' : IntKind} {m n : Int} {ts : Array TypeId} (ha : evA env a = some (.v (.int k m))) (hb : evA env b = some (.v (.int k' n))) : QOK P ⟨d, .call ⟨.builtin .max, #[a, b], ts⟩, ty, pos, af, gd⟩ env (.v (.int k (max m n))) :=
  q_of fun w s ρ hs hr => by
    have h1 : ρ a = _ := hr.1 a (by simp [Op.operands, Call.operands]) _ ha
    have h2 : ρ b = _ := hr.1 b (by simp [Op.operands, Call.operands]) _ hb
    refine ⟨_, by simp [execOp, resolve, invoke, builtin, h1, h2, Builtin.max_, Builtin.max2]; rfl, ?_⟩
    simp only [Rep]; congr 1; split <;> omega
theorem q_min {k k' : IntKind} {m n : Int} {ts : Array TypeId} (ha : evA env a = some (.v (.int k m))) (hb : evA env b = some (.v (.int k' n))) : QOK P ⟨d, .call ⟨.builtin .min, #[a, b], ts⟩, ty, pos, af, gd⟩ env (.v (.int k (min m n))) :=
  q_of fun w s ρ hs hr => by
    have h1 : ρ a = _ := hr.1 a (by simp [Op.operands, Call.operands]) _ ha
    have h2 : ρ b = _ := hr.1 b (by simp [Op.operands, Call.operands]) _ hb
    refine ⟨_, by simp [execOp, resolve, invoke, builtin, h1, h2, Builtin.min_, Builtin.min2]; rfl, ?_⟩
    simp only [Rep]; congr 1; split <;> omega
theorem q_extract {xs : List AV} {n : Nat} (ha : evA env a = some (.tup xs)) (hx : nth xs n = some x) : QOK P ⟨d, .extract a n, ty, pos, af, gd⟩ env x :=
  q_of fun w s ρ hs hr => by
    obtain ⟨us, h1, h2⟩ := hr.1 a (by simp [Op.operands]) _ ha
    obtain ⟨u, h3, h4⟩ := RepL.get h2 n x hx
    exact ⟨u, by simp [execOp, h1, Instr.extract, h3], h4⟩
end
end Go.Vc

set_option linter.unusedVariables false
set_option linter.unusedSimpArgs false
namespace Go.Vc
section
variable {P : Program} {env : Env} {s : St} {d : Option Nat} {ty : TypeId} {pos : String} {af : Array Edge} {gd : Option (Nat × Bool)}
variable {a b : Operand} {x y : AV} {t t2 : TypeId} {K : AV → St → Prop}
theorem w64 {x : Int} (h : -9223372036854775808 ≤ x ∧ x ≤ 9223372036854775807) : IntKind.i64.wrap x = x := by rw [IntKind.wrap_i64]; omega
theorem q_bin {op : BinOp} {k : IntKind} {m n : Int} {v : Value} (ha : evA env a = some (.v (.int k m))) (hb : evA env b = some (.v (.int k n)))
    (h : ∀ w, (binOp op t (.int k m) (.int k n)).run P w = .ok v w) : QOK P ⟨d, .binOp op t a b t2, ty, pos, af, gd⟩ env (.v v) :=
  q_of fun w s ρ hs hr => by
    have h1 : ρ a = _ := hr.1 a (by simp [Op.operands]) _ ha
    have h2 : ρ b = _ := hr.1 b (by simp [Op.operands]) _ hb
    refine ⟨v, ?_, rfl⟩
    simp only [execOp, h1, h2]
    have hg : (eqGuard op t a b (.int k m) (.int k n)).run P w = .ok () w := by
      unfold eqGuard; split <;> simp
    simp [hg, h w]
theorem q_add {k : IntKind} {m n r : Int} (ha : evA env a = some (.v (.int k m))) (hb : evA env b = some (.v (.int k n))) (hr : k.wrap (m + n) = r) : QOK P ⟨d, .binOp .add t a b t2, ty, pos, af, gd⟩ env (.v (.int k r)) :=
  q_bin ha hb fun w => by simp [binOp, Op.intArith, hr]
theorem q_sub {k : IntKind} {m n r : Int} (ha : evA env a = some (.v (.int k m))) (hb : evA env b = some (.v (.int k n))) (hr : k.wrap (m - n) = r) : QOK P ⟨d, .binOp .sub t a b t2, ty, pos, af, gd⟩ env (.v (.int k r)) :=
  q_bin ha hb fun w => by simp [binOp, Op.intArith, hr]
theorem q_mul {k : IntKind} {m n r : Int} (ha : evA env a = some (.v (.int k m))) (hb : evA env b = some (.v (.int k n))) (hr : k.wrap (m * n) = r) : QOK P ⟨d, .binOp .mul t a b t2, ty, pos, af, gd⟩ env (.v (.int k r)) :=
  q_bin ha hb fun w => by simp [binOp, Op.intArith, hr]
theorem q_quo {k : IntKind} {m n r : Int} (ha : evA env a = some (.v (.int k m))) (hb : evA env b = some (.v (.int k n))) (hn : n ≠ 0) (hr : k.wrap (m.tdiv n) = r) : QOK P ⟨d, .binOp .quo t a b t2, ty, pos, af, gd⟩ env (.v (.int k r)) :=
  q_bin ha hb fun w => by simp [binOp, Op.intDiv, hr, hn]
theorem q_rem {k : IntKind} {m n r : Int} (ha : evA env a = some (.v (.int k m))) (hb : evA env b = some (.v (.int k n))) (hn : n ≠ 0) (hr : m.tmod n = r) : QOK P ⟨d, .binOp .rem t a b t2, ty, pos, af, gd⟩ env (.v (.int k r)) :=
  q_bin ha hb fun w => by simp [binOp, Op.intDiv, hr, hn]
theorem q_eq {k : IntKind} {m n : Int} (ha : evA env a = some (.v (.int k m))) (hb : evA env b = some (.v (.int k n))) : QOK P ⟨d, .binOp .eql t a b t2, ty, pos, af, gd⟩ env (.v (.bool (decide (m = n)))) :=
  q_bin ha hb fun w => by
    simp only [binOp, Op.intCmp]
    rw [if_neg (by simp)]
    rfl
theorem q_ne {k : IntKind} {m n : Int} (ha : evA env a = some (.v (.int k m))) (hb : evA env b = some (.v (.int k n))) : QOK P ⟨d, .binOp .neq t a b t2, ty, pos, af, gd⟩ env (.v (.bool (decide (m ≠ n)))) :=
  q_bin ha hb fun w => by
    have : (m != n) = decide (m ≠ n) := by show (!decide (m = n)) = decide (m ≠ n); simp
    simp [binOp, Op.intCmp, this]
theorem q_lt {k : IntKind} {m n : Int} (ha : evA env a = some (.v (.int k m))) (hb : evA env b = some (.v (.int k n))) : QOK P ⟨d, .binOp .lss t a b t2, ty, pos, af, gd⟩ env (.v (.bool (decide (m < n)))) :=
  q_bin ha hb fun w => by simp [binOp, Op.intCmp]
theorem q_le {k : IntKind} {m n : Int} (ha : evA env a = some (.v (.int k m))) (hb : evA env b = some (.v (.int k n))) : QOK P ⟨d, .binOp .leq t a b t2, ty, pos, af, gd⟩ env (.v (.bool (decide (m ≤ n)))) :=
  q_bin ha hb fun w => by simp [binOp, Op.intCmp]
theorem q_gt {k : IntKind} {m n : Int} (ha : evA env a = some (.v (.int k m))) (hb : evA env b = some (.v (.int k n))) : QOK P ⟨d, .binOp .gtr t a b t2, ty, pos, af, gd⟩ env (.v (.bool (decide (n < m)))) :=
  q_bin ha hb fun w => by simp [binOp, Op.intCmp]
theorem q_ge {k : IntKind} {m n : Int} (ha : evA env a = some (.v (.int k m))) (hb : evA env b = some (.v (.int k n))) : QOK P ⟨d, .binOp .geq t a b t2, ty, pos, af, gd⟩ env (.v (.bool (decide (n ≤ m)))) :=
  q_bin ha hb fun w => by simp [binOp, Op.intCmp]
def bitsV (op : BinOp) (k : IntKind) (m n : Int) : Int :=
  match op with
  | .and => k.wrap ((BitVec.ofInt k.bits m &&& BitVec.ofInt k.bits n).toNat : Int)
  | .or => k.wrap ((BitVec.ofInt k.bits m ||| BitVec.ofInt k.bits n).toNat : Int)
  | .xor => k.wrap ((BitVec.ofInt k.bits m ^^^ BitVec.ofInt k.bits n).toNat : Int)
  | _ => k.wrap ((BitVec.ofInt k.bits m &&& ~~~ BitVec.ofInt k.bits n).toNat : Int)
theorem q_and {k : IntKind} {m n r : Int} (ha : evA env a = some (.v (.int k m))) (hb : evA env b = some (.v (.int k n))) (hr : bitsV .and k m n = r) : QOK P ⟨d, .binOp .and t a b t2, ty, pos, af, gd⟩ env (.v (.int k r)) :=
  q_bin ha hb fun w => by simp [binOp, Op.intBits, ← hr, bitsV]
theorem q_or {k : IntKind} {m n r : Int} (ha : evA env a = some (.v (.int k m))) (hb : evA env b = some (.v (.int k n))) (hr : bitsV .or k m n = r) : QOK P ⟨d, .binOp .or t a b t2, ty, pos, af, gd⟩ env (.v (.int k r)) :=
  q_bin ha hb fun w => by simp [binOp, Op.intBits, ← hr, bitsV]
theorem q_xor {k : IntKind} {m n r : Int} (ha : evA env a = some (.v (.int k m))) (hb : evA env b = some (.v (.int k n))) (hr : bitsV .xor k m n = r) : QOK P ⟨d, .binOp .xor t a b t2, ty, pos, af, gd⟩ env (.v (.int k r)) :=
  q_bin ha hb fun w => by simp [binOp, Op.intBits, ← hr, bitsV]
theorem q_andNot {k : IntKind} {m n r : Int} (ha : evA env a = some (.v (.int k m))) (hb : evA env b = some (.v (.int k n))) (hr : bitsV .andNot k m n = r) : QOK P ⟨d, .binOp .andNot t a b t2, ty, pos, af, gd⟩ env (.v (.int k r)) :=
  q_bin ha hb fun w => by simp [binOp, Op.intBits, ← hr, bitsV]
theorem q_shift {op : BinOp} {k k' : IntKind} {m n : Int} {v : Value} (ha : evA env a = some (.v (.int k m))) (hb : evA env b = some (.v (.int k' n)))
    (hop : op = .shl ∨ op = .shr) (h : ∀ w, (Op.shift op k m k' n).run P w = .ok v w) : QOK P ⟨d, .binOp op t a b t2, ty, pos, af, gd⟩ env (.v v) :=
  q_of fun w s ρ hs hr => by
    have h1 : ρ a = _ := hr.1 a (by simp [Op.operands]) _ ha
    have h2 : ρ b = _ := hr.1 b (by simp [Op.operands]) _ hb
    refine ⟨v, ?_, rfl⟩
    simp only [execOp, h1, h2]
    have hg : (eqGuard op t a b (.int k m) (.int k' n)).run P w = .ok () w := by
      unfold eqGuard; split <;> simp
    rcases hop with rfl | rfl <;> simp [hg, binOp, h w]
theorem q_shl {k k' : IntKind} {m n r : Int} (ha : evA env a = some (.v (.int k m))) (hb : evA env b = some (.v (.int k' n))) (h0 : 0 ≤ n) (hr : k.wrap (m * 2 ^ (min n.toNat k.bits)) = r) : QOK P ⟨d, .binOp .shl t a b t2, ty, pos, af, gd⟩ env (.v (.int k r)) :=
  q_shift ha hb (.inl rfl) fun w => by
    have : ¬ n < 0 := by omega
    simp [Op.shift, this, hr]
theorem q_shr {k k' : IntKind} {m n r : Int} (ha : evA env a = some (.v (.int k m))) (hb : evA env b = some (.v (.int k' n))) (h0 : 0 ≤ n) (hr : m.fdiv (2 ^ (min n.toNat k.bits)) = r) : QOK P ⟨d, .binOp .shr t a b t2, ty, pos, af, gd⟩ env (.v (.int k r)) :=
  q_shift ha hb (.inr rfl) fun w => by
    have : ¬ n < 0 := by omega
    simp [Op.shift, this, hr]
theorem q_not {p : Bool} (ha : evA env a = some (.v (.bool p))) : QOK P ⟨d, .unOp .not t a, ty, pos, af, gd⟩ env (.v (.bool (!p))) :=
  q_of fun w s ρ hs hr => by
    have h1 : ρ a = _ := hr.1 a (by simp [Op.operands]) _ ha
    exact ⟨.bool (!p), by simp [execOp, h1, Op.unary], rfl⟩
theorem q_neg {k : IntKind} {m r : Int} (ha : evA env a = some (.v (.int k m))) (hr : k.wrap (0 - m) = r) : QOK P ⟨d, .unOp .neg t a, ty, pos, af, gd⟩ env (.v (.int k r)) :=
  q_of fun w s ρ hs hr' => by
    have h1 : ρ a = _ := hr'.1 a (by simp [Op.operands]) _ ha
    refine ⟨.int k r, ?_, rfl⟩
    simp only [execOp, h1, Op.unary, Op.intArith, hr]
    simp
theorem q_conv {k k' : IntKind} {m r : Int} (hs : (P.underlying t).isSome = true) (hk : inK P t2 = some k') (ha : evA env a = some (.v (.int k m))) (hr : k'.wrap m = r) : QOK P ⟨d, .convert t t2 a, ty, pos, af, gd⟩ env (.v (.int k' r)) :=
  q_of fun w s ρ hs' hr' => by
    have h1 : ρ a = _ := hr'.1 a (by simp [Op.operands]) _ ha
    obtain ⟨du, hu⟩ := Option.isSome_iff_exists.1 hs
    have hu2 : P.underlying t2 = some (.int k') := by
      unfold inK at hk; split at hk <;> simp_all
    refine ⟨.int k' r, ?_, rfl⟩
    simp [execOp, h1, convert, run_underlying hu, run_underlying hu2, Conv.intToInt, hr]
def isBo (P : Program) (t : TypeId) : Bool := match P.underlying t with
  | some .bool => true
  | _ => false
theorem run_equalInB {w : World} (h : P.underlying t = some .bool) (p q : Bool) (n : Nat) : (Op.equalIn (n + 1) t (.bool p) (.bool q)).run P w = .ok (p == q) w := by
  simp only [Op.equalIn]
  simp [run_underlying h]
theorem run_equalB {w : World} (h : P.underlying t = some .bool) (p q : Bool) : (Op.equal t (.bool p) (.bool q)).run P w = .ok (p == q) w :=
  run_equalInB h p q 9999
theorem q_eqB {p q : Bool} (hT : isBo P t = true) (ha : evA env a = some (.v (.bool p))) (hb : evA env b = some (.v (.bool q))) : QOK P ⟨d, .binOp .eql t a b t2, ty, pos, af, gd⟩ env (.v (.bool (p == q))) :=
  q_of fun w s ρ hs hr => by
    have h1 : ρ a = _ := hr.1 a (by simp [Op.operands]) _ ha
    have h2 : ρ b = _ := hr.1 b (by simp [Op.operands]) _ hb
    have hu : P.underlying t = some .bool := by unfold isBo at hT; split at hT <;> simp_all
    refine ⟨.bool (p == q), ?_, rfl⟩
    have hb' : binOp .eql t (.bool p) (.bool q) = (do pure (.bool (← Op.equal t (.bool p) (.bool q)))) := rfl
    have hg : (eqGuard .eql t a b (.bool p) (.bool q)).run P w = .ok () w := by simp [eqGuard]
    simp only [execOp, h1, h2, hb', Sem.run_bind, Sem.run_pure, Result.andThen_ok, run_equalB hu, hg]
theorem q_neB {p q : Bool} (hT : isBo P t = true) (ha : evA env a = some (.v (.bool p))) (hb : evA env b = some (.v (.bool q))) : QOK P ⟨d, .binOp .neq t a b t2, ty, pos, af, gd⟩ env (.v (.bool (p != q))) :=
  q_of fun w s ρ hs hr => by
    have h1 : ρ a = _ := hr.1 a (by simp [Op.operands]) _ ha
    have h2 : ρ b = _ := hr.1 b (by simp [Op.operands]) _ hb
    have hu : P.underlying t = some .bool := by unfold isBo at hT; split at hT <;> simp_all
    refine ⟨.bool (p != q), ?_, rfl⟩
    have hb' : binOp .neq t (.bool p) (.bool q) = (do pure (.bool (!(← Op.equal t (.bool p) (.bool q))))) := rfl
    have hg : (eqGuard .neq t a b (.bool p) (.bool q)).run P w = .ok () w := by simp [eqGuard]
    simp only [execOp, h1, h2, hb', Sem.run_bind, Sem.run_pure, Result.andThen_ok, run_equalB hu, hg]
    rfl
theorem q_eqS {p q : ByteArray} (ha : evA env a = some (.v (.string p))) (hb : evA env b = some (.v (.string q))) : QOK P ⟨d, .binOp .eql t a b t2, ty, pos, af, gd⟩ env (.v (.bool (p.toList == q.toList))) :=
  q_of fun w s ρ hs hr => by
    have h1 : ρ a = _ := hr.1 a (by simp [Op.operands]) _ ha
    have h2 : ρ b = _ := hr.1 b (by simp [Op.operands]) _ hb
    refine ⟨.bool (p.toList == q.toList), ?_, rfl⟩
    simp [execOp, h1, h2, eqGuard, binOp, Op.stringOp]
theorem q_neS {p q : ByteArray} (ha : evA env a = some (.v (.string p))) (hb : evA env b = some (.v (.string q))) : QOK P ⟨d, .binOp .neq t a b t2, ty, pos, af, gd⟩ env (.v (.bool (!(p.toList == q.toList)))) :=
  q_of fun w s ρ hs hr => by
    have h1 : ρ a = _ := hr.1 a (by simp [Op.operands]) _ ha
    have h2 : ρ b = _ := hr.1 b (by simp [Op.operands]) _ hb
    refine ⟨.bool (!(p.toList == q.toList)), ?_, rfl⟩
    simp [execOp, h1, h2, eqGuard, binOp, Op.stringOp]
def isGo (P : Program) (f : FuncId) : Bool := match P.funcs[f]? with
  | some fn => !(fn.name == "runtime.NumGoroutine") && fn.body.isSome
  | none => false
def evL (env : Env) : List Operand → Option (List AV)
  | [] => some []
  | a :: as => match evA env a with
    | some x => match evL env as with
      | some xs => some (x :: xs)
      | none => none
    | none => none
theorem evL_rep {w : World} {M : Mset} {ρ : Operand → Value} : ∀ {as : List Operand} {xs : List AV}, (∀ a ∈ as, ∀ y, evA env a = some y → Rep w M y (ρ a)) → evL env as = some xs → RepL w M xs (as.map ρ)
  | [], xs, _, h => by cases h; rfl
  | a :: as, xs, hr, h => by
    simp only [evL] at h
    split at h
    · rename_i x hx
      split at h
      · rename_i ys hys
        cases h
        exact ⟨ρ a, as.map ρ, rfl, hr a (by simp) x hx, evL_rep (fun c hc => hr c (by simp [hc])) hys⟩
      · cases h
    · cases h
theorem run_callFunc {f : FuncId} (h : isGo P f = true) (vs : Array Value) (w : World) : (callFunc f vs).run P w = .ok (.enter f vs) w := by
  unfold isGo at h
  cases hf : P.funcs[f]? with
  | none => simp [hf] at h
  | some fn =>
    simp only [hf, Bool.and_eq_true, Bool.not_eq_true'] at h
    obtain ⟨h1, h2⟩ := h
    have h3 : fn.body ≠ none := by cases hb : fn.body <;> simp_all
    have h4 : ¬ fn.name = "runtime.NumGoroutine" := by simpa using h1
    simp [callFunc, hf, h4, h3]
theorem e_call {f : FuncId} {fo : Operand} {al : List Operand} {ts : Array TypeId} {fs cs avs : List AV} (hgo : isGo P f = true) (hf : evA env fo = some (.clo f fs cs)) (hal : evL env al = some avs)
    (h : CallsA P f (fs ++ (avs ++ cs)) s K) : EffOK P ⟨d, .call ⟨.value fo, al.toArray, ts⟩, ty, pos, af, gd⟩ env s K := by
  intro w ρ hs hr
  obtain ⟨us, vs, h1, h2, h3⟩ := hr.1 fo (by simp [Op.operands, Call.operands]) _ hf
  have h4 := evL_rep (ρ := ρ) (fun c hc y hy => hr.1 c (by simp [Op.operands, Call.operands, hc]) y hy) hal
  have hrun : (execOp ρ ⟨d, .call ⟨.value fo, al.toArray, ts⟩, ty, pos, af, gd⟩).run P w = .ok (.enter f (us ++ (al.map ρ ++ vs)).toArray) w := by
    simp [execOp, resolve, h1, Deferred.ofValue, invoke, run_callFunc hgo]
  rw [hrun]
  exact h w _ hs (RepL.append.2 ⟨_, _, rfl, h2, RepL.append.2 ⟨_, _, rfl, h4, h3⟩⟩)
theorem e_callF {f : FuncId} {al : List Operand} {ts : Array TypeId} {avs : List AV} (hgo : isGo P f = true) (hal : evL env al = some avs)
    (h : CallsA P f avs s K) : EffOK P ⟨d, .call ⟨.value (.func f), al.toArray, ts⟩, ty, pos, af, gd⟩ env s K :=
  e_call (fs := []) (cs := []) hgo rfl hal (by simpa using h)
theorem q_makeFunc {f : FuncId} {fl cl : List Operand} {fs cs : List AV} (hfl : evL env fl = some fs) (hcl : evL env cl = some cs) : QOK P ⟨d, .makeFunc (.func f) fl.toArray cl.toArray, ty, pos, af, gd⟩ env (.clo f fs cs) :=
  q_of fun w s ρ hs hr => by
    refine ⟨.func (.func f) (fl.map ρ).toArray (cl.map ρ).toArray, by simp [execOp, Instr.makeFunc], _, _, rfl, ?_, ?_⟩
    · exact evL_rep (fun c hc y hy => hr.1 c (by simp [Op.operands, hc]) y hy) hfl
    · exact evL_rep (fun c hc y hy => hr.1 c (by simp [Op.operands, hc]) y hy) hcl
def isC1 : AV → Bool
  | .v (.agg _) => false
  | .v (.tuple _) => false
  | .v _ => true
  | .sl _ _ => true
  | .slx _ _ => true
  | .box _ => true
  | .hdr _ _ _ => true
  | .clo _ _ _ => true
  | .yld _ _ _ => true
  | _ => false
theorem isC1_spec {w : World} {M : Mset} {x : AV} {y : Value} (h : isC1 x = true) (hr : Rep w M x y) : y.oneCell' = true := by
  cases x with
  | v z => obtain rfl : y = z := hr; cases y <;> first | rfl | (simp [isC1] at h; done)
  | sl _ _ => obtain ⟨ad, c, us, rfl, _⟩ := hr; rfl
  | slx _ _ => obtain ⟨ad, us, rfl, _⟩ := hr; rfl
  | box _ => obtain ⟨bl, off, us, rfl, _⟩ := hr; rfl
  | hdr _ _ _ => obtain ⟨c, e, rfl, _⟩ := hr; rfl
  | clo _ _ _ => obtain ⟨us, vs, rfl, _⟩ := hr; rfl
  | yld _ _ _ => obtain ⟨rfl, _⟩ := hr; rfl
  | agg _ => simp [isC1] at h
  | tup _ => simp [isC1] at h
  | any => simp [isC1] at h
theorem cells_one {v : Value} (h : v.oneCell' = true) : v.cells = #[v] := by cases v <;> first | rfl | simp [Value.oneCell'] at h
def cellsA : AV → List AV
  | .agg cs => cs
  | x => [x]
def okA : AV → Bool
  | .agg cs => cs.all isC1
  | x => isC1 x
theorem cellsA_spec {w : World} {M : Mset} {x : AV} {y : Value} (h : okA x = true) (hr : Rep w M x y) : RepL w M (cellsA x) y.cells.toList ∧ ∀ u ∈ y.cells.toList, u.oneCell' = true := by
  have one : isC1 x = true → cellsA x = [x] → RepL w M (cellsA x) y.cells.toList ∧ ∀ u ∈ y.cells.toList, u.oneCell' = true := by
    intro h1 h2
    have h3 := isC1_spec h1 hr
    rw [cells_one h3, h2]
    exact ⟨⟨y, [], rfl, hr, rfl⟩, fun u hu => by simp at hu; rw [hu]; exact h3⟩
  have all1 : ∀ (cs : List AV) (us : List Value), cs.all isC1 = true → RepL w M cs us → ∀ u ∈ us, u.oneCell' = true := by
    intro cs
    induction cs with
    | nil => intro us _ hr u hu; cases hr; simp at hu
    | cons c cs ih =>
      rintro us h1 ⟨v, vs, rfl, h2, h3⟩ u hu
      simp only [List.all_cons, Bool.and_eq_true] at h1
      rcases List.mem_cons.1 hu with rfl | hu
      · exact isC1_spec h1.1 h2
      · exact ih vs h1.2 h3 u hu
  cases x with
  | agg cs => obtain ⟨us, rfl, h2⟩ := hr; exact ⟨h2, all1 cs us h h2⟩
  | _ => exact one h rfl
theorem Mut.none_of_ge {w : World} (hs : Sat w s) {k : Nat} (h : w.heap.size ≤ k) : s k = none := by
  cases hk : s k with
  | none => rfl
  | some r =>
    have : Mut s k := by
      refine ⟨k, r, hk, ?_⟩
      have := hs.ok k r hk
      cases r with
      | cells _ => rfl
      | arr _ _ _ => rfl
      | map _ => rfl
      | raw _ => rfl
      | obj F cs => obtain ⟨cur, t, G, h1, h2, _⟩ := this; simp [fp, h2]
    have := hs.lt k this
    omega
theorem newQ {w : World} (hs : Sat w s) (cs : Array Value) (e : TypeId) : Sat (w.alloc (.cells cs e)) s ∧ Fr w (Mut s) (w.alloc (.cells cs e)) (Mut s) ∧
    ∀ us, us = cs.toList → cellsAt (w.alloc (.cells cs e)) (Mut s) w.heap.size 0 us := by
  obtain ⟨h1, h2⟩ := hs.ext (w' := w.alloc (.cells cs e)) rfl rfl rfl (by simp) (fun b hb => heap_alloc_old w _ hb)
  refine ⟨h1, h2, ?_⟩
  rintro us rfl
  refine ⟨fun _ hm => by have := hs.lt _ hm; omega, fun j u hj => ?_⟩
  rw [World.cell?_alloc_at _ _ _ _ rfl]
  simpa using hj
theorem newE {w : World} (hs : Sat w s) (cs : Array Value) (e : TypeId) (r : Res) (hfp : ∀ b, fp w.heap.size r b → b = w.heap.size)
    (hok : Fr w (Mut s) (w.alloc (.cells cs e)) (Mut (upd s w.heap.size r)) → ResOK (w.alloc (.cells cs e)) (Mut (upd s w.heap.size r)) w.heap.size r) :
    Sat (w.alloc (.cells cs e)) (upd s w.heap.size r) ∧ Fr w (Mut s) (w.alloc (.cells cs e)) (Mut (upd s w.heap.size r)) := by
  refine hs.step rfl rfl rfl (by simp) (fun b hb => ?_) (fun b hb _ => heap_alloc_old w _ hb) (fun b hb => ?_) hok
  · unfold World.shape?; rw [heap_alloc_old w _ hb]
  · have := hfp b hb; subst this; exact ⟨by simp, fun h => by omega⟩
theorem q_box (hx : evA env a = some x) (hk : okA x = true) : QOK P ⟨d, .box t a, ty, pos, af, gd⟩ env (.box (cellsA x)) := by
  refine QOK.intro fun w s ρ hs hr => ?_
  obtain ⟨h1, h2⟩ := cellsA_spec hk (hr.1 a (by simp [Op.operands]) _ hx)
  obtain ⟨g1, g2, g3⟩ := newQ hs (ρ a).cells t
  refine ⟨.pointer (some ⟨w.heap.size, 0, none⟩), _, by simp [execOp, Instr.box, newVar, newRow], ⟨w.heap.size, 0, _, rfl, RepL.mono g2 _ _ h1, g3 _ rfl⟩, g1, g2⟩
theorem e_box (hx : evA env a = some x) (hk : okA x = true) (h : ∀ k, s k = none → K (ptv k 0) (upd s k (.cells (cellsA x)))) : EffOK P ⟨d, .box t a, ty, pos, af, gd⟩ env s K := by
  intro w ρ hs hr
  obtain ⟨h1, h2⟩ := cellsA_spec hk (hr.1 a (by simp [Op.operands]) _ hx)
  obtain ⟨g1, g2⟩ := newE hs (ρ a).cells t (.cells (cellsA x)) (fun b hb => hb) (fun f => ⟨_, t, heap_alloc_new w _, RepL.mono f _ _ h1⟩)
  have hrun : (execOp ρ ⟨d, .box t a, ty, pos, af, gd⟩).run P w = .ok (.value (.pointer (some ⟨w.heap.size, 0, none⟩))) (w.alloc (.cells (ρ a).cells t)) := by
    simp [execOp, Instr.box, newVar, newRow]
  rw [hrun]
  exact ⟨ptv w.heap.size 0, _, rfl, g1, g2, h _ (Mut.none_of_ge hs (Nat.le_refl _))⟩
theorem zrA_spec {zs : List Value} (h : zrA P t = some zs) : ∃ z, (∀ w, (zeroValue t).run P w = .ok z w) ∧ z.cells.toList = zs := by
  unfold zrA at h
  cases hi : P.info? t with
  | none => simp [hi] at h
  | some i =>
    cases hz : i.zero with
    | none => simp [hi, hz] at h
    | some z =>
      simp only [hi, hz] at h
      cases hb : Nat.beq z.cells.size i.size <;> simp only [hb, cond_true, cond_false] at h
      · cases h
      · cases h
        exact ⟨z, fun w => by simp [zeroValue, typeInfo, hi, hz], rfl⟩
theorem RepL_v {w : World} {M : Mset} : ∀ (zs : List Value), RepL w M (zs.map .v) zs
  | [] => rfl
  | z :: zs => ⟨z, zs, rfl, rfl, RepL_v zs⟩
theorem e_alloc {zs : List Value} (hz : zrA P t = some zs) (h : ∀ k, s k = none → K (ptv k 0) (upd s k (.cells (zs.map .v)))) : EffOK P ⟨d, .alloc t, ty, pos, af, gd⟩ env s K := by
  intro w ρ hs hr
  obtain ⟨z, h1, h2⟩ := zrA_spec hz
  obtain ⟨g1, g2⟩ := newE hs z.cells t (.cells (zs.map .v)) (fun b hb => hb) (fun f => ⟨_, t, heap_alloc_new w _, by rw [h2]; exact RepL_v zs⟩)
  have hrun : (execOp ρ ⟨d, .alloc t, ty, pos, af, gd⟩).run P w = .ok (.value (.pointer (some ⟨w.heap.size, 0, none⟩))) (w.alloc (.cells z.cells t)) := by
    simp [execOp, Instr.alloc, newVar, newRow, h1 w]
  rw [hrun]
  exact ⟨ptv w.heap.size 0, _, rfl, g1, g2, h _ (Mut.none_of_ge hs (Nat.le_refl _))⟩
theorem cell_res {w : World} {k : Nat} {cur : Array Value} {e : TypeId} (h : w.heap[k]? = some (.cells cur e (0, 0))) (j : Nat) : w.cell? ⟨k, j, none⟩ = cur[j]? := cell_of_row w k j cur e (0, 0) h
theorem e_load {k off : Nat} {cs : List AV} (hT : isSc P t = true) (ha : evA env a = some (ptv k off)) (hk : s k = some (.cells cs)) (hx : nth cs off = some x) (h : K x s) : EffOK P ⟨d, .load t a, ty, pos, af, gd⟩ env s K := by
  intro w ρ hs hr
  have h1 : ρ a = _ := hr.1 a (by simp [Op.operands]) _ ha
  obtain ⟨cur, e, h2, h3⟩ := hs.ok k _ hk
  obtain ⟨u, h4, h5⟩ := RepL.get h3 off x hx
  have hc : w.cell? ⟨k, off, none⟩ = some u := by rw [cell_res h2]; simpa using h4
  have hrun : (execOp ρ ⟨d, .load t a, ty, pos, af, gd⟩).run P w = .ok (.value u) w := by
    simp [execOp, h1, Instr.loadAt, Instr.sureAddr, loadVar, isAgg_sc hT, hc]
  rw [hrun]
  exact ⟨x, s, h5, hs, Fr.refl _ _, h⟩
theorem e_loadN {k off n : Nat} {cs xs ds es : List AV} (hT : agN P t = some n) (ha : evA env a = some (ptv k off)) (hk : s k = some (.cells cs)) (hcs : cs = ds ++ (xs ++ es)) (hd : ds.length = off) (hn : xs.length = n) (h : K (.agg xs) s) :
    EffOK P ⟨d, .load t a, ty, pos, af, gd⟩ env s K := by
  intro w ρ hs hr
  have h1 : ρ a = _ := hr.1 a (by simp [Op.operands]) _ ha
  obtain ⟨cur, e, h2, h3⟩ := hs.ok k _ hk
  subst hcs
  obtain ⟨u, v, h4, h5, h6⟩ := RepL.append.1 h3
  obtain ⟨v, q, rfl, h7, h8⟩ := RepL.append.1 h6
  have hul := RepL.length h5
  have hvl := RepL.length h7
  have hrun0 := run_loadCells_list (P := P) w ⟨k, off, none⟩ v fun j z hj => by
    have hlt := (List.getElem?_eq_some_iff.1 hj).1
    rw [Addr.add_lit, cell_res h2, ← Array.getElem?_toList, h4, ← hd, ← hul, List.getElem?_append_right (by omega), Nat.add_sub_cancel_left, List.getElem?_append_left hlt]
    exact hj
  rw [hvl, hn] at hrun0
  have hrun : (execOp ρ ⟨d, .load t a, ty, pos, af, gd⟩).run P w = .ok (.value (.agg v.toArray)) w := by
    simp [execOp, h1, Instr.loadAt, Instr.sureAddr, loadVar, isAgg_ag hT, hrun0]
  rw [hrun]
  exact ⟨.agg xs, s, ⟨v, rfl, h7⟩, hs, Fr.refl _ _, h⟩
theorem e_loadE {k sz i j e : Nat} {xs : List (List AV)} {el : List AV} (hT : isSc P t = true) (ha : evA env a = some (epv k sz i j)) (hk : s k = some (.arr e sz xs)) (hel : nth xs i = some el) (hx : nth el j = some x) (h : K x s) :
    EffOK P ⟨d, .load t a, ty, pos, af, gd⟩ env s K := by
  intro w ρ hs hr
  have h1 : ρ a = _ := hr.1 a (by simp [Op.operands]) _ ha
  obtain ⟨cap, cur, h2, h3, h4, h5, h6⟩ := hs.ok k _ hk
  obtain ⟨p, u, q, g1, g2, g3, g4⟩ := RepRows.get h6 i el hel
  obtain ⟨z, g5, g6⟩ := RepL.get g4 j x hx
  have hj := (List.getElem?_eq_some_iff.1 g5).1
  have hc : w.cell? ⟨k, i * sz + j, none⟩ = some z := by
    rw [cell_res h2]
    have h7 : (cur.toList.take (xs.length * sz))[i * sz + j]? = some z := by
      rw [g1, ← g2, List.getElem?_append_right (by omega), Nat.add_sub_cancel_left, List.getElem?_append_left hj]
      exact g5
    rw [List.getElem?_take] at h7
    split at h7
    · simpa using h7
    · cases h7
  have hrun : (execOp ρ ⟨d, .load t a, ty, pos, af, gd⟩).run P w = .ok (.value z) w := by
    simp [execOp, h1, Instr.loadAt, Instr.sureAddr, loadVar, isAgg_sc hT, hc]
  rw [hrun]
  exact ⟨x, s, g6, hs, Fr.refl _ _, h⟩
theorem e_loadEN {k sz i e : Nat} {xs : List (List AV)} {el : List AV} (hT : agN P t = some sz) (ha : evA env a = some (epv k sz i 0)) (hk : s k = some (.arr e sz xs)) (hel : nth xs i = some el) (h : K (.agg el) s) :
    EffOK P ⟨d, .load t a, ty, pos, af, gd⟩ env s K := by
  intro w ρ hs hr
  have h1 : ρ a = _ := hr.1 a (by simp [Op.operands]) _ ha
  obtain ⟨cap, cur, h2, h3, h4, h5, h6⟩ := hs.ok k _ hk
  obtain ⟨p, u, q, g1, g2, g3, g4⟩ := RepRows.get h6 i el hel
  have hrun0 := run_loadCells_list (P := P) w ⟨k, i * sz + 0, none⟩ u fun j z hj => by
    have hlt := (List.getElem?_eq_some_iff.1 hj).1
    rw [Addr.add_lit, cell_res h2, Nat.add_zero]
    have h7 : (cur.toList.take (xs.length * sz))[i * sz + j]? = some z := by
      rw [g1, ← g2, List.getElem?_append_right (by omega), Nat.add_sub_cancel_left, List.getElem?_append_left hlt]
      exact hj
    rw [List.getElem?_take] at h7
    split at h7
    · simpa using h7
    · cases h7
  rw [g3] at hrun0
  have hrun : (execOp ρ ⟨d, .load t a, ty, pos, af, gd⟩).run P w = .ok (.value (.agg u.toArray)) w := by
    simp only [Nat.add_zero] at h1 hrun0
    simp [execOp, h1, Instr.loadAt, Instr.sureAddr, loadVar, isAgg_ag hT, hrun0]
  rw [hrun]
  exact ⟨.agg el, s, ⟨u, rfl, g4⟩, hs, Fr.refl _ _, h⟩
end
end Go.Vc

set_option linter.unusedVariables false
set_option linter.unusedSimpArgs false
namespace Go.Vc
section
variable {P : Program} {env : Env} {s : St} {d : Option Nat} {ty : TypeId} {pos : String} {af : Array Edge} {gd : Option (Nat × Bool)}
variable {a b : Operand} {x y : AV} {t t2 : TypeId} {K : AV → St → Prop}
def szO (P : Program) (t : TypeId) : Option Nat := (P.info? t).map (·.size)
theorem szO_run {n : Nat} (h : szO P t = some n) (w : World) : (sizeOf t).run P w = .ok n w := by
  unfold szO at h
  cases hi : P.info? t with
  | none => simp [hi] at h
  | some i => simp [hi] at h; simp [sizeOf, typeInfo, hi, h]
theorem run_storeAt {n k off : Nat} {v : Value} {w : World} {cur : Array Value} {e : TypeId} (hT : szO P t = some n) (hn : v.cells.size = n) (h1 : ∀ u ∈ v.cells.toList, u.oneCell' = true)
    (hk : w.heap[k]? = some (.cells cur e (0, 0))) (hl : off + n ≤ cur.size) :
    (Instr.storeAt t (.pointer (some ⟨k, off, none⟩)) v).run P w = .ok () (w.setRow k (cur.toList.take off ++ v.cells.toList ++ cur.toList.drop (off + n)).toArray) := by
  have hst := run_storeCells_at P k off e v.cells.toList 0 cur w hk (by simpa [hn] using hl) h1
  simp only [Nat.add_zero] at hst
  have hlen : v.cells.toList.length = n := by simpa using hn
  rw [hlen] at hst
  simp [Instr.storeAt, Instr.sureAddr, storeVar, szO_run hT, hn, hst]
theorem setRowS {w : World} {k : Nat} {r0 r : Res} {cur cur' : Array Value} {e : TypeId} (hs : Sat w s) (hk : s k = some r0) (hfp : ∀ b, fp k r0 b ↔ b = k) (hfp' : ∀ b, fp k r b ↔ b = k)
    (hb : w.heap[k]? = some (.cells cur e (0, 0))) (hsz : cur'.size = cur.size)
    (hok : Fr w (Mut s) (w.setRow k cur') (Mut (upd s k r)) → ResOK (w.setRow k cur') (Mut (upd s k r)) k r) :
    Sat (w.setRow k cur') (upd s k r) ∧ Fr w (Mut s) (w.setRow k cur') (Mut (upd s k r)) := by
  have hlt : k < w.heap.size := (Array.getElem?_eq_some_iff.1 hb).1
  refine hs.step rfl rfl rfl (by simp) (fun b hb' => ?_) (fun b hb' hn => ?_) (fun b hb' => ?_) hok
  · unfold World.shape?
    by_cases h : b = k
    · subst h; rw [setRow_heap w b cur cur' e _ hb, hb]; simp [hsz]
    · rw [setRow_other w k b cur' h]
  · exact setRow_other w k b cur' fun h => hn r0 hk ((hfp b).2 h)
  · have := (hfp' b).1 hb'; subst this; exact ⟨by simpa using hlt, fun _ => ⟨r0, hk, (hfp b).2 rfl⟩⟩
theorem e_storeG {k off n : Nat} {cs ds xs es : List AV} (hT : szO P t = some n) (ha : evA env a = some (ptv k off)) (hb : evA env b = some x) (hx : okA x = true) (hn : (cellsA x).length = n) (hk : s k = some (.cells cs))
    (hcs : cs = ds ++ (xs ++ es)) (hd : ds.length = off) (hxn : xs.length = n) (h : K (.v undef) (upd s k (.cells (ds ++ (cellsA x ++ es))))) : EffOK P ⟨d, .store t a b, ty, pos, af, gd⟩ env s K := by
  intro w ρ hs hr
  have h1 : ρ a = _ := hr.1 a (by simp [Op.operands]) _ ha
  obtain ⟨h2, h3⟩ := cellsA_spec hx (hr.1 b (by simp [Op.operands]) _ hb)
  obtain ⟨cur, e, h4, h5⟩ := hs.ok k _ hk
  subst hcs
  obtain ⟨u, v, g1, g2, g3⟩ := RepL.append.1 h5
  obtain ⟨v, q, rfl, g4, g5⟩ := RepL.append.1 g3
  have hul := RepL.length g2
  have hvl := RepL.length g4
  have hql := RepL.length g5
  have hsl : (ρ b).cells.size = n := by have := RepL.length h2; simpa [hn] using this
  have hcl : cur.size = u.length + (v.length + q.length) := by rw [← Array.length_toList, g1]; simp
  have hrun := run_storeAt (w := w) hT hsl h3 h4 (off := off) (by omega)
  have he : (cur.toList.take off ++ (ρ b).cells.toList ++ cur.toList.drop (off + n)) = u ++ ((ρ b).cells.toList ++ q) := by
    rw [g1, List.append_assoc]
    congr 1
    · rw [List.take_append_of_le_length (by omega)]; exact List.take_of_length_le (by omega)
    · congr 1
      rw [List.drop_append, List.drop_append, List.drop_of_length_le (by omega), List.drop_of_length_le (l := v) (by omega)]
      rw [show off + n - u.length - v.length = 0 by omega]
      simp
  rw [he] at hrun
  have hrun' : (execOp ρ ⟨d, .store t a b, ty, pos, af, gd⟩).run P w = .ok .skip (w.setRow k (u ++ ((ρ b).cells.toList ++ q)).toArray) := by
    simp [execOp, h1, hrun]
  rw [hrun']
  obtain ⟨s1, s2⟩ := setRowS (cur' := (u ++ ((ρ b).cells.toList ++ q)).toArray) (r := .cells (ds ++ (cellsA x ++ es))) hs hk (fun b => Iff.rfl) (fun b => Iff.rfl) h4
    (by simp [hcl, hsl]; omega)
    (fun f => ⟨_, e, setRow_heap w k cur _ e _ h4, RepL.append.2 ⟨_, _, rfl, RepL.mono f _ _ g2, RepL.append.2 ⟨_, _, rfl, RepL.mono f _ _ h2, RepL.mono f _ _ g5⟩⟩⟩)
  exact ⟨.v undef, _, rfl, s1, s2, h⟩
theorem split_at {α : Type} : ∀ {l : List α} {i : Nat} {x : α}, nth l i = some x → ∃ a b, l = a ++ ([x] ++ b) ∧ a.length = i ∧ ∀ y, l.set i y = a ++ ([y] ++ b)
  | [], _, _, h => by cases h
  | x :: l, 0, y, h => by cases h; exact ⟨[], l, rfl, rfl, fun y => rfl⟩
  | x :: l, i + 1, y, h => by
    obtain ⟨a, b, h1, h2, h3⟩ := split_at (l := l) h
    exact ⟨x :: a, b, by simp [h1], by simp [h2], fun y => by simp [h3]⟩
theorem cellsA_one {x : AV} (h : isC1 x = true) : cellsA x = [x] ∧ okA x = true := by
  cases x <;> first | exact ⟨rfl, h⟩ | (simp [isC1] at h; done)
theorem e_store {k off : Nat} {cs : List AV} {x0 : AV} (hT : szO P t = some 1) (ha : evA env a = some (ptv k off)) (hb : evA env b = some x) (hx : isC1 x = true) (hk : s k = some (.cells cs)) (hel : nth cs off = some x0)
    (h : K (.v undef) (upd s k (.cells (cs.set off x)))) : EffOK P ⟨d, .store t a b, ty, pos, af, gd⟩ env s K := by
  obtain ⟨p, q, h1, h2, h3⟩ := split_at hel
  obtain ⟨h4, h5⟩ := cellsA_one hx
  rw [h3] at h
  exact e_storeG hT ha hb h5 (by rw [h4]; rfl) hk h1 h2 rfl (by rw [h4]; exact h)
theorem e_storeN {k n : Nat} {cs : List AV} (hT : szO P t = some n) (ha : evA env a = some (ptv k 0)) (hb : evA env b = some x) (hx : okA x = true) (hn : (cellsA x).length = n) (hk : s k = some (.cells cs)) (hc : cs.length = n)
    (h : K (.v undef) (upd s k (.cells (cellsA x)))) : EffOK P ⟨d, .store t a b, ty, pos, af, gd⟩ env s K :=
  e_storeG (ds := []) (xs := cs) (es := []) hT ha hb hx hn hk (by simp) rfl hc (by simpa using h)
theorem RepRows.split {w : World} {M : Mset} {sz : Nat} : ∀ {xs ys : List (List AV)} {us : List Value}, RepRows w M sz (xs ++ ys) us ↔ ∃ u v, us = u ++ v ∧ RepRows w M sz xs u ∧ RepRows w M sz ys v
  | [], ys, us => ⟨fun h => ⟨[], us, rfl, rfl, h⟩, fun ⟨u, v, h1, h2, h3⟩ => by cases h2; simpa [h1] using h3⟩
  | x :: xs, ys, us => by
    constructor
    · rintro ⟨u, us', rfl, h2, h3, h4⟩
      obtain ⟨p, q, rfl, h5, h6⟩ := RepRows.split.1 h4
      exact ⟨u ++ p, q, by simp, ⟨u, p, rfl, h2, h3, h5⟩, h6⟩
    · rintro ⟨p, q, rfl, ⟨u, us', rfl, h2, h3, h4⟩, h5⟩
      exact ⟨u, us' ++ q, by simp, h2, h3, RepRows.split.2 ⟨us', q, rfl, h4, h5⟩⟩
theorem e_storeE {k sz i j e : Nat} {xs : List (List AV)} {el : List AV} {x0 : AV} (hT : szO P t = some 1) (ha : evA env a = some (epv k sz i j)) (hb : evA env b = some x) (hx : isC1 x = true) (hk : s k = some (.arr e sz xs))
    (hel : nth xs i = some el) (hj : nth el j = some x0) (h : K (.v undef) (upd s k (.arr e sz (xs.set i (el.set j x))))) : EffOK P ⟨d, .store t a b, ty, pos, af, gd⟩ env s K := by
  intro w ρ hs hr
  have h1 : ρ a = _ := hr.1 a (by simp [Op.operands]) _ ha
  obtain ⟨h4', h5'⟩ := cellsA_one hx
  have hrb := hr.1 b (by simp [Op.operands]) _ hb
  have hc1 := isC1_spec hx hrb
  obtain ⟨cap, cur, h2, h3, h4, h5, h6⟩ := hs.ok k _ hk
  obtain ⟨p, q, rfl, hp, hset⟩ := split_at hel
  obtain ⟨p', q', rfl, hp', hset'⟩ := split_at hj
  obtain ⟨u1, v1, g1, g2, g3⟩ := RepRows.split.1 h6
  obtain ⟨u2, v2, rfl, g4, g5⟩ := RepRows.split.1 g3
  obtain ⟨u3, v3, rfl, g6, g7, g8⟩ := g4
  cases g8
  obtain ⟨u4, v4, rfl, g9, g10⟩ := RepL.append.1 g7
  obtain ⟨z, v5, rfl, g11, g12⟩ := g10
  have hl1 : u1.length = i * sz := by rw [RepRows.length g2, hp]
  have hl4 : u4.length = j := by rw [RepL.length g9, hp']
  have hlt := (List.getElem?_eq_some_iff.1 (by rw [← nth_eq]; exact hel)).1
  have hcur : cur.toList = (u1 ++ (u4 ++ z :: v5 ++ [] ++ v2)) ++ cur.toList.drop ((p ++ ([p' ++ ([x0] ++ q')] ++ q)).length * sz) := by
    rw [← g1, List.take_append_drop]
  generalize hD : cur.toList.drop ((p ++ ([p' ++ ([x0] ++ q')] ++ q)).length * sz) = D at hcur
  have hsize : cur.size = (u1 ++ (u4 ++ z :: v5 ++ [] ++ v2) ++ D).length := by rw [← hcur]; simp
  have hrun := run_storeAt (w := w) (v := ρ b) hT (by rw [cells_one hc1]; rfl) (by rw [cells_one hc1]; intro u hu; simp at hu; rw [hu]; exact hc1) h2 (off := i * sz + j) (by
    rw [hsize]; simp; omega)
  have he : (cur.toList.take (i * sz + j) ++ (ρ b).cells.toList ++ cur.toList.drop (i * sz + j + 1)) = (u1 ++ (u4 ++ ρ b :: v5 ++ v2)) ++ D := by
    have e1 : cur.toList = (u1 ++ u4) ++ (z :: (v5 ++ v2 ++ D)) := by rw [hcur]; simp
    have e2 : (u1 ++ u4).length = i * sz + j := by simp [hl1, hl4]
    rw [cells_one hc1, e1]
    rw [List.take_append_of_le_length (by omega), List.take_of_length_le (by omega)]
    rw [List.drop_append, List.drop_of_length_le (by omega), e2]
    rw [show i * sz + j + 1 - (i * sz + j) = 1 by omega]
    simp
  rw [he] at hrun
  have hrun' : (execOp ρ ⟨d, .store t a b, ty, pos, af, gd⟩).run P w = .ok .skip (w.setRow k ((u1 ++ (u4 ++ ρ b :: v5 ++ v2)) ++ D).toArray) := by
    simp [execOp, h1, hrun]
  rw [hrun']
  rw [hset, hset'] at h
  have hrows : ∀ (w' : World) (M' : Mset), Fr w (Mut s) w' M' → RepRows w' M' sz (p ++ ([p' ++ ([x] ++ q')] ++ q)) (u1 ++ (u4 ++ ρ b :: v5 ++ v2)) := by
    intro w' M' f
    refine RepRows.split.2 ⟨u1, _, rfl, RepRows.mono f _ _ _ g2, RepRows.split.2 ⟨u4 ++ ρ b :: v5, v2, rfl, ⟨u4 ++ ρ b :: v5, [], by simp, by simpa using g6, ?_, rfl⟩, RepRows.mono f _ _ _ g5⟩⟩
    exact RepL.append.2 ⟨u4, ρ b :: v5, rfl, RepL.mono f _ _ g9, ρ b, v5, rfl, Rep.mono f _ _ hrb, RepL.mono f _ _ g12⟩
  have hlen2 : (u1 ++ (u4 ++ ρ b :: v5 ++ v2)).length = (p ++ ([p' ++ ([x] ++ q')] ++ q)).length * sz := RepRows.length (hrows w _ (Fr.refl _ _))
  obtain ⟨s1, s2⟩ := setRowS (cur' := ((u1 ++ (u4 ++ ρ b :: v5 ++ v2)) ++ D).toArray) (r := .arr e sz (p ++ ([p' ++ ([x] ++ q')] ++ q))) hs hk (fun b => Iff.rfl) (fun b => Iff.rfl) h2
    (by rw [hsize]; simp) (fun f => ⟨cap, _, setRow_heap w k cur _ e _ h2, by rw [← h3, hsize]; simp, by simpa using h4, h5, by
      rw [← hlen2]
      simp only [List.take_left]
      exact hrows _ _ f⟩)
  exact ⟨.v undef, _, rfl, s1, s2, h⟩
end
end Go.Vc

set_option linter.unusedVariables false
set_option linter.unusedSimpArgs false
namespace Go.Vc
section
variable {P : Program} {env : Env} {s : St} {d : Option Nat} {ty : TypeId} {pos : String} {af : Array Edge} {gd : Option (Nat × Bool)}
variable {a b : Operand} {x y : AV} {t t2 : TypeId} {K : AV → St → Prop}
theorem e_storeEN {k sz i e : Nat} {xs : List (List AV)} {el : List AV} (hT : szO P t = some sz) (ha : evA env a = some (epv k sz i 0)) (hb : evA env b = some x) (hx : okA x = true) (hn : (cellsA x).length = sz) (hk : s k = some (.arr e sz xs))
    (hel : nth xs i = some el) (h : K (.v undef) (upd s k (.arr e sz (xs.set i (cellsA x))))) : EffOK P ⟨d, .store t a b, ty, pos, af, gd⟩ env s K := by
  intro w ρ hs hr
  have h1 : ρ a = _ := hr.1 a (by simp [Op.operands]) _ ha
  obtain ⟨hc, hc1⟩ := cellsA_spec hx (hr.1 b (by simp [Op.operands]) _ hb)
  obtain ⟨cap, cur, h2, h3, h4, h5, h6⟩ := hs.ok k _ hk
  obtain ⟨p, q, rfl, hp, hset⟩ := split_at hel
  obtain ⟨u1, v1, g1, g2, g3⟩ := RepRows.split.1 h6
  obtain ⟨u2, v2, rfl, g4, g5⟩ := RepRows.split.1 g3
  obtain ⟨u3, v3, rfl, g6, g7, g8⟩ := g4
  cases g8
  have hl1 : u1.length = i * sz := by rw [RepRows.length g2, hp]
  have hbl : (ρ b).cells.size = sz := by have := RepL.length hc; simpa [hn] using this
  have hcur : cur.toList = (u1 ++ (u3 ++ [] ++ v2)) ++ cur.toList.drop ((p ++ ([el] ++ q)).length * sz) := by
    rw [← g1, List.take_append_drop]
  generalize hD : cur.toList.drop ((p ++ ([el] ++ q)).length * sz) = D at hcur
  have hsize : cur.size = (u1 ++ (u3 ++ [] ++ v2) ++ D).length := by rw [← hcur]; simp
  have hrun := run_storeAt (w := w) (v := ρ b) hT hbl hc1 h2 (off := i * sz + 0) (by rw [hsize]; simp; omega)
  simp only [Nat.add_zero] at hrun
  have he : (cur.toList.take (i * sz) ++ (ρ b).cells.toList ++ cur.toList.drop (i * sz + sz)) = (u1 ++ ((ρ b).cells.toList ++ v2)) ++ D := by
    have e1 : cur.toList = u1 ++ (u3 ++ (v2 ++ D)) := by rw [hcur]; simp
    rw [e1]
    rw [List.take_append_of_le_length (by omega), List.take_of_length_le (by omega)]
    rw [List.drop_append, List.drop_of_length_le (by omega), hl1, List.drop_append, List.drop_of_length_le (l := u3) (by omega)]
    rw [show i * sz + sz - i * sz - u3.length = 0 by omega]
    simp
  rw [he] at hrun
  have hrun' : (execOp ρ ⟨d, .store t a b, ty, pos, af, gd⟩).run P w = .ok .skip (w.setRow k ((u1 ++ ((ρ b).cells.toList ++ v2)) ++ D).toArray) := by
    simp only [Nat.add_zero] at h1
    simp [execOp, h1, hrun]
  rw [hrun']
  rw [hset] at h
  have hbl' : (ρ b).cells.toList.length = sz := by simpa using hbl
  have hrows : ∀ (w' : World) (M' : Mset), Fr w (Mut s) w' M' → RepRows w' M' sz (p ++ ([cellsA x] ++ q)) (u1 ++ ((ρ b).cells.toList ++ v2)) := by
    intro w' M' f
    exact RepRows.split.2 ⟨u1, _, rfl, RepRows.mono f _ _ _ g2, RepRows.split.2 ⟨_, v2, rfl, ⟨_, [], by simp, hbl', RepL.mono f _ _ hc, rfl⟩, RepRows.mono f _ _ _ g5⟩⟩
  have hlen2 : (u1 ++ ((ρ b).cells.toList ++ v2)).length = (p ++ ([cellsA x] ++ q)).length * sz := RepRows.length (hrows w _ (Fr.refl _ _))
  obtain ⟨s1, s2⟩ := setRowS (cur' := ((u1 ++ ((ρ b).cells.toList ++ v2)) ++ D).toArray) (r := .arr e sz (p ++ ([cellsA x] ++ q))) hs hk (fun b => Iff.rfl) (fun b => Iff.rfl) h2
    (by rw [hsize]; simp; omega) (fun f => ⟨cap, _, setRow_heap w k cur _ e _ h2, by rw [← h3, hsize]; simp; omega, by simpa using h4, h5, by
      rw [← hlen2]
      simp only [List.take_left]
      exact hrows _ _ f⟩)
  exact ⟨.v undef, _, rfl, s1, s2, h⟩
def OwnSt (s0 : St) (x : AV) (e sz : Nat) (xs : List (List AV)) (s : St) : Prop :=
  (xs = [] ∧ s = s0 ∧ (x = .v (.slice none 0 0) ∨ x = .slx sz [])) ∨ (∃ k, x = .hdr k sz xs.length ∧ s0 k = none ∧ s = upd s0 k (.arr e sz xs))
theorem OwnSt.le {s0 : St} {e sz : Nat} {xs : List (List AV)} (h : OwnSt s0 x e sz xs s) : Le s0 s := by
  rcases h with ⟨_, rfl, _⟩ | ⟨k, _, hk, rfl⟩
  · exact Le.refl _
  · intro i r hi
    rw [upd_ne _ _ (fun e => by subst e; rw [hk] at hi; cases hi)]; exact hi
theorem OwnSt.nil (s0 : St) (e sz : Nat) : OwnSt s0 (.v (.slice none 0 0)) e sz [] s0 := .inl ⟨rfl, rfl, .inl rfl⟩
theorem OwnSt.slx (s0 : St) (e sz : Nat) : OwnSt s0 (.slx sz []) e sz [] s0 := .inl ⟨rfl, rfl, .inr rfl⟩
theorem OwnSt.other {s0 : St} {e sz p : Nat} {xs : List (List AV)} {r0 r : Res} (h : OwnSt s0 x e sz xs s) (hp : s0 p = some r0) : OwnSt (upd s0 p r) x e sz xs (upd s p r) := by
  rcases h with ⟨h1, rfl, h2⟩ | ⟨k, h1, hk, rfl⟩
  · exact .inl ⟨h1, rfl, h2⟩
  · have hne : k ≠ p := fun e => by subst e; rw [hk] at hp; cases hp
    exact .inr ⟨k, h1, by rw [upd_ne _ _ hne]; exact hk, upd_comm s0 hne _ _⟩
theorem OwnSt.get {s0 : St} {e sz p : Nat} {xs : List (List AV)} {r0 : Res} (h : OwnSt s0 x e sz xs s) (hp : s0 p = some r0) : s p = some r0 := h.le p r0 hp
theorem ale_nil (sz : Nat) : ALe (.v (.slice none 0 0)) (.sl sz []) := fun w M y h => by
  cases h; exact ⟨none, 0, [], rfl, Nat.le_refl _, Nat.zero_le _, rfl, .inl rfl⟩
theorem ale_nilx (sz : Nat) : ALe (.v (.slice none 0 0)) (.slx sz []) := fun w M y h => by
  cases h; exact ⟨none, [], rfl, Nat.zero_le _, rfl, .inl rfl⟩
theorem ale_slx (sz : Nat) (xs : List (List AV)) : ALe (.slx sz xs) (.sl sz xs) := fun w M y ⟨a, us, h1, h2, h3, h4⟩ =>
  ⟨a, xs.length, us, h1, Nat.le_refl _, h2, h3, h4⟩
theorem OwnSt.frz {s0 : St} {e sz : Nat} {xs : List (List AV)} (h : OwnSt s0 x e sz xs s) : Cv s s0 x (.sl sz xs) := by
  rcases h with ⟨rfl, rfl, rfl | rfl⟩ | ⟨k, rfl, hk, rfl⟩
  · exact Cv.ale (Le.refl _) (ale_nil sz)
  · exact Cv.ale (Le.refl _) (ale_slx sz [])
  · have := Cv.frz (s := upd s0 k (.arr e sz xs)) (s' := s0) (OwnSt.le (.inr ⟨k, rfl, hk, rfl⟩ : OwnSt s0 (.hdr k sz xs.length) e sz xs _)) (upd_same _ _ _) hk (Nat.le_refl xs.length)
    rwa [List.take_length] at this
def SrcOK (s : St) (y : AV) (sz : Nat) (ys : List (List AV)) : Prop := ∀ w v, Sat w s → Rep w (Mut s) y v → ∃ ad c us, v = .slice ad ys.length c ∧ RepRows w (Mut s) sz ys us ∧
  (ys = [] ∨ ∃ b off, ad = some ⟨b, off, none⟩ ∧ ∀ j u, us[j]? = some u → w.cell? ⟨b, off + j, none⟩ = some u)
theorem SrcOK.sl (sz : Nat) (ys : List (List AV)) : SrcOK s (.sl sz ys) sz ys := fun w v _ ⟨a, c, us, h1, h2, h3, h4, h5⟩ =>
  ⟨a, c, us, h1, h4, h5.imp id fun ⟨b, off, g1, g2⟩ => ⟨b, off, g1, g2.2⟩⟩
theorem SrcOK.slx (sz : Nat) (ys : List (List AV)) : SrcOK s (.slx sz ys) sz ys := fun w v _ ⟨a, us, h1, h3, h4, h5⟩ =>
  ⟨a, _, us, h1, h4, h5.imp id fun ⟨b, off, g1, g2⟩ => ⟨b, off, g1, g2.2⟩⟩
theorem SrcOK.nil (sz : Nat) : SrcOK s (.v (.slice none 0 0)) sz [] := fun w v _ h => by cases h; exact ⟨none, 0, [], rfl, rfl, .inl rfl⟩
theorem SrcOK.arr {k e sz : Nat} {xs : List (List AV)} (hk : s k = some (.arr e sz xs)) : SrcOK s (.hdr k sz xs.length) sz xs := by
  rintro w v hs ⟨cap, e', rfl, h2, h3, h4⟩
  obtain ⟨cap', cur, g1, g2, g3, g4, g5⟩ := hs.ok k _ hk
  refine ⟨_, cap, _, rfl, g5, .inr ⟨k, 0, rfl, fun j u hj => ?_⟩⟩
  rw [List.getElem?_take] at hj
  split at hj
  · rw [cell_res g1]; simpa using hj
  · cases hj
theorem SrcOK.own {s0 : St} {e sz : Nat} {xs : List (List AV)} (h : OwnSt s0 x e sz xs s) : SrcOK s x sz xs := by
  rcases h with ⟨rfl, rfl, rfl | rfl⟩ | ⟨k, rfl, hk, rfl⟩
  · exact SrcOK.nil sz
  · exact SrcOK.slx sz []
  · exact SrcOK.arr (upd_same _ _ _)
def rowsC1 (xs : List (List AV)) : Prop := ∀ e ∈ xs, ∀ c ∈ e, isC1 c = true
theorem RepL.c1 {w : World} {M : Mset} : ∀ {cs : List AV} {us : List Value}, (∀ c ∈ cs, isC1 c = true) → RepL w M cs us → ∀ u ∈ us, u.oneCell' = true
  | [], us, _, h, u, hu => by cases h; simp at hu
  | c :: cs, us, h1, ⟨v, vs, h2, h3, h4⟩, u, hu => by
    subst h2
    rcases List.mem_cons.1 hu with rfl | hu
    · exact isC1_spec (h1 c (by simp)) h3
    · exact RepL.c1 (fun c hc => h1 c (by simp [hc])) h4 u hu
theorem RepRows.c1 {w : World} {M : Mset} {sz : Nat} : ∀ {xs : List (List AV)} {us : List Value}, rowsC1 xs → RepRows w M sz xs us → ∀ u ∈ us, u.oneCell' = true
  | [], us, _, h, u, hu => by cases h; simp at hu
  | x :: xs, us, h1, ⟨v, vs, h2, h3, h4, h5⟩, u, hu => by
    subst h2
    rcases List.mem_append.1 hu with hu | hu
    · exact RepL.c1 (h1 x (by simp)) h4 u hu
    · exact RepRows.c1 (fun e he => h1 e (by simp [he])) h5 u hu
theorem run_append_none {t e sz bb : Nat} (hT : slT P t = some (e, sz, bb)) (w : World) (base ad : Option Addr) (n cap c : Nat) (hn : n ≤ cap) (t2 : TypeId) (ht2 : slT P t2 = some (e, sz, bb)) :
    (Builtin.append_ #[t, t2] ty #[.slice base n cap, .slice ad 0 c]).run P w = .ok (.slice base n cap) w := by
  obtain ⟨hu, i, hi, hs, hb⟩ := slT_spec hT
  obtain ⟨hu2, _⟩ := slT_spec ht2
  have hf : (Builtin.firstCells sz 0 (.slice ad 0 c)).run P w = .ok #[] w := by
    cases ad with
    | none => simp [Builtin.firstCells]
    | some ad => simp [Builtin.firstCells, loadCells, loadCellsFrom]
  cases base <;> simp [Builtin.append_, run_underlying hu, run_underlying hu2, sizeOf, typeInfo, hi, hs, Builtin.lenOf, hn, hf, storeCells]
theorem newRow {w : World} {s0 : St} (hs : Sat w s) (hl : Le s0 s) (cur : Array Value) (e sz cap : Nat) (xs : List (List AV)) (hsz : cur.size = cap * sz) (hle : xs.length ≤ cap) (hcap : cap ≤ maxLen)
    (hr : RepRows w (Mut s) sz xs (cur.toList.take (xs.length * sz))) :
    Sat (w.drew.alloc (.cells cur e)) (upd s0 w.heap.size (.arr e sz xs)) ∧ Fr w (Mut s) (w.drew.alloc (.cells cur e)) (Mut (upd s0 w.heap.size (.arr e sz xs))) ∧ s0 w.heap.size = none := by
  obtain ⟨hs1, hf1⟩ := hs.drew
  have hlu : Le (upd s0 w.heap.size (.arr e sz xs)) (upd s w.heap.size (.arr e sz xs)) := by
    intro i r hi
    by_cases h : i = w.heap.size
    · subst h; rw [upd_same] at hi ⊢; exact hi
    · rw [upd_ne _ _ h] at hi ⊢; exact hl i r hi
  obtain ⟨g1, g2⟩ := newE (w := w.drew) hs1 cur e (.arr e sz xs) (fun b hb => hb) (fun f => ⟨cap, cur, heap_alloc_new w.drew _, hsz, hle, hcap, RepRows.mono f _ _ _ (RepRows.mono hf1 _ _ _ hr)⟩)
  have hsize : w.drew.heap.size = w.heap.size := rfl
  rw [hsize] at g1 g2
  refine ⟨g1.le hlu, hf1.trans (g2.trans (Fr.of_le hlu)), ?_⟩
  cases h : s0 w.heap.size with
  | none => rfl
  | some r => have := hl _ _ h; rw [Mut.none_of_ge hs (Nat.le_refl _)] at this; cases this
end
end Go.Vc
